/- Sym17 Ty Args Dg2 Dg3 Dg6 Di4 Di5 Di7 Di20 Di21 DiagArgs Rt2 Di24 Fb4 Fb5 Di22. No condition. -/
import Derived.Test.YtcbginhpibfgaaaGreatDoorFDoor
import Derived.Test.YtcbginhpibfgaaaGreatDoorDiG14
import Derived.Test.YtcbginhpibfgaaaGreatDoorFbG1
set_option linter.all false
namespace Go.Sy
open Go.ChangeShapes Go.WideShapes Go.ChangeAt Go.RowKit
section
variable {H:Type} {enc:TypeId×Value→H} {P:Program} {W W':World}
theorem kT(K:Kids P (· <P.types.size))(hz:∀t e,t<P.types.size→P.underlying t=some (.slice e)→0<P.cellsOf e){r:Reach} {b:Nat} {m:Nat} {t:TypeId} {v:Value} {d:DataW H} {ps:List MemPlace} {held:Bool}(ht:t<P.types.size)(hp:mK P m t=true)
 (hs:(match P.underlying t with|some (.struct _)=>false|_=>true)=true) (hval:Value.okWide P W r b t v) (h:DataW.Trod enc P W 0 (fun _=>true) held t v d ps) (hw:∀k∈d.weights P t,k≤reachBytes):
 ∃x,dO P m t [x]∧Rep W (fun b=>b<W.heap.size) (fun _=>none) v x:=by
 obtain⟨fuel,hf⟩:=h
 obtain⟨asq,h1,h2⟩:=yh K hz m t _ _ fuel ht hp hf hw
 have hc:v.cells.toList=[v]:=by
  cases m with
  |zero=>simp[mK] at hp
  |succ m=>
   unfold mK at hp
   unfold Value.okWide at hval
   split at hp
   all_goals(try(rename_i hu;rw[hu] at hval hs))
   all_goals first
    |(cases hp;done)
    |(cases hs;done)
    |(simp only[Cell.okWide,Cell.ok] at hval
      rw[hu] at hval
      cases v<;>first|rfl|(simp at hval))
    |(rename_i hu;rw[hu] at hval hs;simp only[Cell.okWide,Cell.ok] at hval;rw[hu] at hval;cases v<;>first|rfl|(simp at hval))
 rw[hc] at h2
 obtain⟨g1,g2⟩:=h2
 cases asq with
 |nil=>simp at g1
 |cons x asq=>
  have:asq=[]:=List.length_eq_zero_iff.1 (by simpa using g1)
  subst this
  exact⟨x,h1,(g2 0 x rfl).2⟩
end
end Go.Sy
namespace Go.Proofs.YtcbginhpibfgaaaGreatDoor
open Go Go.Sy
instance:TTb 179 1 8 false [(.nilFunc)]:=kTb
end Go.Proofs.YtcbginhpibfgaaaGreatDoor
namespace Go.Proofs.YtcbginhpibfgaaaGreatDoor
open Go Go.Sy
theorem ahx{α:Type} {R:α→Prop}(xs:List (List AV))(l:List α)(hl:l.length=xs.length)(h:∀(i:Nat) (x:List AV) (a:α),xs[i]? =some x→l[i]? =some a→R a):∀a∈l,R a:=by
 intro a ha
 obtain⟨i,hi⟩:=List.mem_iff_getElem?.1 ha
 obtain⟨x,hx⟩:∃x,xs[i]? =some x:=⟨_,List.getElem?_eq_getElem (by rw[←hl];exact(List.getElem?_eq_some_iff.1 hi).1)⟩
 exact h i x a hx hi
theorem wC{m:Int}(h:(Lit.int .u8 m).wf=true):0≤m∧m≤255:=by
 simp only[Lit.wf,Bool.and_eq_true,decide_eq_true_eq,IntKind.min,IntKind.max] at h
 simpa[IntKind.bits,IntKind.signed] using h
theorem Ii{m:Nat} {t:TypeId} {av:List AV}(hu:Tryz.prog.underlying t=some .bool)(h:dO Tryz.prog m t av):∃b,av=[.val (.bool b)]:=by
 cases m with
 |zero=>cases h
 |succ m=>unfold dO at h;rw[hu] at h;exact h
theorem mo{α β:Type}(g:α→β)(l:List α):l.flatMap (fun i=>[g i])=l.map g:=by
 induction l with
 |nil=>rfl
 |cons a l ih=>rw[List.flatMap_cons,ih];rfl
theorem lN{α:Type} {g:α→List AV} {Q:α→Prop} {m bn:Nat} {t e:TypeId} {av:List AV}(hu:Tryz.prog.underlying t=some (.slice e))(h:dO Tryz.prog m t av)(hb:Tryz.prog.bytesOf e=bn)(h8:1≤bn)
 (hx:∀n x,dO Tryz.prog n e x→∃a,x=g a∧Q a):∃(z:Bool) (l:List α),av=[.isl z (l.flatMap g) l.length]∧(∀a∈l,Q a)∧l.length<2^47∧(z=true→l=[]):=by
 obtain⟨n,rfl|⟨xs,rfl,h1,h2⟩⟩:=u6 hu h
 ·exact⟨true,[],rfl,by simp,Nat.two_pow_pos 47,fun _=>rfl⟩
 ·obtain⟨l,k1,k2⟩:=JD (R:=fun x a=>x=g a∧Q a) xs (fun x hx'=>hx n x (h1 x hx').2)
  refine⟨false,l,?_,ahx xs l k1 (fun i x a hx ha=>(k2 i x a hx ha).2),?_,fun h=>by cases h⟩
  ·rw[Dm (g:=g) xs l k1 (fun i x a hx ha=>(k2 i x a hx ha).1),k1]
  ·have h3:xs.length*1≤reachBytes:=Nat.le_trans (Nat.mul_le_mul_left _ (hb▸h8)) h2
   rw[k1];unfold reachBytes at h3;omega
end Go.Proofs.YtcbginhpibfgaaaGreatDoor
namespace Go.Dg
variable {F G D e A B:List Fo} {f:Fo} {n m i j k s t r u v w nx n1 l:Nat} {tab φ φ0 φ1:Nat→Bool}
theorem Sn{tab':Nat→Bool}:∀(m i s:Nat) (F:List Fo),i+m=n→s<2^i→(∀t,Ext n i s t→tab t=tab' t)→gen tab m i s F=gen tab' m i s F:=by
 intro m
 induction m with
 |zero=>
  intro i s F hi hs h
  rw[Ey,Ey,h s (wH hs (by omega))]
 |succ m ih=>
  intro i s F hi hs h
  have e1:=ih (i+1) s F (by omega) (u7 hs) (fun t ht=>h t ht.of_low)
  have e2:=ih (i+1) (s|||2^i) (gen tab' m (i+1) s F).1 (by omega) (kI hs) (fun t ht=>h t (ht.of_high hs))
  simp only[gen,e1,e2]
theorem EC{tab':Nat→Bool}(h:∀t,t<2^n→tab t=tab' t):fC n tab=fC n tab':=Sn n 0 0 [] (by omega) (by decide) (fun t ht=>h t ht.1)
end Go.Dg
namespace Go.Dg
variable {F G D e A B:List Fo} {f:Fo} {n m i j k s t r u v w nx n1 l:Nat} {tab φ φ0 φ1:Nat→Bool}
variable {X:Type} [DecidableEq X]{Y:Ur X} {x:X}
def cpl(n t:Nat):Nat:=2^n-1-t
theorem acj(ht:t<2^n):cpl n (cpl n t)=t:=by unfold cpl;omega
end Go.Dg
namespace Go.Dg
variable {F G D e A B:List Fo} {f:Fo} {n m i j k s t r u v w nx n1 l:Nat} {tab φ φ0 φ1:Nat→Bool}
theorem Qc(h:F.length≤k):(F.getD k default).lo=0∧(F.getD k default).hi=0:=by
 rw[List.getD_eq_getElem?_getD,List.getElem?_eq_none h];exact⟨rfl,rfl⟩
theorem EE(hb:Bnd F):∀(k m r:Nat),r≤k→r≤m→qY F t k r=qY F t m r:=by
 intro k
 induction k with
 |zero=>intro m r hk hm;rw[iY (by omega),iY (by omega)]
 |succ k ih=>
  intro m r hk hm
  by_cases h2:r<2
  ·rw[iY h2,iY h2]
  ·cases m with
   |zero=>omega
   |succ m=>
    have hl:(F.getD (r-2) default).lo<r∧(F.getD (r-2) default).hi<r:=by
     by_cases hr:r-2<F.length
     ·have:=hb (r-2) hr;omega
     ·have:=Qc (F:=F) (k:=r-2) (by omega);omega
    simp only[qY,if_neg h2]
    rw[ih m _ (by omega) (by omega),ih m _ (by omega) (by omega)]
theorem Lr(hb:Bnd F)(h2:¬r<2)(hr:r<F.length+2):aG F t r=if t.testBit (F.getD (r-2) default).v=true then aG F t (F.getD (r-2) default).hi else aG F t (F.getD (r-2) default).lo:=by
 have ho:=hb (r-2) (by omega)
 unfold aG
 obtain⟨k,rfl⟩:∃k,r=k+1:=⟨r-1,by omega⟩
 rw[qY,if_neg h2,EE hb k _ _ (by omega) (Nat.le_refl _),EE hb k _ _ (by omega) (Nat.le_refl _)]
theorem Ls(hb:Bnd F)(hr:F.length+2≤r):aG F t r=false:=by
 unfold aG
 obtain⟨k,rfl⟩:∃k,r=k+1:=⟨r-1,by omega⟩
 have:=Qc (F:=F) (k:=k+1-2) (by omega)
 rw[qY,if_neg (by omega),this.1,this.2,iY (by decide)]
 split<;>rfl
def lT(F:List Fo)(r m:Nat):List Bool:=(List.range m).map fun t=>aG F t r
theorem gU:(lT F r m).length=m:=by simp[lT]
theorem ahQ:lT F r (m+1)=lT F r m++[aG F m r]:=by simp[lT,List.range_succ]
end Go.Dg
set_option maxHeartbeats 4000000
set_option maxRecDepth 20000
namespace Go.Proofs.YtcbginhpibfgaaaGreatDoor
open Go Go.Sy Go.Dg
attribute [local irreducible] AO AL AC OpT ACall Ends DGo bK Thn Blk Nxt
variable {N N':Nat} {F F1 F2 G:List Fo} {L L':List Fk} {v lo hi n k k1 k2 k' i m s t a b r:Nat} {p q p' q':Int} {z z':Bool} {x y:Fk}
theorem acn(hn:n<16):ACall Tryz.prog 142 [.val (.int .u16 (U s)),.val (.int .i64 n)] [] 0 (.val (.bool (bit s n))) []:=by
 refine ak Tryz.func142 Tryz.ntmps142 rfl ?_
 repeat' (first|refine zqN ?_|refine aK ?_|refine aL ?_|(refine aM ?_ ?_<;>intro hc<;>try exact zqM))
 all_goals(refine Ends.mk2 zqI [] ?_;simp-dsimp(disch:=try exact vD) only[push_cast,simprocAttr,Tryz.f142];try exact zqF)
theorem WJ(h:s<65536):bit s n=s.testBit n:=by unfold bit;rw[Nat.mod_eq_of_lt h]
theorem ne12(x:Nat):((x:Int)+1+1=1)=False:=eq_false (by omega)
def vlI(z:Bool)(p q:Int)(F:List Fo)(N t:Nat)(v:Bool)(r:{r:Nat // aG F t r=v∧r<2^50}):St:=
 ⟨34,0,[(1,.val (.int .i64 r.val)),(2,.val (.int .u16 (U t))),(3,.pt 0 0)],[(0,some (.cells [.val (.int .i64 p),.isl z (cR F) N,.val (.int .i64 q)] 29))]⟩
theorem Lt(hb:Bnd F)(h16:∀k,k<F.length→(F.getD k default).v<16)(hN:F.length=N)(hN2:N<2^40)(hr:r<2^50)(ht:t<65536):ACall Tryz.prog 110 [.agg [.val (.int .i64 p),.isl z (cR F) N,.val (.int .i64 q)],.val (.int .i64 r),.val (.int .u16 (U t))] [] 0 (.val (.bool (aG F t r))) []:=by
 have zx1:=ae;have zx2:=ae
 generalize hv:aG F t r=v
 refine ak Tryz.func110 Tryz.ntmps110 rfl ?_
 have zx3:= @cz;have zx4:= @uG;have zx5:= @ne12;have zx6:=aC;repeat' (first|(refine ai ?_;refine au [0] ([0].length) (vlI z p q F N t v) (fun r=>r.val) (⟨r,hv,hr⟩) rfl (by unfold vlI;exact gY) ?_;(rintro⟨r1,hv1,hr1⟩;rcases Nat.lt_or_ge r1 2 with h2|h2<;>first|(have hh:2≤r1:=h2;obtain⟨k,rfl⟩:∃k,r1=k+2:=⟨r1-2,by omega⟩;have hbk:k<N→(F.getD k default).lo<k+2∧(F.getD k default).hi<k+2:=(fun h=>hb k (by omega));rcases Nat.lt_or_ge k N with h3|h3<;>rcases Bool.eq_false_or_eq_true (bit t (F.getD k default).v) with zx2|zx2<;>(try(replace hbk:=hbk h3))<;>(simp-dsimp only[vlI];refine zqS ?_))|(simp-dsimp only[vlI];refine zqS ?_)))|(refine ax ?_;refine Nxt.mk [0] (⟨(F.getD k default).hi,by rw[←hv1,Lr (r:=k+2) hb (by omega) (by omega),Nat.add_sub_cancel,←WJ ht,zx2];rfl,by omega⟩) rfl (by unfold vlI;exact gY) zqO)|(refine ax ?_;refine Nxt.mk [0] (⟨(F.getD k default).lo,by rw[←hv1,Lr (r:=k+2) hb (by omega) (by omega),Nat.add_sub_cancel,←WJ ht,zx2];rfl,by omega⟩) rfl (by unfold vlI;exact gY) zqO)|refine zqN ?_|refine gG (acn (s:=t) (n:=(F.getD k default).v) (h16 k (by omega))) ?_|refine kE ?_|refine kF ?_|(refine kG ?_ ?_<;>intro hc<;>try exact zqM))
 all_goals first
  |(have e:v=decide ((r1:Int)=1):=(by rw[←hv1,mq (by omega)];exact decide_eq_decide.2 ⟨fun h=>by omega,fun h=>by omega⟩);rw[e];(refine Ends.mk2 zqI [] ?_;simp-dsimp(disch:=try exact vD) only[push_cast,simprocAttr,Tryz.f110];try exact zqF);done)
  |(have e:v=false:=(by rw[←hv1];exact Ls hb (by omega));rw[e];(refine Ends.mk2 zqI [] ?_;simp-dsimp(disch:=try exact vD) only[push_cast,simprocAttr,Tryz.f110,ne12];try exact zqF);done)
  |skip
end Go.Proofs.YtcbginhpibfgaaaGreatDoor
namespace Go.Proofs.YtcbginhpibfgaaaGreatDoor
open Go Go.Sy Go.Dg
attribute [local irreducible] AO AL AC OpT ACall Ends DGo bK Thn Blk Nxt
variable {N N' N1 N2 T:Nat} {F F1 F2 G:List Fo} {L L':List Fk} {v lo hi n k k1 k2 k' i m s t a b r:Nat} {p q p' q':Int} {z z':Bool} {x y:Fk}
theorem mr:cB (lT F r s)++[AV.val (.bool (aG F s r))]=cB (lT F r (s+1)):=by rw[ahQ];simp[cB]
theorem WN:(cB (lT F r s)).take s=cB (lT F r s):=List.take_of_length_le (by rw[cB_len,gU];exact Nat.le_refl _)
theorem Bc(hn:n≤16):IntKind.wrap .i64 (1*2^min n (IntKind.bits .i64))=((2^n:Nat):Int):=by
 have hp:2^n≤2^16:=Nat.pow_le_pow_right (by omega) hn
 rw[show min n (IntKind.bits .i64)=n from Nat.min_eq_left (by show n≤64;omega),Int.one_mul]
 have e:(2:Int)^n=((2^n:Nat):Int):=by norm_cast
 rw[e]
 generalize 2^n=T at hp
 exact K8 (by omega)
def rtI(z:Bool)(n:Nat)(F:List Fo)(N r T:Nat)(s:{s:Nat // s≤T}):St:=
 ⟨22,0,[(1,.pt 0 0),(3,kC s.val 1 1),(4,.val (.int .i64 s.val))],[(0,some (.cells [.val (.int .i64 n),.isl z (cR F) N,.val (.int .i64 r)] 29))]++kD s.val 1 (cB (lT F r s.val)) 4⟩
theorem yB(hn:n≤16)(hb:Bnd F)(h16:∀k,k<F.length→(F.getD k default).v<16)(hN:F.length=N)(hN2:N<2^40)(hr:r<2^50)(hT:2^n=T):ACall Tryz.prog 78 [.agg [.val (.int .i64 n),.isl z (cR F) N,.val (.int .i64 r)]] [] 0 (.isl false (cB (lT F r T)) T) []:=by
 have hp:2^n≤2^16:=Nat.pow_le_pow_right (by omega) hn
 have hpp:=Nat.two_pow_pos n
 have zx2:=Bc hn
 rw[hT] at hp hpp zx2
 have hv:=fun(t:Nat) (h:t<65536)=>PLift.up (by
  have:=Lt (z:=z) (p:=n) (q:=r) (t:=t) hb h16 hN hN2 hr h
  rw[Lp h] at this;exact this)
 have htk:=fun s=>WN (F:=F) (r:=r) (s:=s)
 have hx:=ae;have zx1:=ae
 refine ak Tryz.func78 Tryz.ntmps78 rfl ?_
 have zx3:= @mr;have zx4:= @gU;have zx5:=aC;have zx6:=aC;repeat' (first|(refine ai ?_;refine au [0,9] ([0,9].length) (rtI z n F N r T) (fun s=>T-s.val) (⟨0,by omega⟩) rfl (by unfold rtI;exact gY) ?_;(rintro⟨s,hs⟩;rcases Nat.lt_or_eq_of_le hs with hsl|hsl<;>first|(have es:T=s:=hsl.symm;subst es;(simp-dsimp only[rtI];refine zqS ?_))|(rcases Nat.eq_zero_or_pos s with h0|h0<;>first|(have hx:[AV.val (.bool (aG F s r))]=cB (lT F r (s+1)):=(by subst h0;rfl);(simp-dsimp only[rtI];refine zqS ?_))|(simp-dsimp only[rtI];refine zqS ?_))))|(refine ax ?_;refine Nxt.mk [0,2] (⟨s+1,by omega⟩) rfl (by unfold rtI;(try simp only[List.cons_append,List.nil_append]);refine Sub.mk2 ?_;(simp-dsimp(disch:=try exact vD) only[push_cast,simprocAttr,zx1,zx2,mr,gU,hx]);(repeat refine aI ?_);first|done|exact vI) zqO)|(refine ax ?_;refine Nxt.mk [0,3] (⟨s+1,by omega⟩) rfl (by unfold rtI;(try simp only[List.cons_append,List.nil_append]);refine Sub.mk2 ?_;(simp-dsimp(disch:=try exact vD) only[push_cast,simprocAttr,zx1,zx2,mr,gU,hx]);(repeat refine aI ?_);first|done|exact vI) zqO)|(refine ax ?_;refine Nxt.mk [0,1] (⟨s+1,by omega⟩) rfl (by unfold rtI;(try simp only[List.cons_append,List.nil_append]);refine Sub.mk2 ?_;(simp-dsimp(disch:=try exact vD) only[push_cast,simprocAttr,zx1,zx2,mr,gU,hx]);(repeat refine aI ?_);first|done|exact vI) zqO)|refine zqN ?_|refine gG (hv s (by omega)).down ?_|refine kE ?_|refine AX ?_|refine AY ?_|refine AZ ?_|refine kF ?_|(refine kG ?_ ?_<;>intro hc<;>try exact zqM))
 all_goals first
  |(((refine Ends.frz 1 ?_;simp-dsimp(disch:=try exact vD) only[push_cast,simprocAttr,Tryz.f78,htk];(repeat refine aI ?_);intro K hK;refine hK _ _ ?_;clear hK K);refine Ends.mk2 zqI [] ?_;simp-dsimp(disch:=try exact vD) only[push_cast,simprocAttr,Tryz.f78,htk];try exact zqF);done)
  |skip
end Go.Proofs.YtcbginhpibfgaaaGreatDoor
namespace Go.Proofs.YtcbginhpibfgaaaGreatDoor
open Go Go.Sy Go.Dg
attribute [local irreducible] AO AL AC OpT ACall Ends DGo bK Thn Blk Nxt
variable {N N' N1 N2 T M:Nat} {F F1 F2 G:List Fo} {L L':List Fk} {v lo hi n k k1 k2 k' i m s t a b r nx n1 n2:Nat} {p q p' q':Int} {z z':Bool} {x y:Fk} {b1 b2:Bool}
theorem DOk.v16(h:DOk n F r):∀k,k<F.length→(F.getD k default).v<16:=fun k hk=>by have:=(h.good.ok k hk).v;have:=h.n12;omega
end Go.Proofs.YtcbginhpibfgaaaGreatDoor
namespace Go.Proofs.YtcbginhpibfgaaaGreatDoor
open Go Go.Sy Go.Bp Go.Dg
attribute [local irreducible] AO AL AC OpT ACall Ends DGo bK Thn Blk Nxt
variable {n N M T k i m r a b j w u v s q x y d:Nat} {z:Bool} {xs:List Nat} {e:Int} {p:Nat→Bool}
def fD(p:Nat→Bool)(T:Nat):List Bool:=(List.range T).map p
theorem bR:(fD p T).length=T:=by simp[fD]
theorem Qd(h:s<T):(fD p T).getD s false=p s:=by simp[fD,List.getD_eq_getElem?_getD,List.getElem?_range h]
theorem acD:(cB (fD p T)).take T=cB (fD p T):=List.take_of_length_le (by rw[cB_len,bR];exact Nat.le_refl _)
theorem Bh:ACall Tryz.prog 41 [.val (.int .u16 (U s)),.val (.int .u16 (U q))] [] 0 (.val (.bool (decide (yw s q%65536=0)))) []:=by
 refine ak Tryz.func41 Tryz.ntmps41 rfl ?_
 repeat' (first|refine zqN ?_|refine aK ?_|refine aL ?_|(refine aM ?_ ?_<;>intro hc<;>try exact zqM))
 all_goals(refine Ends.mk2 zqI [] ?_;simp-dsimp(disch:=try exact vD) only[push_cast,simprocAttr,Tryz.f41];try exact zqF)
abbrev zDO:aD:= .cells [.val (.int .i64 0),.isl true [] 0,.val (.int .i64 0)] 29
end Go.Proofs.YtcbginhpibfgaaaGreatDoor
namespace Go.Proofs.YtcbginhpibfgaaaGreatDoor
open Go Go.Sy Go.Bp Go.Dg
attribute [local irreducible] AO AL AC OpT ACall Ends DGo bK Thn Blk Nxt
variable {n N M T L k i m r a b j w u v s q x y d:Nat} {z zl zr up:Bool} {xs qs B:List Nat} {l:List Int}
abbrev drC(N:Nat)(z:Bool)(B:List Nat)(L:Nat)(up:Bool):List AV:=[.val (.int .u8 N),.isl z (cI .u8 (NI B)) L,.val (.bool up)]
structure MQ(N:Nat)(B:List Nat)(L:Nat):Prop where
 n:N<256
 len:B.length=L
 lt:L<2^47
 b:∀i,B.getD i 0<256
end Go.Proofs.YtcbginhpibfgaaaGreatDoor
namespace Go.Proofs.YtcbginhpibfgaaaGreatDoor
open Go Go.Sy Go.Bp Go.Dg
theorem Xe{m:Nat} {av:List AV}(h:dO Tryz.prog m 22 av):∃(z:Bool) (l:List Nat),av=[.isl z (cI .u8 (NI l)) l.length]∧(∀x∈l,x<256)∧l.length<2^47:=by
 obtain⟨z,l,e,ho,hl,_⟩:=lN (g:=fun(x:Nat)=>[AV.val (.int .u8 (x:Int))]) (Q:=fun x=>x<256) (bn:=1) Tryz.underlying22 h (by kernel_rfl) (by decide) (fun n x hx=>by
  obtain⟨k,rfl,hk⟩:=gT Tryz.underlying5 hx
  have hk:=wC hk
  obtain⟨n0,rfl⟩:=Int.eq_ofNat_of_zero_le hk.1
  exact⟨n0,rfl,by omega⟩)
 rw[show l.flatMap (fun(x:Nat)=>[AV.val (.int .u8 (x:Int))])=cI .u8 (NI l) from(mo _ l).trans (by unfold cI NI;rw[List.map_map];rfl)] at e
 exact⟨z,l,e,ho,hl⟩
theorem lW{m:Nat} {av:List AV}(h:dO Tryz.prog m 24 av):∃(N:Nat) (z:Bool) (B:List Nat) (up:Bool),av=drC N z B B.length up∧MQ N B B.length:=by
 obtain⟨_,xs,rfl,hl,hx⟩:=jm Tryz.underlying24 h
 match xs,hl with
 |[a0,a1,a2],_=>
  obtain⟨b0,rfl,h0⟩:=gT Tryz.underlying5 (hx 0 _ a0 rfl rfl)
  obtain⟨z,l,rfl,ho,hl⟩:=Xe (hx 1 _ a1 rfl rfl)
  obtain⟨b2,rfl⟩:=Ii Tryz.underlying4 (hx 2 _ a2 rfl rfl)
  have h0:=wC h0
  obtain⟨n0,rfl⟩:=Int.eq_ofNat_of_zero_le h0.1
  refine⟨n0,z,l,b2,rfl,⟨by omega,rfl,hl,fun i=>?_⟩⟩
  by_cases hi:i<l.length
  ·rw[List.getD_eq_getElem?_getD,List.getElem?_eq_getElem hi];exact ho _ (List.getElem_mem hi)
  ·rw[List.getD_eq_getElem?_getD,List.getElem?_eq_none (by omega)];decide
end Go.Proofs.YtcbginhpibfgaaaGreatDoor
namespace Go.Rt
variable {p p' q:Nat→Rat} {g h:Nat→Rat} {n m k i j s t:Nat} {tab:Nat→Bool} {x y c:Rat}
theorem OY:Ev p (fun t=>1-g t) k i s=1-Ev p g k i s:=by
 induction k generalizing i s with
 |zero=>rfl
 |succ k ih=>rw[uC,uC,ih,ih];grind
theorem Yx:Pr p n (fun t=> !tab t)=1-Pr p n tab:=by
 unfold Pr
 rw[←OY]
 exact wY n 0 0 (by decide) (fun _ _ _=>rfl) fun t _ _=>by unfold ind;rcases Bool.eq_false_or_eq_true (tab t) with e|e<;>simp only[e]<;>decide+kernel
theorem adP:∀(k i s:Nat),s<2^i→(∀j,i≤j→j<i+k→p' j=1-p j)→(∀t,t<2^(i+k)→h (2^(i+k)-1-t)=g t)→Ev p' h k i (2^i-1-s)=Ev p g k i s:=by
 intro k
 induction k with
 |zero=>intro i s hs _ hg;exact hg s hs
 |succ k ih=>
  intro i s hs hp hg
  have hs2:2^(i+1)=2^i+2^i:=by rw[Nat.pow_succ];omega
  have hg2:∀t,t<2^(i+1+k)→h (2^(i+1+k)-1-t)=g t:=by rw[show i+1+k=i+(k+1) by omega];exact hg
  have i1:=ih (i+1) s (by omega) (fun j h1 h2=>hp j (by omega) (by omega)) hg2
  have i2:=ih (i+1) (s+2^i) (by omega) (fun j h1 h2=>hp j (by omega) (by omega)) hg2
  rw[uC,uC,hp i (Nat.le_refl _) (by omega),←i1,←i2,show 2^(i+1)-1-s=2^i-1-s+2^i by omega,show 2^(i+1)-1-(s+2^i)=2^i-1-s by omega]
  grind
theorem adQ{tab':Nat→Bool}(hp:∀j,j<n→p' j=1-p j)(h:∀t,t<2^n→tab' (2^n-1-t)=tab t):Pr p' n tab'=Pr p n tab:=by
 have:=adP (p:=p) (p':=p') (g:=ind tab) (h:=ind tab') n 0 0 (by decide) (fun j _ hj=>hp j (by omega)) (fun t ht=>by
  rw[Nat.zero_add] at ht⊢
  unfold ind;rw[h t ht])
 exact this
end Go.Rt
namespace Go.Proofs.YtcbginhpibfgaaaGreatDoor
open Go Go.Sy Go.Bp Go.Dg
attribute [local irreducible] AO AL AC OpT ACall Ends DGo bK Thn Blk Nxt
variable {n N M T k i m r a b j w u v s q x y d:Nat} {z:Bool} {F:List Fo} {p f g:Nat→Bool}
theorem vE(h:s<T):(fD p T).getD s default=p s:=Qd h
theorem Pe:fD p s++[p s]=fD p (s+1):=by unfold fD;rw[List.range_succ];simp
def dlP(p:Nat→Bool)(T k:Nat):Bool:= !p (T-1-k)
def ddI(z:Bool)(n:Nat)(F:List Fo)(N r T:Nat)(p:Nat→Bool)(j:{j:Nat // j≤T}):St:=
 ⟨27,0,[(1,.pt 0 0),(2,.pt 1 0),(3,kC j.val 2 1),(4,.isl false (cB (fD p T)) T),(5,.val (.int .i64 ((T:Int)-1-(j.val:Int))))],[(0,some (.cells [.val (.int .i64 n),.isl z (cR F) N,.val (.int .i64 r)] 29)),(1,some zDO)]++kD j.val 2 (cB (fD (dlP p T) j.val)) 4⟩
theorem ad5(hn:n≤12)(hb:Bnd F)(h16:∀k,k<F.length→(F.getD k default).v<16)(hN:F.length=N)(hN2:N<2^40)(hr:r<2^50)(hT:2^n=T):
 ACall Tryz.prog 36 [.agg [.val (.int .i64 n),.isl z (cR F) N,.val (.int .i64 r)]] [] 0 (dgV ((fC n fun t=> !aG F (cpl n t) r).1.length==0) n (fC n fun t=> !aG F (cpl n t) r).1 (fC n fun t=> !aG F (cpl n t) r).2) []:=by
 obtain⟨p,hpp⟩:∃p:Nat→Bool,(fun t=>aG F t r)=p:=⟨_,rfl⟩
 have htl:lT F r T=fD p T:=by rw[←hpp];rfl
 have htb:=PLift.up (yB (z:=z) (by omega) hb h16 hN hN2 hr hT)
 rw[htl] at htb
 have e:(fun t=> !aG F (cpl n t) r)=fun t=> !p (cpl n t):=by rw[←hpp]
 rw[e]
 have hp:2^n≤2^12:=Nat.pow_le_pow_right (by omega) hn
 have hTp:=Nat.two_pow_pos n
 rw[hT] at hp hTp
 have hfr:=PLift.up (lV (n:=n) (tb:=fD (dlP p T) T) (M:=T) (by omega) bR hT.symm)
 have hfe:kM n (fD (dlP p T) T)=fC n (fun t=> !p (cpl n t)):=EC fun t ht=>by rw[Qd (by omega)];unfold dlP cpl;rw[hT]
 rw[hfe] at hfr
 have zx5:=acD (p:=dlP p T) (T:=T)
 have hT1:((T:Int)-1-0)=(T:Int)-1:=by omega
 clear e htl hpp
 unfold dgV at*
 generalize((fC n fun t=> !p (cpl n t)).1.length==0)=zb at hfr⊢
 generalize(fC n fun t=> !p (cpl n t))=R at hfr⊢
 have zx1:=ae;have hsn:=ae;have zx2:=ae;have zx3:=ae;have zx4:=ae
 refine ak Tryz.func36 Tryz.ntmps36 rfl ?_
 have zx6:= @bR;repeat' (first|((first|refine bI (r:=7) 2 ?_|refine bH (r:=7) 2 ?_);refine Ll ?_;intro K hK;refine hK _ _ ?_;clear hK K)|(refine ai ?_;refine au [0,1,9] ([0,1,9].length) (ddI z n F N r T p) (fun j=>T-j.val) (⟨0,by omega⟩) rfl (by unfold ddI;exact gY) ?_;(rintro⟨j,hj⟩;rcases Nat.lt_or_eq_of_le hj with hjl|hjl<;>first|(have ej:T=j:=hjl.symm;subst ej;have zx3:((T:Int)-1-(T:Int))= -1:=(by omega);(simp-dsimp only[ddI];refine zqS ?_))|(obtain⟨c,hc1⟩:∃c,T=j+c+1:=⟨T-j-1,by omega⟩;have zx3:((T:Int)-1-(j:Int))=(c:Int):=(by omega);have zx4:((T:Int)-1-((j:Int)+1))=(c:Int)-1:=(by omega);have lt1:(fD p T).length=T:=bR;have zx1:=vE (p:=p) (show c<T by omega);have hdc:dlP p T j= !p c:=(by unfold dlP;rw[show T-1-j=c by omega]);have hsn:=Pe (p:=dlP p T) (s:=j);rw[hdc] at hsn;rcases Bool.eq_false_or_eq_true (p c) with zx2|zx2<;>rw[zx2] at zx1 hsn<;>(try simp only[Bool.not_true,Bool.not_false] at hsn)<;>rcases Nat.eq_zero_or_pos j with j0|j0<;>first|(subst j0;have zx3:((T:Int)-1)=(c:Int):=(by omega);have zx4:((T:Int)-1-1)=(c:Int)-1:=(by omega);have hsn:=congrArg cB hsn;have hsn:[AV.val (.bool _)]=cB (fD (dlP p T) 1):=hsn;(simp-dsimp only[ddI];refine zqS ?_))|(simp-dsimp only[ddI];refine zqS ?_))))|(refine ax ?_;refine Nxt.mk [0,1,4] (⟨1,by omega⟩) rfl (by unfold ddI;(try simp only[List.cons_append,List.nil_append]);refine Sub.mk2 ?_;(simp-dsimp(disch:=try exact vD) only[push_cast,simprocAttr,zx1,zx2,zx3,zx4,zx5,bR,hsn]);(repeat refine aI ?_);first|done|exact vI) zqO)|(refine ax ?_;refine Nxt.mk [0,1,4] (⟨j+1,by omega⟩) rfl (by unfold ddI;(try simp only[List.cons_append,List.nil_append]);refine Sub.mk2 ?_;(simp-dsimp(disch:=try exact vD) only[push_cast,simprocAttr,zx1,zx2,zx3,zx4,zx5,bR,hsn]);(repeat refine aI ?_);first|done|exact vI) zqO)|(refine ax ?_;refine Nxt.mk [0,1,3] (⟨j+1,by omega⟩) rfl (by unfold ddI;(try simp only[List.cons_append,List.nil_append]);refine Sub.mk2 ?_;(simp-dsimp(disch:=try exact vD) only[push_cast,simprocAttr,zx1,zx2,zx3,zx4,zx5,bR,hsn]);(repeat refine aI ?_);first|done|exact vI) zqO)|refine zqN ?_|refine gG htb.down ?_|refine gG hfr.down ?_|refine kE ?_|refine AX ?_|refine AY ?_|refine AZ ?_|refine kF ?_|(refine kG ?_ ?_<;>intro hc<;>try exact zqM))
 all_goals first
  |((refine Ends.mk2 zqI [] ?_;simp-dsimp(disch:=try exact vD) only[push_cast,simprocAttr,Tryz.f36];try exact zqF);done)
  |skip
end Go.Proofs.YtcbginhpibfgaaaGreatDoor
namespace Go.Proofs.YtcbginhpibfgaaaGreatDoor
open Go Go.Sy Go.Lm Go.Rt Go.Dg
attribute [local irreducible] AO AL AC OpT ACall Ends DGo bK Thn Blk Nxt
variable {n N k i m j r a b:Nat} {z z' zp:Bool} {ps xs:List RV} {X Y W ONE:RV} {v c e:Int} {p:Nat→Rat}
def chQ(x:Chc):Rat:=Rat.divInt ((x.a%(x.b%12+2):Nat):Int) ((x.b%12+1:Nat):Int)
theorem ad8{q1 q2:Int}(ha:a<256)(hb:b<256)(e1:((b:Int)%12)+1=q2∨1+((b:Int)%12)=q2)(e2:(a:Int)%(q2+1)=q1)(hq:1≤q2∧q2≤12)(h:ACall Tryz.prog 57 [.val (.int .i64 q1),.val (.int .i64 q2)] [] 0 (.tup [.agg (aa.cells X),.val (.int .i64 0)]) []):ACall Tryz.prog 29 [.agg [.val (.int .u8 a),.val (.int .u8 b)]] [] 0 (.agg (aa.cells X)) []:=by
 have h:=PLift.up h
 have zx1:1+((b:Int)%12)=q2:=by omega
 have zx4:¬q2+1=0:=by omega
 have hr:0≤q1∧q1<300:=by rw[←e2];exact⟨Int.emod_nonneg _ zx4,by have:=Int.emod_lt_of_pos (a:Int) (show 0<q2+1 by omega);omega⟩
 have zx3:Int.tmod (a:Int) (q2+1)=q1:=by rw[Int.tmod_eq_emod_of_nonneg (by omega)];exact e2
 clear e1
 refine ak Tryz.func29 Tryz.ntmps29 rfl ?_
 have zx2:= @e2;have zx5:=aC;have zx6:=aC;repeat' (first|refine zqN ?_|refine gG h.down ?_|refine kE ?_|refine kF ?_|(refine kG ?_ ?_<;>intro hc<;>try exact zqM))
 all_goals first
  |((refine Ends.mk2 zqI [] ?_;simp-dsimp(disch:=try exact vD) only[push_cast,simprocAttr,Tryz.f29];try exact zqF);done)
  |skip
theorem ME(ha:a<256)(hb:b<256):ACall Tryz.prog 29 [.agg [.val (.int .u8 a),.val (.int .u8 b)]] [] 0 (.agg (aa.cells (rC (chQ ⟨a,b⟩)))) []:=by
 have hm:a%(b%12+2)<b%12+2:=Nat.mod_lt _ (by omega)
 have h:=OM (a:=((a%(b%12+2):Nat):Int)) (b:=((b%12+1:Nat):Int)) ⟨by omega,by omega⟩ ⟨by omega,by omega⟩ (by omega)
 refine ad8 ha hb (.inl (by omega)) ?_ (by omega) h
 rw[show(((b%12+1:Nat):Int)+1)=((b%12+2:Nat):Int) by omega,Int.natCast_emod]
theorem YZ(x:Chc):0≤chQ x∧chQ x≤1∧(chQ x).den≤12:=by
 have hm:x.a%(x.b%12+2)<x.b%12+2:=Nat.mod_lt _ (by omega)
 unfold chQ
 generalize x.a%(x.b%12+2)=u at*
 have hb:x.b%12<12:=Nat.mod_lt _ (by decide)
 generalize x.b%12=w at*
 have h1:∀w,w<12→∀u,u<w+2→0≤Rat.divInt ((u:Nat):Int) ((w+1:Nat):Int)∧Rat.divInt ((u:Nat):Int) ((w+1:Nat):Int)≤1∧(Rat.divInt ((u:Nat):Int) ((w+1:Nat):Int)).den≤12:=by decide+kernel
 exact h1 w hb u hm
def lsL(l:List Chc):Nat→List RV
 |0=>[]
 |i+1=>lsL l i++[rC (chQ (l.getD i default))]
theorem ae6{l:List Chc}(h:i=0):lsL l i=[]:=by subst h;rfl
theorem ae7{l:List Chc}:lsL l (i+1)=lsL l i++[rC (chQ (l.getD i default))]:=rfl
theorem iZ{l:List Chc}:(lsL l i).length=i:=by
 induction i with
 |zero=>rfl
 |succ i ih=>rw[ae7,List.length_append,ih];rfl
theorem Fs{l:List Chc}(h:j<i):(lsL l i).getD j default=rC (chQ (l.getD j default)):=by
 induction i with
 |zero=>omega
 |succ i ih=>
  rw[ae7]
  rcases Nat.lt_or_eq_of_le (Nat.le_of_lt_succ h) with h1|h1
  ·rw[List.getD_eq_getElem?_getD,List.getElem?_append_left (by rw[iZ];omega),←List.getD_eq_getElem?_getD]
   exact ih h1
  ·rw[List.getD_eq_getElem?_getD,List.getElem?_append_right (by rw[iZ];omega),iZ,h1,Nat.sub_self];rfl
theorem aja:cR ps++[.val (.bool X.num.neg),.isl X.num.z (cI .u32 X.num.l) X.num.l.length,.val (.bool X.den.neg),.isl X.den.z (cI .u32 X.den.l) X.den.l.length]=cR (ps++[X]):=PY (a:=X) (l:=ps)
theorem Q0(h:ps.length=n):(cR ps).take (n*4)=cR ps:=List.take_of_length_le (by rw[lM,h];exact Nat.le_refl _)
def lsI(z:Bool)(l:List Chc)(k n:Nat)(i:{i:Nat // i≤n}):St:=
 ⟨28,0,[(0,.isl z (cR l) k),(1,.val (.int .i64 n)),(5,kC i.val 0 4),(6,.val (.int .i64 i.val))],kD i.val 0 (cR (lsL l i.val)) 37⟩
theorem ad9{l:List Chc}(hl:l.length=k)(hk:k<2^47)(hn:n≤1000)(hm:∀i,i<n→ACall Tryz.prog 29 [.agg [.val (.int .u8 (l.getD i default).a),.val (.int .u8 (l.getD i default).b)]] [] 0 (.agg (aa.cells (rC (chQ (l.getD i default))))) []):
 ACall Tryz.prog 14 [.isl z (cR l) k,.val (.int .i64 n)] [] 0 (.isl (n==0) (cR (lsL l n)) n) []:=by
 have hm:=PLift.up hm
 have hlen:=fun(i:Nat)=>iZ (l:=l) (i:=i)
 have htk:=Q0 (ps:=lsL l n) iZ
 have hgd:∀i,k≤i→l.getD i default=⟨1,1⟩:=fun i hi=>by rw[List.getD_eq_getElem?_getD,List.getElem?_eq_none (by omega)];rfl
 have hs:∀i,cR (lsL l i)++[.val (.bool (rC (chQ (l.getD i default))).num.neg),.isl (rC (chQ (l.getD i default))).num.z (cI .u32 (rC (chQ (l.getD i default))).num.l) (rC (chQ (l.getD i default))).num.l.length,.val (.bool (rC (chQ (l.getD i default))).den.neg),.isl (rC (chQ (l.getD i default))).den.z (cI .u32 (rC (chQ (l.getD i default))).den.l) (rC (chQ (l.getD i default))).den.l.length]=cR (lsL l (i+1)):=fun i=>aja
 have h0:∀i,i=0→[.val (.bool (rC (chQ (l.getD i default))).num.neg),.isl (rC (chQ (l.getD i default))).num.z (cI .u32 (rC (chQ (l.getD i default))).num.l) (rC (chQ (l.getD i default))).num.l.length,.val (.bool (rC (chQ (l.getD i default))).den.neg),.isl (rC (chQ (l.getD i default))).den.z (cI .u32 (rC (chQ (l.getD i default))).den.l) (rC (chQ (l.getD i default))).den.l.length]=cR (lsL l (i+1)):=fun i hi=>by
  subst hi
  exact(List.nil_append _).symm.trans (hs 0)
 have hx:=ae;have hsn:=ae;have hc1:=ae
 rcases Nat.eq_zero_or_pos n with hn0|hn0
 ·subst hn0
  refine ak Tryz.func14 Tryz.ntmps14 rfl ?_
  repeat' (first|(refine ai ?_;refine au [9] ([9].length) (lsI z l k 0) (fun i=>0) (⟨0,Nat.zero_le _⟩) rfl (by unfold lsI;(try simp only[List.cons_append,List.nil_append]);refine Sub.mk2 ?_;(simp-dsimp(disch:=try exact vD) only[push_cast,simprocAttr]);(repeat refine aI ?_);first|done|exact vI) ?_;(rintro⟨i,hi⟩;have hi0:i=0:=(by omega);subst hi0;(simp-dsimp(disch:=try exact vD) only[push_cast,simprocAttr,lsI,ae6])))|apply dG|apply aF|((first|refine ay rfl (fun K hK=>?_)|refine aj (fun K hK=>?_));(first|apply cO|apply aZ|apply df|apply aT|apply bf|apply bu|apply fK|apply bZ|apply fu|apply eG|apply iX|apply eZ|apply aX|apply dY|apply dM);simp-dsimp(disch:=try exact vD) only[push_cast,simprocAttr];(repeat refine aI ?_);apply hK;clear hK K)|((first|refine ay rfl (fun K hK=>?_)|refine aj (fun K hK=>?_));(first|apply gz);simp-dsimp(disch:=try exact vD) only[push_cast,simprocAttr];(repeat refine aI ?_);apply hK;clear hK K)|((first|refine ay rfl (fun K hK=>?_)|refine aj (fun K hK=>?_));(first|apply eO);simp-dsimp(disch:=try exact vD) only[push_cast,simprocAttr];(repeat refine aI ?_);apply hK;clear hK K)|((first|refine ay rfl (fun K hK=>?_)|refine aj (fun K hK=>?_));(first|apply eH);simp-dsimp(disch:=try exact vD) only[push_cast,simprocAttr];(repeat refine aI ?_);apply hK;clear hK K)|((first|refine aQ rfl rfl (fun K1 K2 h1 h2=>?_) rfl|refine aJ (fun K1 K2 h1 h2=>?_));simp-dsimp(disch:=try exact vD) only[push_cast,simprocAttr];(first|(refine⟨fun hc=>?_,fun hc=>?_⟩<;>first|(exfalso;omega)|(exfalso;contradiction)|refine h1 ?_|refine h2 ?_)|refine h1 ?_|refine h2 ?_);all_goals clear h1 h2 K1 K2)|apply dH|apply aR|apply bX|apply bz|apply aS|apply bY|apply bA|(refine aY rfl ?_)|apply bB|apply bW|apply bV|apply dF)
  all_goals first
   |((refine Ends.mk2 (by first|exact .inr rfl|exact .inl rfl) [] ?_;simp-dsimp(disch:=try exact vD) only[push_cast,simprocAttr,Tryz.f14,ae6,nX];try exact zqF);done)
   |skip
 ·have hnz:(n==0)=false:=Ke hn0
  rw[hnz]
  refine ak Tryz.func14 Tryz.ntmps14 rfl ?_
  repeat' (first|(refine ai ?_;refine au [9] ([9].length) (lsI z l k n) (fun i=>n-i.val) (⟨0,Nat.zero_le _⟩) rfl (by unfold lsI;(try simp only[List.cons_append,List.nil_append]);refine Sub.mk2 ?_;(simp-dsimp(disch:=try exact vD) only[push_cast,simprocAttr,hx,hc1,htk,hlen]);(repeat refine aI ?_);first|done|exact vI) ?_;(rintro⟨i,hi⟩;rcases Nat.lt_or_eq_of_le hi with hil|hil<;>first|(subst hil;(simp-dsimp(disch:=try exact vD) only[push_cast,simprocAttr,lsI]))|(have hmi:=hm.down i hil;have hli:=hlen i;have hs1:=hs i;have h01:=h0 i;generalize hW:rC (chQ (l.getD i default))=W at*;rcases Nat.lt_or_ge i k with hik|hik<;>rcases Nat.eq_zero_or_pos i with hi0|hi0<;>first|(rw[hgd i hik] at hmi;have hmi:=PLift.up hmi;have hsn:=h01 hi0;(simp-dsimp(disch:=try exact vD) only[push_cast,simprocAttr,lsI]))|(rw[hgd i hik] at hmi;have hmi:=PLift.up hmi;have hsn:=hs1;(simp-dsimp(disch:=try exact vD) only[push_cast,simprocAttr,lsI]))|(have hmi:=PLift.up hmi;have hsn:=h01 hi0;(simp-dsimp(disch:=try exact vD) only[push_cast,simprocAttr,lsI]))|(have hmi:=PLift.up hmi;have hsn:=hs1;(simp-dsimp(disch:=try exact vD) only[push_cast,simprocAttr,lsI])))))|(refine ax ?_;refine Nxt.mk [3] (⟨i+1,by omega⟩) rfl (by unfold lsI;(try simp only[List.cons_append,List.nil_append]);refine Sub.mk2 ?_;(simp-dsimp(disch:=try exact vD) only[push_cast,simprocAttr,hx,hc1,htk,hlen,hsn]);(repeat refine aI ?_);first|done|exact vI) (by first|omega|(dsimp only;omega)|(simp;done)|(simp;omega)))|(refine ax ?_;refine Nxt.mk [2] (⟨i+1,by omega⟩) rfl (by unfold lsI;(try simp only[List.cons_append,List.nil_append]);refine Sub.mk2 ?_;(simp-dsimp(disch:=try exact vD) only[push_cast,simprocAttr,hx,hc1,htk,hlen,hsn]);(repeat refine aI ?_);first|done|exact vI) (by first|omega|(dsimp only;omega)|(simp;done)|(simp;omega)))|(refine ax ?_;refine Nxt.mk [1] (⟨i+1,by omega⟩) rfl (by unfold lsI;(try simp only[List.cons_append,List.nil_append]);refine Sub.mk2 ?_;(simp-dsimp(disch:=try exact vD) only[push_cast,simprocAttr,hx,hc1,htk,hlen,hsn]);(repeat refine aI ?_);first|done|exact vI) (by first|omega|(dsimp only;omega)|(simp;done)|(simp;omega)))|(refine ax ?_;refine Nxt.mk [0] (⟨i+1,by omega⟩) rfl (by unfold lsI;(try simp only[List.cons_append,List.nil_append]);refine Sub.mk2 ?_;(simp-dsimp(disch:=try exact vD) only[push_cast,simprocAttr,hx,hc1,htk,hlen,hsn]);(repeat refine aI ?_);first|done|exact vI) (by first|omega|(dsimp only;omega)|(simp;done)|(simp;omega)))|apply dG|apply aF|((first|refine ay rfl (fun K hK=>?_)|refine aj (fun K hK=>?_));(first|refine ah (f:=29) [] 0 false ?_);simp-dsimp(disch:=try exact vD) only[push_cast,simprocAttr,hx,hc1,htk,hlen];(repeat refine aI ?_);intro G hG;refine hG _ _ ?_;clear hG G;(first|refine⟨_,_,hmi.down,?_⟩);simp-dsimp(disch:=try exact vD) only[push_cast,simprocAttr,hx,hc1,htk,hlen];(repeat refine aI ?_);apply hK;clear hK K)|((first|refine ay rfl (fun K hK=>?_)|refine aj (fun K hK=>?_));(first|apply cO|apply aZ|apply df|apply aT|apply bf|apply bu|apply fK|apply bZ|apply fu|apply eG|apply iX|apply eZ|apply aX|apply dY|apply dM);simp-dsimp(disch:=try exact vD) only[push_cast,simprocAttr,hx,hc1,htk,hlen];(repeat refine aI ?_);apply hK;clear hK K)|((first|refine ay rfl (fun K hK=>?_)|refine aj (fun K hK=>?_));(first|apply gz);simp-dsimp(disch:=try exact vD) only[push_cast,simprocAttr,hx,hc1,htk,hlen];(repeat refine aI ?_);apply hK;clear hK K)|((first|refine ay rfl (fun K hK=>?_)|refine aj (fun K hK=>?_));(first|apply eO);simp-dsimp(disch:=try exact vD) only[push_cast,simprocAttr,hx,hc1,htk,hlen];(repeat refine aI ?_);apply hK;clear hK K)|((first|refine ay rfl (fun K hK=>?_)|refine aj (fun K hK=>?_));(first|apply eH);simp-dsimp(disch:=try exact vD) only[push_cast,simprocAttr,hx,hc1,htk,hlen];(repeat refine aI ?_);apply hK;clear hK K)|((first|refine aQ rfl rfl (fun K1 K2 h1 h2=>?_) rfl|refine aJ (fun K1 K2 h1 h2=>?_));simp-dsimp(disch:=try exact vD) only[push_cast,simprocAttr,hx,hc1,htk,hlen];(first|(refine⟨fun hc=>?_,fun hc=>?_⟩<;>first|(exfalso;omega)|(exfalso;contradiction)|refine h1 ?_|refine h2 ?_)|refine h1 ?_|refine h2 ?_);all_goals clear h1 h2 K1 K2)|apply dH|apply aR|apply bX|apply bz|apply aS|apply bY|apply bA|(refine aY rfl ?_)|apply bB|apply bW|apply bV|apply dF)
  all_goals first
   |(((refine Ends.frz 0 ?_;simp-dsimp(disch:=try exact vD) only[push_cast,simprocAttr,Tryz.f14,htk];(repeat refine aI ?_);intro K hK;refine hK _ _ ?_;clear hK K);refine Ends.mk2 (by first|exact .inr rfl|exact .inl rfl) [] ?_;simp-dsimp(disch:=try exact vD) only[push_cast,simprocAttr,Tryz.f14,htk];try exact zqF);done)
   |skip
end Go.Proofs.YtcbginhpibfgaaaGreatDoor
namespace Go.Proofs.YtcbginhpibfgaaaGreatDoor
open Go Go.Sy Go.Lm Go.Rt Go.Dg
attribute [local irreducible] AO AL AC OpT ACall Ends DGo bK Thn Blk Nxt
variable {n N k i m j r a b:Nat} {z z' zp:Bool} {ps xs:List RV} {L:List Fk} {X Y W ONE:RV} {D:Nat→RV} {B:Nat→Bool} {v c e rt nn:Int} {p:Nat→Rat}
def lsD(D:Nat→RV):Nat→List RV
 |0=>[]
 |i+1=>lsD D i++[D i]
theorem Q3(h:i=0):lsD D i=[]:=by subst h;rfl
theorem ae8:lsD D (i+1)=lsD D i++[D i]:=rfl
theorem ja:(lsD D i).length=i:=by
 induction i with
 |zero=>rfl
 |succ i ih=>rw[ae8,List.length_append,ih];rfl
theorem Pi(h:j<i):(lsD D i).getD j default=D j:=by
 induction i with
 |zero=>omega
 |succ i ih=>
  rw[ae8]
  rcases Nat.lt_or_eq_of_le (Nat.le_of_lt_succ h) with h1|h1
  ·rw[List.getD_eq_getElem?_getD,List.getElem?_append_left (by rw[ja];omega),←List.getD_eq_getElem?_getD]
   exact ih h1
  ·rw[List.getD_eq_getElem?_getD,List.getElem?_append_right (by rw[ja];omega),ja,h1,Nat.sub_self];rfl
def otI(zp:Bool)(ps:List RV)(n:Nat)(D:Nat→RV)(i:{i:Nat // i≤n}):St:=
 ⟨21,0,[(0,.isl zp (cR ps) n),(3,kC i.val 0 4),(4,.val (.int .i64 i.val))],kD i.val 0 (cR (lsD D i.val)) 37⟩
theorem Y0(hl:ps.length=n)(hn:n≤1000)(h1:ACall Tryz.prog 69 [.val (.int .i64 1)] [] 0 (.agg (aa.cells ONE)) [])
 (hm:∀i,i<n→ACall Tryz.prog 55 [.agg (aa.cells ONE),.agg (aa.cells (ps.getD i default))] [] 0 (.agg (aa.cells (D i))) []):
 ACall Tryz.prog 37 [.isl zp (cR ps) n] [] 0 (.isl (n==0) (cR (lsD D n)) n) []:=by
 have hm:=PLift.up hm;have g1:=PLift.up h1
 clear h1
 have hlen:=fun(i:Nat)=>ja (D:=D) (i:=i)
 have htk:=Q0 (ps:=lsD D n) ja
 have hs:∀i,cR (lsD D i)++[.val (.bool (D i).num.neg),.isl (D i).num.z (cI .u32 (D i).num.l) (D i).num.l.length,.val (.bool (D i).den.neg),.isl (D i).den.z (cI .u32 (D i).den.l) (D i).den.l.length]=cR (lsD D (i+1)):=fun i=>aja
 have h0:∀i,i=0→[.val (.bool (D i).num.neg),.isl (D i).num.z (cI .u32 (D i).num.l) (D i).num.l.length,.val (.bool (D i).den.neg),.isl (D i).den.z (cI .u32 (D i).den.l) (D i).den.l.length]=cR (lsD D (i+1)):=fun i hi=>by
  subst hi
  exact(List.nil_append _).symm.trans (hs 0)
 have hsn:=ae
 rcases Nat.eq_zero_or_pos n with hn0|hn0
 ·subst hn0
  refine ak Tryz.func37 Tryz.ntmps37 rfl ?_
  repeat' (first|(refine ai ?_;refine au [9] ([9].length) (otI zp ps 0 D) (fun i=>0) (⟨0,Nat.zero_le _⟩) rfl (by unfold otI;(try simp only[List.cons_append,List.nil_append]);refine Sub.mk2 ?_;(simp-dsimp(disch:=try exact vD) only[push_cast,simprocAttr]);(repeat refine aI ?_);first|done|exact vI) ?_;(rintro⟨i,hi⟩;have hi0:i=0:=(by omega);subst hi0;(simp-dsimp(disch:=try exact vD) only[push_cast,simprocAttr,otI,Q3])))|apply dG|apply aF|((first|refine ay rfl (fun K hK=>?_)|refine aj (fun K hK=>?_)|refine aA (fun K hK=>?_));(first|apply cO|apply aZ|apply df|apply aT|apply bf|apply bu|apply fK|apply bZ|apply aX|apply dY|apply dM);simp-dsimp(disch:=try exact vD) only[push_cast,simprocAttr];(repeat refine aI ?_);apply hK;clear hK K)|((first|refine ay rfl (fun K hK=>?_)|refine aj (fun K hK=>?_)|refine aA (fun K hK=>?_));(first|apply gz);simp-dsimp(disch:=try exact vD) only[push_cast,simprocAttr];(repeat refine aI ?_);apply hK;clear hK K)|((first|refine ay rfl (fun K hK=>?_)|refine aj (fun K hK=>?_)|refine aA (fun K hK=>?_));(first|apply eO);simp-dsimp(disch:=try exact vD) only[push_cast,simprocAttr];(repeat refine aI ?_);apply hK;clear hK K)|((first|refine ay rfl (fun K hK=>?_)|refine aj (fun K hK=>?_)|refine aA (fun K hK=>?_));(first|apply eH);simp-dsimp(disch:=try exact vD) only[push_cast,simprocAttr];(repeat refine aI ?_);apply hK;clear hK K)|((first|refine aQ rfl rfl (fun K1 K2 h1 h2=>?_) rfl|refine aJ (fun K1 K2 h1 h2=>?_)|refine bL rfl rfl (fun K1 K2 h1 h2=>?_));simp-dsimp(disch:=try exact vD) only[push_cast,simprocAttr];(first|(refine⟨fun hc=>?_,fun hc=>?_⟩<;>first|(exfalso;omega)|(exfalso;contradiction)|refine h1 ?_|refine h2 ?_)|refine h1 ?_|refine h2 ?_);all_goals clear h1 h2 K1 K2)|(refine aV (id:=5) (by kernel_rfl) [⟨0,[],[12,13,14,15,16,17,18],[],[],0⟩,⟨1,[],[11,13,14,15,16],[],[],0⟩,⟨2,[],[11,12,14],[],[],0⟩,⟨3,[],[11,12,13],[],[],0⟩,⟨4,[2,3],[11,12],[],[],0⟩,⟨5,[2,3,4],[11,12],[],[],0⟩,⟨6,[1,2,3,4,5],[11],[],[],0⟩,⟨7,[1,2,3,4,5,6],[11],[],[],1⟩,⟨8,[0,1,2,3,4,5,6,7],[],[],[2],1⟩,⟨9,[0,1,2,3,4,5,6,7,8],[],[],[],0⟩] (by kernel_rfl) (by kernel_rfl) (by kernel_rfl) ?_)|((first|refine dW (by kernel_rfl) (fun K hK=>?_)|refine gy (by kernel_rfl) (fun K hK=>?_));simp only[↓Go.Sy.dz,↓Go.Sy.dA,↓Go.Sy.dU,↓Go.Sy.dD,↓Go.Sy.dV,↓Go.Sy.cZ,↓Go.Sy.dE,push_cast,Nat.reduceLeDiff,Nat.reduceSub,Nat.reduceBEq,Nat.reduceEqDiff,Nat.reduceAdd,Nat.reduceLT,↓reduceIte,reduceCtorEq];refine hK _ _ _ ?_;clear hK K)|apply jl|apply dH|apply aR|apply bX|apply bz|apply aS|apply bY|apply bA|(refine aY rfl ?_)|apply bB|apply bW|apply bV|apply dF)
  all_goals first
   |((refine Ends.mk2 (by first|exact .inr rfl|exact .inl rfl) [] ?_;simp-dsimp(disch:=try exact vD) only[push_cast,simprocAttr,Tryz.f37,Q3,nX];try exact zqF);done)
   |skip
 ·have hnz:(n==0)=false:=Ke hn0
  rw[hnz]
  refine ak Tryz.func37 Tryz.ntmps37 rfl ?_
  repeat' (first|(refine ai ?_;refine au [9] ([9].length) (otI zp ps n D) (fun i=>n-i.val) (⟨0,Nat.zero_le _⟩) rfl (by unfold otI;(try simp only[List.cons_append,List.nil_append]);refine Sub.mk2 ?_;(simp-dsimp(disch:=try exact vD) only[push_cast,simprocAttr,htk,hlen]);(repeat refine aI ?_);first|done|exact vI) ?_;(rintro⟨i,hi⟩;rcases Nat.lt_or_eq_of_le hi with hil|hil<;>first|(subst hil;(simp-dsimp(disch:=try exact vD) only[push_cast,simprocAttr,otI]))|(have hli:=hlen i;have hs1:=hs i;have h01:=h0 i;rcases Nat.eq_zero_or_pos i with hi0|hi0<;>first|(have hsn:=h01 hi0;(simp-dsimp(disch:=try exact vD) only[push_cast,simprocAttr,otI]))|(have hsn:=hs1;(simp-dsimp(disch:=try exact vD) only[push_cast,simprocAttr,otI])))))|(refine ax ?_;refine Nxt.mk [3] (⟨i+1,by omega⟩) rfl (by unfold otI;(try simp only[List.cons_append,List.nil_append]);refine Sub.mk2 ?_;(simp-dsimp(disch:=try exact vD) only[push_cast,simprocAttr,htk,hlen,hsn]);(repeat refine aI ?_);first|done|exact vI) (by first|omega|(dsimp only;omega)|(simp;done)|(simp;omega)))|(refine ax ?_;refine Nxt.mk [2] (⟨i+1,by omega⟩) rfl (by unfold otI;(try simp only[List.cons_append,List.nil_append]);refine Sub.mk2 ?_;(simp-dsimp(disch:=try exact vD) only[push_cast,simprocAttr,htk,hlen,hsn]);(repeat refine aI ?_);first|done|exact vI) (by first|omega|(dsimp only;omega)|(simp;done)|(simp;omega)))|(refine ax ?_;refine Nxt.mk [1] (⟨i+1,by omega⟩) rfl (by unfold otI;(try simp only[List.cons_append,List.nil_append]);refine Sub.mk2 ?_;(simp-dsimp(disch:=try exact vD) only[push_cast,simprocAttr,htk,hlen,hsn]);(repeat refine aI ?_);first|done|exact vI) (by first|omega|(dsimp only;omega)|(simp;done)|(simp;omega)))|(refine ax ?_;refine Nxt.mk [0] (⟨i+1,by omega⟩) rfl (by unfold otI;(try simp only[List.cons_append,List.nil_append]);refine Sub.mk2 ?_;(simp-dsimp(disch:=try exact vD) only[push_cast,simprocAttr,htk,hlen,hsn]);(repeat refine aI ?_);first|done|exact vI) (by first|omega|(dsimp only;omega)|(simp;done)|(simp;omega)))|apply dG|apply aF|((first|refine ay rfl (fun K hK=>?_)|refine aj (fun K hK=>?_)|refine aA (fun K hK=>?_));(first|refine ah (f:=69) [] 0 false ?_|refine ah (f:=55) [] 0 false ?_);simp-dsimp(disch:=try exact vD) only[push_cast,simprocAttr,htk,hlen];(repeat refine aI ?_);intro G hG;refine hG _ _ ?_;clear hG G;(first|refine⟨_,_,g1.down,?_⟩|refine⟨_,_,(hm.down i hil),?_⟩);simp-dsimp(disch:=try exact vD) only[push_cast,simprocAttr,htk,hlen];(repeat refine aI ?_);apply hK;clear hK K)|((first|refine ay rfl (fun K hK=>?_)|refine aj (fun K hK=>?_)|refine aA (fun K hK=>?_));(first|apply cO|apply aZ|apply df|apply aT|apply bf|apply bu|apply fK|apply bZ|apply aX|apply dY|apply dM);simp-dsimp(disch:=try exact vD) only[push_cast,simprocAttr,htk,hlen];(repeat refine aI ?_);apply hK;clear hK K)|((first|refine ay rfl (fun K hK=>?_)|refine aj (fun K hK=>?_)|refine aA (fun K hK=>?_));(first|apply gz);simp-dsimp(disch:=try exact vD) only[push_cast,simprocAttr,htk,hlen];(repeat refine aI ?_);apply hK;clear hK K)|((first|refine ay rfl (fun K hK=>?_)|refine aj (fun K hK=>?_)|refine aA (fun K hK=>?_));(first|apply eO);simp-dsimp(disch:=try exact vD) only[push_cast,simprocAttr,htk,hlen];(repeat refine aI ?_);apply hK;clear hK K)|((first|refine ay rfl (fun K hK=>?_)|refine aj (fun K hK=>?_)|refine aA (fun K hK=>?_));(first|apply eH);simp-dsimp(disch:=try exact vD) only[push_cast,simprocAttr,htk,hlen];(repeat refine aI ?_);apply hK;clear hK K)|((first|refine aQ rfl rfl (fun K1 K2 h1 h2=>?_) rfl|refine aJ (fun K1 K2 h1 h2=>?_)|refine bL rfl rfl (fun K1 K2 h1 h2=>?_));simp-dsimp(disch:=try exact vD) only[push_cast,simprocAttr,htk,hlen];(first|(refine⟨fun hc=>?_,fun hc=>?_⟩<;>first|(exfalso;omega)|(exfalso;contradiction)|refine h1 ?_|refine h2 ?_)|refine h1 ?_|refine h2 ?_);all_goals clear h1 h2 K1 K2)|(refine aV (id:=5) (by kernel_rfl) [⟨0,[],[12,13,14,15,16,17,18],[],[],0⟩,⟨1,[],[11,13,14,15,16],[],[],0⟩,⟨2,[],[11,12,14],[],[],0⟩,⟨3,[],[11,12,13],[],[],0⟩,⟨4,[2,3],[11,12],[],[],0⟩,⟨5,[2,3,4],[11,12],[],[],0⟩,⟨6,[1,2,3,4,5],[11],[],[],0⟩,⟨7,[1,2,3,4,5,6],[11],[],[],1⟩,⟨8,[0,1,2,3,4,5,6,7],[],[],[2],1⟩,⟨9,[0,1,2,3,4,5,6,7,8],[],[],[],0⟩] (by kernel_rfl) (by kernel_rfl) (by kernel_rfl) ?_)|((first|refine dW (by kernel_rfl) (fun K hK=>?_)|refine gy (by kernel_rfl) (fun K hK=>?_));simp only[↓Go.Sy.dz,↓Go.Sy.dA,↓Go.Sy.dU,↓Go.Sy.dD,↓Go.Sy.dV,↓Go.Sy.cZ,↓Go.Sy.dE,push_cast,Nat.reduceLeDiff,Nat.reduceSub,Nat.reduceBEq,Nat.reduceEqDiff,Nat.reduceAdd,Nat.reduceLT,↓reduceIte,reduceCtorEq];refine hK _ _ _ ?_;clear hK K)|apply jl|apply dH|apply aR|apply bX|apply bz|apply aS|apply bY|apply bA|(refine aY rfl ?_)|apply bB|apply bW|apply bV|apply dF)
  all_goals first
   |(((refine Ends.frz 0 ?_;simp-dsimp(disch:=try exact vD) only[push_cast,simprocAttr,Tryz.f37,htk];(repeat refine aI ?_);intro K hK;refine hK _ _ ?_;clear hK K);refine Ends.mk2 (by first|exact .inr rfl|exact .inl rfl) [] ?_;simp-dsimp(disch:=try exact vD) only[push_cast,simprocAttr,Tryz.f37,htk];try exact zqF);done)
   |skip
end Go.Proofs.YtcbginhpibfgaaaGreatDoor
namespace Go.Proofs.YtcbginhpibfgaaaGreatDoor
open Go Go.Sy Go.Bp Go.Dg
attribute [local irreducible] AO AL AC OpT ACall Ends DGo bK Thn Blk Nxt
variable {n N M L T k i m r a b j w u v s q x y d:Nat} {z up:Bool} {B:List Nat} {e:Int} {p:Nat→Bool}
def bsI(y s:Nat):Bool:=decide (IntKind.u8.wrap (((BitVec.ofInt IntKind.u8.bits ((y:Int).fdiv (2^((s:Int)%8).toNat))&&&BitVec.ofInt IntKind.u8.bits 1).toNat:Nat):Int)=1)
def mdB(B:List Nat)(L s:Nat):Bool:=if L=0 then false else bsI (B.getD (s/8%L) 0) s
theorem afa:mdB B 0 s=false:=if_pos rfl
theorem afb(h:0<L):mdB B L s=bsI (B.getD (s/8%L) 0) s:=if_neg (by omega)
def isx(l:List Bool)(s x:Nat):Bool:=(List.range x).any fun y=>l.getD y default&&decide (yw y s%65536=0)
def mkT(p:Nat→Bool)(up:Bool):Nat→List Bool
 |0=>[]
 |s+1=>mkT p up s++[p s||(up&&isx (mkT p up s) s s)]
theorem uo:∀s,(mkT p up s).length=s
 |0=>rfl
 |s+1=>by rw[mkT,List.length_append,uo s];rfl
theorem alV{l:List Bool}:isx l s (x+1)=(isx l s x||(l.getD x default&&decide (yw x s%65536=0))):=by
 unfold isx;rw[List.range_succ,List.any_append];simp
theorem Zz:(cB (mkT p up T)).take T=cB (mkT p up T):=List.take_of_length_le (by rw[cB_len,uo];exact Nat.le_refl _)
def mdA(z:Bool)(N:Nat)(B:List Nat)(L:Nat)(up:Bool)(n T:Nat)(s:{s:Nat // s≤T}):St:=⟨69,0,[(1,.pt 0 0),(2,.pt 1 0),(3,.val (.int .i64 n)),(4,kC s.val 2 1),(5,.val (.int .i64 s.val))],[(0,some (.cells (drC N z B L up) 24)),(1,some zDO)]++kD s.val 2 (cB (mkT (mdB B L) up s.val)) 4⟩
def mdF(z:Bool)(N:Nat)(B:List Nat)(L:Nat)(n s:Nat)(b0:Bool)(x:{x:Nat // x=0}):St:=⟨69,0,[(1,.pt 0 0),(2,.pt 1 0),(3,.val (.int .i64 n)),(4,kC s 2 1),(5,.val (.int .i64 s)),(6,.val (.bool b0)),(7,.val (.int .i64 x.val))],[(0,some (.cells (drC N z B L false) 24)),(1,some zDO)]++kD s 2 (cB (mkT (mdB B L) false s)) 4⟩
def mdG(z:Bool)(N:Nat)(B:List Nat)(L:Nat)(n s:Nat)(b0:Bool)(x:{x:Nat // x≤s}):St:=⟨69,0,[(1,.pt 0 0),(2,.pt 1 0),(3,.val (.int .i64 n)),(4,kC s 2 1),(5,.val (.int .i64 s)),(6,.val (.bool (b0||isx (mkT (mdB B L) true s) s x.val))),(7,.val (.int .i64 x.val))],[(0,some (.cells (drC N z B L true) 24)),(1,some zDO)]++kD s 2 (cB (mkT (mdB B L) true s)) 4⟩
theorem ajw(hN:N<256)(hL:B.length=L)(hL2:L<2^47)(hn:N%7=n)(hT:2^n=T)(hb:∀i,B.getD i 0<256):ACall Tryz.prog 13 [.agg (drC N z B L false)] [] 0 (dgV ((kM n (mkT (mdB B L) false T)).1.length==0) n (kM n (mkT (mdB B L) false T)).1 (kM n (mkT (mdB B L) false T)).2) []:=by
 have hx:=ae;have hq:=ae;have hg:=ae;have hb0:=ae;have hbs:=ae;have hL00:=ae;have hv:=ae;have ht:=ae;have hw:=ae;have hst:=ae;have hsn:=ae;have hlT:=ae;have hmin:=ae;have hs0:=ae
 have hn6:n≤6:=by omega
 have hT64:T≤64:=by rw[←hT];exact(Nat.pow_le_pow_right (by omega) hn6:2^n≤2^6)
 have hTp:0<T:=by rw[←hT];exact Nat.two_pow_pos n
 have hsh:=Bc (n:=n) (by omega)
 have hfr:=PLift.up (lV (n:=n) (tb:=mkT (mdB B L) false T) (M:=T) (by omega) (uo _) hT.symm)
 have htk:=Zz (p:=mdB B L) (up:=false) (T:=T)
 have hwi:=fun(x s:Nat) (hx:x<65536) (h:s<65536)=>PLift.up (by
  have:=Bh (s:=x) (q:=s)
  rw[Lp hx,Lp h] at this;exact this)
 rw[hT] at hsh
 unfold dgV at*
 generalize((kM n (mkT (mdB B L) false T)).1.length==0)=zb at hfr⊢
 generalize kM n (mkT (mdB B L) false T)=R at hfr⊢
 unfold drC
 refine ak Tryz.func13 Tryz.ntmps13 rfl ?_
 repeat' (first|((first|refine bI (r:=12) 2 ?_|refine bH (r:=12) 2 ?_);simp-dsimp(disch:=try exact vD) only[push_cast,simprocAttr,htk,hsh,hmin,hs0,hq,hg,hb0,hbs,hL00,hv,ht,hw,hst,hlT,drC];(repeat refine aI ?_);intro K hK;refine hK _ _ ?_;clear hK K)|(refine ai ?_;refine au [0,1,2] ([0,1,2].length) (mdF z N B L n s (mdB B L s)) (fun _=>0) (⟨0,rfl⟩) rfl (by unfold mdF;(try simp only[List.cons_append,List.nil_append]);refine Sub.mk2 ?_;(simp-dsimp(disch:=try exact vD) only[push_cast,simprocAttr,htk,hsh,hmin,hs0,hq,hg,hb0,hbs,hL00,hv,ht,hw,hst,hlT,drC]);(repeat refine aI ?_);first|done|exact vI) ?_;(rintro⟨x,rfl⟩;have hsn:mkT (mdB B L) false s++[mdB B L s]=mkT (mdB B L) false (s+1):=(by rw[mkT,Bool.false_and,Bool.or_false]);rw[hb0] at hsn;first|(have s00:s=0:=s0;subst s00;have hsn:=congrArg cB hsn;have hsn:[AV.val (.bool _)]=cB (mkT (mdB B L) false 1):=hsn;(simp-dsimp(disch:=try exact vD) only[push_cast,simprocAttr,mdF]))|(have hs0:((0:Int)<(s:Int))=True:=eq_true (by omega);(simp-dsimp(disch:=try exact vD) only[push_cast,simprocAttr,mdF]))))|(refine ai ?_;refine au [0,1,9] ([0,1,9].length) (mdA z N B L false n T) (fun s=>T-s.val) (⟨0,by omega⟩) rfl (by unfold mdA;(try simp only[List.cons_append,List.nil_append]);refine Sub.mk2 ?_;(simp-dsimp(disch:=try exact vD) only[push_cast,simprocAttr,htk,hsh,hmin,hs0,hq,hg,hb0,hbs,hL00,hv,ht,hw,hst,hlT,drC]);(repeat refine aI ?_);first|done|exact vI) ?_;(rintro⟨s,hs⟩;rcases Nat.lt_or_eq_of_le hs with hsl|hsl<;>first|(have es:T=s:=hsl.symm;subst es;(simp-dsimp(disch:=try exact vD) only[push_cast,simprocAttr,mdA]))|(have hlT:=uo (p:=mdB B L) (up:=false) s;rcases Nat.eq_zero_or_pos s with s0|s0<;>rcases Nat.eq_zero_or_pos L with h0|h0<;>first|(have hb0:mdB B L s=false:=(by rw[h0];exact afa);have hL00:(0<(L:Int))=False:=eq_false (by omega);(simp-dsimp(disch:=try exact vD) only[push_cast,simprocAttr,mdA]))|(have hb0:=afb (B:=B) (s:=s) h0;have hmin:min ((s:Int)%8).toNat IntKind.u8.bits=((s:Int)%8).toNat:=Nat.min_eq_left (by show _≤8;omega);have hqL:s/8%L<L:=Nat.mod_lt _ h0;have hq:((s:Int)/8%(L:Int))=((s/8%L:Nat):Int):=(by norm_cast);obtain⟨q,hqe⟩:∃q,s/8%L=q:=⟨_,rfl⟩;rw[hqe] at hq hqL hb0;have hg:=Bi (l:=B) (j:=q) (by omega);have hlB:(NI B).length=L:=(by rw[dS,hL]);obtain⟨y,hye⟩:∃y,B.getD q 0=y:=⟨_,rfl⟩;have hy:=hb q;rw[hye] at hg hy hb0;rcases Bool.eq_false_or_eq_true (bsI y s) with h8|h8<;>rw[h8] at hb0<;>first|(have hbs:=eq_true (of_decide_eq_true h8);(simp-dsimp(disch:=try exact vD) only[push_cast,simprocAttr,mdA]))|(have hbs:=eq_false (of_decide_eq_false h8);(simp-dsimp(disch:=try exact vD) only[push_cast,simprocAttr,mdA]))))))|(refine ax ?_;refine Nxt.mk [0,1,4] (⟨1,by omega⟩) rfl (by unfold mdA;(try simp only[List.cons_append,List.nil_append]);refine Sub.mk2 ?_;(simp-dsimp(disch:=try exact vD) only[push_cast,simprocAttr,htk,hsh,hmin,hs0,hq,hg,hb0,hbs,hL00,hv,ht,hw,hst,hlT,drC,hsn]);(repeat refine aI ?_);first|done|exact vI) (by first|omega|(dsimp only;omega)|(simp;done)|(simp;omega)))|(refine ax ?_;refine Nxt.mk [0,1,2] (⟨s+1,by omega⟩) rfl (by unfold mdA;(try simp only[List.cons_append,List.nil_append]);refine Sub.mk2 ?_;(simp-dsimp(disch:=try exact vD) only[push_cast,simprocAttr,htk,hsh,hmin,hs0,hq,hg,hb0,hbs,hL00,hv,ht,hw,hst,hlT,drC,hsn]);(repeat refine aI ?_);first|done|exact vI) (by first|omega|(dsimp only;omega)|(simp;done)|(simp;omega)))|(refine ax ?_;refine Nxt.mk [0,1,3] (⟨s+1,by omega⟩) rfl (by unfold mdA;(try simp only[List.cons_append,List.nil_append]);refine Sub.mk2 ?_;(simp-dsimp(disch:=try exact vD) only[push_cast,simprocAttr,htk,hsh,hmin,hs0,hq,hg,hb0,hbs,hL00,hv,ht,hw,hst,hlT,drC,hsn]);(repeat refine aI ?_);first|done|exact vI) (by first|omega|(dsimp only;omega)|(simp;done)|(simp;omega)))|(refine ax ?_;refine Nxt.mk [0,1,4] (⟨s+1,by omega⟩) rfl (by unfold mdA;(try simp only[List.cons_append,List.nil_append]);refine Sub.mk2 ?_;(simp-dsimp(disch:=try exact vD) only[push_cast,simprocAttr,htk,hsh,hmin,hs0,hq,hg,hb0,hbs,hL00,hv,ht,hw,hst,hlT,drC,hsn]);(repeat refine aI ?_);first|done|exact vI) (by first|omega|(dsimp only;omega)|(simp;done)|(simp;omega)))|apply dG|apply aF|((first|refine ay rfl (fun K hK=>?_)|refine aj (fun K hK=>?_)|refine aA (fun K hK=>?_));(first|refine ah (f:=42) [] 0 false ?_|refine ah (f:=41) [] 0 false ?_);simp-dsimp(disch:=try exact vD) only[push_cast,simprocAttr,htk,hsh,hmin,hs0,hq,hg,hb0,hbs,hL00,hv,ht,hw,hst,hlT,drC];(repeat refine aI ?_);intro G hG;refine hG _ _ ?_;clear hG G;(first|refine⟨_,_,hfr.down,?_⟩|refine⟨_,_,(hwi x s (by omega) (by omega)).down,?_⟩);simp-dsimp(disch:=try exact vD) only[push_cast,simprocAttr,htk,hsh,hmin,hs0,hq,hg,hb0,hbs,hL00,hv,ht,hw,hst,hlT,drC];(repeat refine aI ?_);apply hK;clear hK K)|((first|refine ay rfl (fun K hK=>?_)|refine aj (fun K hK=>?_)|refine aA (fun K hK=>?_));(first|apply cO|apply aZ|apply df|apply aT|apply aW|apply bf|apply bu|apply fK|apply bZ|apply fA|apply gm|apply fu|apply eG|apply aX|apply dK|apply dP|apply dm|apply bU|apply dY|apply dM);simp-dsimp(disch:=try exact vD) only[push_cast,simprocAttr,htk,hsh,hmin,hs0,hq,hg,hb0,hbs,hL00,hv,ht,hw,hst,hlT,drC];(repeat refine aI ?_);apply hK;clear hK K)|((first|refine ay rfl (fun K hK=>?_)|refine aj (fun K hK=>?_)|refine aA (fun K hK=>?_));(first|apply gz);simp-dsimp(disch:=try exact vD) only[push_cast,simprocAttr,htk,hsh,hmin,hs0,hq,hg,hb0,hbs,hL00,hv,ht,hw,hst,hlT,drC];(repeat refine aI ?_);apply hK;clear hK K)|((first|refine ay rfl (fun K hK=>?_)|refine aj (fun K hK=>?_)|refine aA (fun K hK=>?_));(first|apply eO);simp-dsimp(disch:=try exact vD) only[push_cast,simprocAttr,htk,hsh,hmin,hs0,hq,hg,hb0,hbs,hL00,hv,ht,hw,hst,hlT,drC];(repeat refine aI ?_);apply hK;clear hK K)|((first|refine ay rfl (fun K hK=>?_)|refine aj (fun K hK=>?_)|refine aA (fun K hK=>?_));(first|apply eH);simp-dsimp(disch:=try exact vD) only[push_cast,simprocAttr,htk,hsh,hmin,hs0,hq,hg,hb0,hbs,hL00,hv,ht,hw,hst,hlT,drC];(repeat refine aI ?_);apply hK;clear hK K)|((first|refine aQ rfl rfl (fun K1 K2 h1 h2=>?_) rfl|refine aJ (fun K1 K2 h1 h2=>?_)|refine bL rfl rfl (fun K1 K2 h1 h2=>?_));simp-dsimp(disch:=try exact vD) only[push_cast,simprocAttr,htk,hsh,hmin,hs0,hq,hg,hb0,hbs,hL00,hv,ht,hw,hst,hlT,drC];(first|(refine⟨fun hc=>?_,fun hc=>?_⟩<;>first|(exfalso;omega)|(exfalso;contradiction)|refine h1 ?_|refine h2 ?_)|refine h1 ?_|refine h2 ?_);all_goals clear h1 h2 K1 K2)|(refine aV (id:=6) (by kernel_rfl) [⟨0,[],[],[],[],0⟩,⟨1,[0],[],[],[],0⟩,⟨2,[0,1],[],[],[],0⟩,⟨3,[0,1,2],[],[],[],0⟩,⟨4,[0,1,2,3],[],[],[],0⟩,⟨5,[0,1,2,3,4],[25,26,27,28,29,30,33,34],[],[],0⟩,⟨6,[0,1,2,3,4,5],[25,26,27,28,29,30,33,34],[],[],0⟩,⟨7,[0,1,2,3,4],[23,24,27,28,29,33,34],[],[],0⟩,⟨8,[0,1,2,3,4,7],[23,24,27,28,29,33,34],[],[],0⟩,⟨9,[0,1,2,3,4],[23,24,25,26,33,34],[],[],0⟩,⟨10,[0,1,2,3,4,9],[23,24,25,26,33,34],[],[],0⟩,⟨11,[0,1,2,3,4,9,10],[23,24,25,26,33,34],[],[],0⟩,⟨12,[0,1,2,3,4,7,8,9,10,11],[23,24,33,34],[],[],0⟩,⟨13,[0,1,2,3,4,5,6,7,8,9,10,11,12],[33,34],[],[],0⟩,⟨14,[0,1,2,3,4,5,6,7,8,9,10,11,12,13],[33,34],[],[],0⟩,⟨15,[0,1,2,3,4],[23,24,25,26,27,28,29,30,31,32],[],[],0⟩,⟨16,[0,1,2,3,4,15],[23,24,25,26,27,28,29,30,31,32],[],[],0⟩,⟨17,[0,1,2,3,4,5,6,7,8,9,10,11,12,13,14,15,16],[],[],[],0⟩,⟨18,[0,1,2,3,4,5,6,7,8,9,10,11,12,13,14,15,16,17],[],[],[],0⟩,⟨19,[0,1,2,3,4,5,6,7,8,9,10,11,12,13,14,15,16,17,18],[],[],[],0⟩,⟨20,[0,1,2,3,4,5,6,7,8,9,10,11,12,13,14,15,16,17,18,19],[],[],[],0⟩,⟨21,[0,1,2,3,4,5,6,7,8,9,10,11,12,13,14,15,16,17,18,19,20],[],[],[],0⟩] (by kernel_rfl) (by kernel_rfl) (by kernel_rfl) ?_)|((first|refine dW (by kernel_rfl) (fun K hK=>?_)|refine gy (by kernel_rfl) (fun K hK=>?_));simp only[↓Go.Sy.dz,↓Go.Sy.dA,↓Go.Sy.dU,↓Go.Sy.dD,↓Go.Sy.dV,↓Go.Sy.cZ,↓Go.Sy.dE,push_cast,Nat.reduceLeDiff,Nat.reduceSub,Nat.reduceBEq,Nat.reduceEqDiff,Nat.reduceAdd,Nat.reduceLT,↓reduceIte,reduceCtorEq];refine hK _ _ _ ?_;clear hK K)|apply jl|apply dH|apply aR|apply bX|apply bz|apply aS|apply bY|apply bA|(refine aY rfl ?_)|apply bB|apply bW|apply bV|apply dF)
 all_goals first
  |((refine Ends.mk2 (by first|exact .inr rfl|exact .inl rfl) [] ?_;simp-dsimp(disch:=try exact vD) only[push_cast,simprocAttr,Tryz.f13];try exact zqF);done)
  |skip
