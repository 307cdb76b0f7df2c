/- Sym17 Args Dg2 Dg6 Di4 Di5 Di7 Di20 DiagArgs2 Lr1 Lr6 Fa2 Dv1 Dv2 Fa4 Dv3. No condition. -/
import Derived.Test.YtcbginhpibfgaaaGreatDoorFDoor
import Derived.Test.YtcbginhpibfgaaaGreatDoorDiG14
import Derived.Test.YtcbginhpibfgaaaGreatDoorFaG4
set_option linter.all false
namespace Go.Sy
open Go.ChangeShapes Go.WideShapes Go.ChangeAt Go.RowKit
section
variable {H:Type} {enc:TypeId×Value→H} {P:Program} {W W':World}
theorem kT(K:Kids P (· <P.types.size))(hz:∀t e,t<P.types.size→P.underlying t=some (.slice e)→0<P.cellsOf e){r:Reach} {b:Nat} {m:Nat} {t:TypeId} {v:Value} {d:DataW H} {ps:List MemPlace} {held:Bool}(ht:t<P.types.size)(hp:mK P m t=true)
 (hs:(match P.underlying t with|some (.struct _)=>false|_=>true)=true) (hval:Value.okWide P W r b t v) (h:DataW.Trod enc P W 0 (fun _=>true) held t v d ps) (hw:∀k∈d.weights P t,k≤reachBytes):
 ∃x,dO P m t [x]∧Rep W (fun b=>b<W.heap.size) (fun _=>none) v x:=by
 obtain⟨fuel,hf⟩:=h
 obtain⟨asq,h1,h2⟩:=yh K hz m t _ _ fuel ht hp hf hw
 have hc:v.cells.toList=[v]:=by
  cases m with
  |zero=>simp[mK] at hp
  |succ m=>
   unfold mK at hp
   unfold Value.okWide at hval
   split at hp
   all_goals(try(rename_i hu;rw[hu] at hval hs))
   all_goals first
    |(cases hp;done)
    |(cases hs;done)
    |(simp only[Cell.okWide,Cell.ok] at hval
      rw[hu] at hval
      cases v<;>first|rfl|(simp at hval))
    |(rename_i hu;rw[hu] at hval hs;simp only[Cell.okWide,Cell.ok] at hval;rw[hu] at hval;cases v<;>first|rfl|(simp at hval))
 rw[hc] at h2
 obtain⟨g1,g2⟩:=h2
 cases asq with
 |nil=>simp at g1
 |cons x asq=>
  have:asq=[]:=List.length_eq_zero_iff.1 (by simpa using g1)
  subst this
  exact⟨x,h1,(g2 0 x rfl).2⟩
end
end Go.Sy
namespace Go.Proofs.YtcbginhpibfgaaaGreatDoor
open Go Go.Sy
theorem ahx{α:Type} {R:α→Prop}(xs:List (List AV))(l:List α)(hl:l.length=xs.length)(h:∀(i:Nat) (x:List AV) (a:α),xs[i]? =some x→l[i]? =some a→R a):∀a∈l,R a:=by
 intro a ha
 obtain⟨i,hi⟩:=List.mem_iff_getElem?.1 ha
 obtain⟨x,hx⟩:∃x,xs[i]? =some x:=⟨_,List.getElem?_eq_getElem (by rw[←hl];exact(List.getElem?_eq_some_iff.1 hi).1)⟩
 exact h i x a hx hi
theorem NU{m:Int}(h:(Lit.int .i64 m).wf=true): -9223372036854775808≤m∧m≤9223372036854775807:=by
 simp only[Lit.wf,Bool.and_eq_true,decide_eq_true_eq,IntKind.min,IntKind.max] at h
 simpa[IntKind.bits,IntKind.signed] using h
theorem Ii{m:Nat} {t:TypeId} {av:List AV}(hu:Tryz.prog.underlying t=some .bool)(h:dO Tryz.prog m t av):∃b,av=[.val (.bool b)]:=by
 cases m with
 |zero=>cases h
 |succ m=>unfold dO at h;rw[hu] at h;exact h
theorem mo{α β:Type}(g:α→β)(l:List α):l.flatMap (fun i=>[g i])=l.map g:=by
 induction l with
 |nil=>rfl
 |cons a l ih=>rw[List.flatMap_cons,ih];rfl
theorem lN{α:Type} {g:α→List AV} {Q:α→Prop} {m bn:Nat} {t e:TypeId} {av:List AV}(hu:Tryz.prog.underlying t=some (.slice e))(h:dO Tryz.prog m t av)(hb:Tryz.prog.bytesOf e=bn)(h8:1≤bn)
 (hx:∀n x,dO Tryz.prog n e x→∃a,x=g a∧Q a):∃(z:Bool) (l:List α),av=[.isl z (l.flatMap g) l.length]∧(∀a∈l,Q a)∧l.length<2^47∧(z=true→l=[]):=by
 obtain⟨n,rfl|⟨xs,rfl,h1,h2⟩⟩:=u6 hu h
 ·exact⟨true,[],rfl,by simp,Nat.two_pow_pos 47,fun _=>rfl⟩
 ·obtain⟨l,k1,k2⟩:=JD (R:=fun x a=>x=g a∧Q a) xs (fun x hx'=>hx n x (h1 x hx').2)
  refine⟨false,l,?_,ahx xs l k1 (fun i x a hx ha=>(k2 i x a hx ha).2),?_,fun h=>by cases h⟩
  ·rw[Dm (g:=g) xs l k1 (fun i x a hx ha=>(k2 i x a hx ha).1),k1]
  ·have h3:xs.length*1≤reachBytes:=Nat.le_trans (Nat.mul_le_mul_left _ (hb▸h8)) h2
   rw[k1];unfold reachBytes at h3;omega
end Go.Proofs.YtcbginhpibfgaaaGreatDoor
namespace Go.Dg
variable {F G D e A B:List Fo} {f:Fo} {n m i j k s t r u v w nx n1 l:Nat} {tab φ φ0 φ1:Nat→Bool}
theorem Sn{tab':Nat→Bool}:∀(m i s:Nat) (F:List Fo),i+m=n→s<2^i→(∀t,Ext n i s t→tab t=tab' t)→gen tab m i s F=gen tab' m i s F:=by
 intro m
 induction m with
 |zero=>
  intro i s F hi hs h
  rw[Ey,Ey,h s (wH hs (by omega))]
 |succ m ih=>
  intro i s F hi hs h
  have e1:=ih (i+1) s F (by omega) (u7 hs) (fun t ht=>h t ht.of_low)
  have e2:=ih (i+1) (s|||2^i) (gen tab' m (i+1) s F).1 (by omega) (kI hs) (fun t ht=>h t (ht.of_high hs))
  simp only[gen,e1,e2]
theorem EC{tab':Nat→Bool}(h:∀t,t<2^n→tab t=tab' t):fC n tab=fC n tab':=Sn n 0 0 [] (by omega) (by decide) (fun t ht=>h t ht.1)
end Go.Dg
namespace Go.Dg
variable {F G D e A B:List Fo} {f:Fo} {n m i j k s t r u v w nx n1 l:Nat} {tab φ φ0 φ1:Nat→Bool}
theorem Qc(h:F.length≤k):(F.getD k default).lo=0∧(F.getD k default).hi=0:=by
 rw[List.getD_eq_getElem?_getD,List.getElem?_eq_none h];exact⟨rfl,rfl⟩
theorem EE(hb:Bnd F):∀(k m r:Nat),r≤k→r≤m→qY F t k r=qY F t m r:=by
 intro k
 induction k with
 |zero=>intro m r hk hm;rw[iY (by omega),iY (by omega)]
 |succ k ih=>
  intro m r hk hm
  by_cases h2:r<2
  ·rw[iY h2,iY h2]
  ·cases m with
   |zero=>omega
   |succ m=>
    have hl:(F.getD (r-2) default).lo<r∧(F.getD (r-2) default).hi<r:=by
     by_cases hr:r-2<F.length
     ·have:=hb (r-2) hr;omega
     ·have:=Qc (F:=F) (k:=r-2) (by omega);omega
    simp only[qY,if_neg h2]
    rw[ih m _ (by omega) (by omega),ih m _ (by omega) (by omega)]
theorem Lr(hb:Bnd F)(h2:¬r<2)(hr:r<F.length+2):aG F t r=if t.testBit (F.getD (r-2) default).v=true then aG F t (F.getD (r-2) default).hi else aG F t (F.getD (r-2) default).lo:=by
 have ho:=hb (r-2) (by omega)
 unfold aG
 obtain⟨k,rfl⟩:∃k,r=k+1:=⟨r-1,by omega⟩
 rw[qY,if_neg h2,EE hb k _ _ (by omega) (Nat.le_refl _),EE hb k _ _ (by omega) (Nat.le_refl _)]
theorem Ls(hb:Bnd F)(hr:F.length+2≤r):aG F t r=false:=by
 unfold aG
 obtain⟨k,rfl⟩:∃k,r=k+1:=⟨r-1,by omega⟩
 have:=Qc (F:=F) (k:=k+1-2) (by omega)
 rw[qY,if_neg (by omega),this.1,this.2,iY (by decide)]
 split<;>rfl
def lT(F:List Fo)(r m:Nat):List Bool:=(List.range m).map fun t=>aG F t r
theorem gU:(lT F r m).length=m:=by simp[lT]
theorem ahQ:lT F r (m+1)=lT F r m++[aG F m r]:=by simp[lT,List.range_succ]
theorem ack(h:t<m):(lT F r m).getD t false=aG F t r:=by
 unfold lT
 rw[List.getD_eq_getElem?_getD,List.getElem?_map,List.getElem?_range h];rfl
theorem yA(h:m=2^n):kM n (lT F r m)=fC n fun t=>aG F t r:=EC fun t ht=>ack (by omega)
end Go.Dg
set_option maxHeartbeats 4000000
set_option maxRecDepth 20000
namespace Go.Proofs.YtcbginhpibfgaaaGreatDoor
open Go Go.Sy Go.Dg
attribute [local irreducible] AO AL AC OpT ACall Ends DGo bK Thn Blk Nxt
variable {N N':Nat} {F F1 F2 G:List Fo} {L L':List Fk} {v lo hi n k k1 k2 k' i m s t a b r:Nat} {p q p' q':Int} {z z':Bool} {x y:Fk}
theorem lU(x:Fk):aa.cells x=[.val (.int .i64 x.v),.val (.int .i64 x.lo),.val (.int .i64 x.hi)]:=rfl
def rgV(z:Bool)(n:Int)(L:List Fk)(r:Int):AV:= .agg [.val (.int .i64 n),.isl z (cR L) L.length,.val (.int .i64 r)]
theorem mP:dgV z n F r=rgV z n (F.map fk) r:=by unfold dgV rgV;rw[gV,List.length_map]
def acm(i:Nat)(L L':List Fk):Prop:=∀j,j<i→L.getD j default=L'.getD j default
def WG(z z':Bool)(p q:Int)(L L':List Fk)(N:Nat)(i:{i:Nat // i≤N∧acm i L L'}):St:=
 ⟨45,0,[(2,.pt 0 0),(3,.pt 1 0),(5,.val (.int .i64 i.val))],[(0,some (.cells [.val (.int .i64 p),.isl z (cR L) N,.val (.int .i64 q)] 29)),(1,some (.cells [.val (.int .i64 p),.isl z' (cR L') N,.val (.int .i64 q)] 29))]⟩
theorem ahR(h:acm i L L')(h2:L.getD i default=L'.getD i default):acm (i+1) L L':=fun j hj=>by
 by_cases e:j=i
 ·subst e;exact h2
 ·exact h j (by omega)
theorem WH(h:acm k L L')(hL:L.length=k)(hL':L'.length=k):L=L':=by
 apply List.ext_getElem (by omega)
 intro j h1 h2
 have:=h j (by omega)
 rw[List.getD_eq_getElem?_getD,List.getElem?_eq_getElem h1,List.getD_eq_getElem?_getD,List.getElem?_eq_getElem h2] at this
 exact this
theorem ahS:eqI [x.v,x.lo,x.hi] [y.v,y.lo,y.hi]=decide (x=y):=by
 rw[Eg]
 congr 1
 cases x;cases y;simp
theorem WI{N:Nat}(hL:L.length=N)(hL':L'.length=N)(hN:N<2^50):ACall Tryz.prog 82 [.agg [.val (.int .i64 p),.isl z (cR L) N,.val (.int .i64 q)],.agg [.val (.int .i64 p),.isl z' (cR L') N,.val (.int .i64 q)]] [] 0 (.val (.bool (decide (L=L')))) []:=by
 have zx1:=ae
 refine ak Tryz.func82 Tryz.ntmps82 rfl ?_
 have zx2:= @ahS;have zx3:= @lU;repeat' (first|(refine ai ?_;refine au [0,1] ([0,1].length) (WG z z' p q L L' N) (fun i=>N-i.val) (⟨0,by omega,fun j hj=>absurd hj (by omega)⟩) rfl (by unfold WG;exact eQ) ?_;(rintro⟨i,hi,he⟩;rcases Nat.lt_or_eq_of_le hi with hil|hil<;>first|(have ei:N=i:=hil.symm;subst ei;(simp-dsimp only[WG];refine zqS ?_))|(rcases Decidable.em (L.getD i default=L'.getD i default) with zx1|zx1<;>(simp-dsimp only[WG];refine zqS ?_))))|(refine ax ?_;refine Nxt.mk [0,1] (⟨i+1,by omega,ahR he zx1⟩) rfl (by unfold WG;exact eQ) zqO)|refine zqN ?_|refine bM ?_|refine bO ?_|(refine bP ?_ ?_<;>intro hc<;>try exact zqM)|refine zqR 6 [⟨0,[],[36,39,40,41,42,43],[],[],0⟩,⟨1,[0],[36,39,40,41,42,43],[],[],0⟩,⟨2,[],[34,35,39,40,41,42,43],[],[],0⟩,⟨3,[0,1,2],[39,40,41,42,43],[],[],0⟩,⟨4,[0,1,2,3],[39,40,41,42,43],[],[],0⟩,⟨5,[],[34,35,36,37,38,41],[],[],0⟩,⟨6,[5],[34,35,36,37,38,41],[],[],0⟩,⟨7,[],[34,35,36,37,38,39,40],[],[],0⟩,⟨8,[5,6,7],[34,35,36,37,38],[],[],0⟩,⟨9,[5,6,7,8],[34,35,36,37,38],[],[],0⟩,⟨10,[0,1,2,3,4,5,6,7,8,9],[],[],[],0⟩] ?_|refine zqD ?_|fail)
 all_goals first
  |(have e:L=L':=WH he hL hL';rw[decide_eq_true e];(refine Ends.mk2 zqI [] ?_;simp-dsimp(disch:=try exact vD) only[push_cast,simprocAttr,Tryz.f82];try exact zqF);done)
  |(have e:¬L=L':=(fun e=>zx1 (by rw[e]));rw[decide_eq_false e];(refine Ends.mk2 zqI [] ?_;simp-dsimp(disch:=try exact vD) only[push_cast,simprocAttr,Tryz.f82];try exact zqF);done)
  |skip
theorem Su{N N':Nat}(h:¬(p=p'∧q=q'∧N=N')):ACall Tryz.prog 82 [.agg [.val (.int .i64 p),.isl z (cR L) N,.val (.int .i64 q)],.agg [.val (.int .i64 p'),.isl z' (cR L') N',.val (.int .i64 q')]] [] 0 (.val (.bool false)) []:=by
 have zx1:=ae;have zx2:=ae;have zx3:=ae
 rcases Decidable.em (p=p') with zx1|zx1<;>rcases Decidable.em (q=q') with zx2|zx2<;>rcases Decidable.em (N=N') with zx3|zx3
 all_goals try(exact absurd (And.intro zx1 (And.intro zx2 zx3)) h)
 all_goals clear h
 all_goals(refine ak Tryz.func82 Tryz.ntmps82 rfl ?_)
 all_goals repeat' (first|refine zqN ?_|refine bM ?_|refine bO ?_|(refine bP ?_ ?_<;>intro hc<;>try exact zqM)|refine zqR 6 [⟨0,[],[36,39,40,41,42,43],[],[],0⟩,⟨1,[0],[36,39,40,41,42,43],[],[],0⟩,⟨2,[],[34,35,39,40,41,42,43],[],[],0⟩,⟨3,[0,1,2],[39,40,41,42,43],[],[],0⟩,⟨4,[0,1,2,3],[39,40,41,42,43],[],[],0⟩,⟨5,[],[34,35,36,37,38,41],[],[],0⟩,⟨6,[5],[34,35,36,37,38,41],[],[],0⟩,⟨7,[],[34,35,36,37,38,39,40],[],[],0⟩,⟨8,[5,6,7],[34,35,36,37,38],[],[],0⟩,⟨9,[5,6,7,8],[34,35,36,37,38],[],[],0⟩,⟨10,[0,1,2,3,4,5,6,7,8,9],[],[],[],0⟩] ?_|refine zqD ?_|fail)
 all_goals((refine Ends.mk2 zqI [] ?_;simp-dsimp(disch:=try exact vD) only[push_cast,simprocAttr,Tryz.f82];try exact zqF))
theorem EF(hL:L.length<2^50):ACall Tryz.prog 82 [rgV z p L q,rgV z' p' L' q'] [] 0 (.val (.bool (decide (p=p'∧q=q'∧L=L')))) []:=by
 unfold rgV
 by_cases h:p=p'∧q=q'∧L.length=L'.length
 ·obtain⟨rfl,rfl,h⟩:=h
  have:=WI (p:=p) (q:=q) (z:=z) (z':=z') (L:=L) (L':=L') (N:=L'.length) h rfl (by omega)
  rw[h]
  simpa using this
 ·have e:¬(p=p'∧q=q'∧L=L'):=fun e=>h ⟨e.1,e.2.1,by rw[e.2.2]⟩
  rw[decide_eq_false e]
  exact Su h
theorem N9(hL:L.length<2^50):ACall Tryz.prog 82 [rgV z p L q,rgV z' p L q] [] 0 (.val (.bool true)) []:=by
 have:=EF (z:=z) (z':=z') (p:=p) (p':=p) (q:=q) (q':=q) (L:=L) (L':=L) hL
 simpa using this
theorem acn(hn:n<16):ACall Tryz.prog 142 [.val (.int .u16 (U s)),.val (.int .i64 n)] [] 0 (.val (.bool (bit s n))) []:=by
 refine ak Tryz.func142 Tryz.ntmps142 rfl ?_
 repeat' (first|refine zqN ?_|refine aK ?_|refine aL ?_|(refine aM ?_ ?_<;>intro hc<;>try exact zqM))
 all_goals(refine Ends.mk2 zqI [] ?_;simp-dsimp(disch:=try exact vD) only[push_cast,simprocAttr,Tryz.f142];try exact zqF)
theorem WJ(h:s<65536):bit s n=s.testBit n:=by unfold bit;rw[Nat.mod_eq_of_lt h]
theorem ne12(x:Nat):((x:Int)+1+1=1)=False:=eq_false (by omega)
def vlI(z:Bool)(p q:Int)(F:List Fo)(N t:Nat)(v:Bool)(r:{r:Nat // aG F t r=v∧r<2^50}):St:=
 ⟨34,0,[(1,.val (.int .i64 r.val)),(2,.val (.int .u16 (U t))),(3,.pt 0 0)],[(0,some (.cells [.val (.int .i64 p),.isl z (cR F) N,.val (.int .i64 q)] 29))]⟩
theorem Lt(hb:Bnd F)(h16:∀k,k<F.length→(F.getD k default).v<16)(hN:F.length=N)(hN2:N<2^40)(hr:r<2^50)(ht:t<65536):ACall Tryz.prog 110 [.agg [.val (.int .i64 p),.isl z (cR F) N,.val (.int .i64 q)],.val (.int .i64 r),.val (.int .u16 (U t))] [] 0 (.val (.bool (aG F t r))) []:=by
 have zx1:=ae;have zx2:=ae
 generalize hv:aG F t r=v
 refine ak Tryz.func110 Tryz.ntmps110 rfl ?_
 have zx3:= @cz;have zx4:= @uG;have zx5:= @ne12;have zx6:=aC;repeat' (first|(refine ai ?_;refine au [0] ([0].length) (vlI z p q F N t v) (fun r=>r.val) (⟨r,hv,hr⟩) rfl (by unfold vlI;exact gY) ?_;(rintro⟨r1,hv1,hr1⟩;rcases Nat.lt_or_ge r1 2 with h2|h2<;>first|(have hh:2≤r1:=h2;obtain⟨k,rfl⟩:∃k,r1=k+2:=⟨r1-2,by omega⟩;have hbk:k<N→(F.getD k default).lo<k+2∧(F.getD k default).hi<k+2:=(fun h=>hb k (by omega));rcases Nat.lt_or_ge k N with h3|h3<;>rcases Bool.eq_false_or_eq_true (bit t (F.getD k default).v) with zx2|zx2<;>(try(replace hbk:=hbk h3))<;>(simp-dsimp only[vlI];refine zqS ?_))|(simp-dsimp only[vlI];refine zqS ?_)))|(refine ax ?_;refine Nxt.mk [0] (⟨(F.getD k default).hi,by rw[←hv1,Lr (r:=k+2) hb (by omega) (by omega),Nat.add_sub_cancel,←WJ ht,zx2];rfl,by omega⟩) rfl (by unfold vlI;exact gY) zqO)|(refine ax ?_;refine Nxt.mk [0] (⟨(F.getD k default).lo,by rw[←hv1,Lr (r:=k+2) hb (by omega) (by omega),Nat.add_sub_cancel,←WJ ht,zx2];rfl,by omega⟩) rfl (by unfold vlI;exact gY) zqO)|refine zqN ?_|refine gG (acn (s:=t) (n:=(F.getD k default).v) (h16 k (by omega))) ?_|refine kE ?_|refine kF ?_|(refine kG ?_ ?_<;>intro hc<;>try exact zqM))
 all_goals first
  |(have e:v=decide ((r1:Int)=1):=(by rw[←hv1,mq (by omega)];exact decide_eq_decide.2 ⟨fun h=>by omega,fun h=>by omega⟩);rw[e];(refine Ends.mk2 zqI [] ?_;simp-dsimp(disch:=try exact vD) only[push_cast,simprocAttr,Tryz.f110];try exact zqF);done)
  |(have e:v=false:=(by rw[←hv1];exact Ls hb (by omega));rw[e];(refine Ends.mk2 zqI [] ?_;simp-dsimp(disch:=try exact vD) only[push_cast,simprocAttr,Tryz.f110,ne12];try exact zqF);done)
  |skip
end Go.Proofs.YtcbginhpibfgaaaGreatDoor
namespace Go.Proofs.YtcbginhpibfgaaaGreatDoor
open Go Go.Sy Go.Dg
attribute [local irreducible] AO AL AC OpT ACall Ends DGo bK Thn Blk Nxt
variable {N N' N1 N2 T:Nat} {F F1 F2 G:List Fo} {L L':List Fk} {v lo hi n k k1 k2 k' i m s t a b r:Nat} {p q p' q':Int} {z z':Bool} {x y:Fk}
theorem mr:cB (lT F r s)++[AV.val (.bool (aG F s r))]=cB (lT F r (s+1)):=by rw[ahQ];simp[cB]
theorem WN:(cB (lT F r s)).take s=cB (lT F r s):=List.take_of_length_le (by rw[cB_len,gU];exact Nat.le_refl _)
theorem Bc(hn:n≤16):IntKind.wrap .i64 (1*2^min n (IntKind.bits .i64))=((2^n:Nat):Int):=by
 have hp:2^n≤2^16:=Nat.pow_le_pow_right (by omega) hn
 rw[show min n (IntKind.bits .i64)=n from Nat.min_eq_left (by show n≤64;omega),Int.one_mul]
 have e:(2:Int)^n=((2^n:Nat):Int):=by norm_cast
 rw[e]
 generalize 2^n=T at hp
 exact K8 (by omega)
def rtI(z:Bool)(n:Nat)(F:List Fo)(N r T:Nat)(s:{s:Nat // s≤T}):St:=
 ⟨22,0,[(1,.pt 0 0),(3,kC s.val 1 1),(4,.val (.int .i64 s.val))],[(0,some (.cells [.val (.int .i64 n),.isl z (cR F) N,.val (.int .i64 r)] 29))]++kD s.val 1 (cB (lT F r s.val)) 4⟩
theorem yB(hn:n≤16)(hb:Bnd F)(h16:∀k,k<F.length→(F.getD k default).v<16)(hN:F.length=N)(hN2:N<2^40)(hr:r<2^50)(hT:2^n=T):ACall Tryz.prog 78 [.agg [.val (.int .i64 n),.isl z (cR F) N,.val (.int .i64 r)]] [] 0 (.isl false (cB (lT F r T)) T) []:=by
 have hp:2^n≤2^16:=Nat.pow_le_pow_right (by omega) hn
 have hpp:=Nat.two_pow_pos n
 have zx2:=Bc hn
 rw[hT] at hp hpp zx2
 have hv:=fun(t:Nat) (h:t<65536)=>PLift.up (by
  have:=Lt (z:=z) (p:=n) (q:=r) (t:=t) hb h16 hN hN2 hr h
  rw[Lp h] at this;exact this)
 have htk:=fun s=>WN (F:=F) (r:=r) (s:=s)
 have hx:=ae;have zx1:=ae
 refine ak Tryz.func78 Tryz.ntmps78 rfl ?_
 have zx3:= @mr;have zx4:= @gU;have zx5:=aC;have zx6:=aC;repeat' (first|(refine ai ?_;refine au [0,9] ([0,9].length) (rtI z n F N r T) (fun s=>T-s.val) (⟨0,by omega⟩) rfl (by unfold rtI;exact gY) ?_;(rintro⟨s,hs⟩;rcases Nat.lt_or_eq_of_le hs with hsl|hsl<;>first|(have es:T=s:=hsl.symm;subst es;(simp-dsimp only[rtI];refine zqS ?_))|(rcases Nat.eq_zero_or_pos s with h0|h0<;>first|(have hx:[AV.val (.bool (aG F s r))]=cB (lT F r (s+1)):=(by subst h0;rfl);(simp-dsimp only[rtI];refine zqS ?_))|(simp-dsimp only[rtI];refine zqS ?_))))|(refine ax ?_;refine Nxt.mk [0,2] (⟨s+1,by omega⟩) rfl (by unfold rtI;(try simp only[List.cons_append,List.nil_append]);refine Sub.mk2 ?_;(simp-dsimp(disch:=try exact vD) only[push_cast,simprocAttr,zx1,zx2,mr,gU,hx]);(repeat refine aI ?_);first|done|exact vI) zqO)|(refine ax ?_;refine Nxt.mk [0,3] (⟨s+1,by omega⟩) rfl (by unfold rtI;(try simp only[List.cons_append,List.nil_append]);refine Sub.mk2 ?_;(simp-dsimp(disch:=try exact vD) only[push_cast,simprocAttr,zx1,zx2,mr,gU,hx]);(repeat refine aI ?_);first|done|exact vI) zqO)|(refine ax ?_;refine Nxt.mk [0,1] (⟨s+1,by omega⟩) rfl (by unfold rtI;(try simp only[List.cons_append,List.nil_append]);refine Sub.mk2 ?_;(simp-dsimp(disch:=try exact vD) only[push_cast,simprocAttr,zx1,zx2,mr,gU,hx]);(repeat refine aI ?_);first|done|exact vI) zqO)|refine zqN ?_|refine gG (hv s (by omega)).down ?_|refine kE ?_|refine AX ?_|refine AY ?_|refine AZ ?_|refine kF ?_|(refine kG ?_ ?_<;>intro hc<;>try exact zqM))
 all_goals first
  |(((refine Ends.frz 1 ?_;simp-dsimp(disch:=try exact vD) only[push_cast,simprocAttr,Tryz.f78,htk];(repeat refine aI ?_);intro K hK;refine hK _ _ ?_;clear hK K);refine Ends.mk2 zqI [] ?_;simp-dsimp(disch:=try exact vD) only[push_cast,simprocAttr,Tryz.f78,htk];try exact zqF);done)
  |skip
end Go.Proofs.YtcbginhpibfgaaaGreatDoor
namespace Go.Proofs.YtcbginhpibfgaaaGreatDoor
open Go Go.Sy Go.Dg
attribute [local irreducible] AO AL AC OpT ACall Ends DGo bK Thn Blk Nxt
variable {N N' N1 N2 T M:Nat} {F F1 F2 G:List Fo} {L L':List Fk} {v lo hi n k k1 k2 k' i m s t a b r nx n1 n2:Nat} {p q p' q':Int} {z z':Bool} {x y:Fk} {b1 b2:Bool}
theorem DOk.v16(h:DOk n F r):∀k,k<F.length→(F.getD k default).v<16:=fun k hk=>by have:=(h.good.ok k hk).v;have:=h.n12;omega
end Go.Proofs.YtcbginhpibfgaaaGreatDoor
namespace Go.Proofs.YtcbginhpibfgaaaGreatDoor
open Go Go.Sy Go.Bp Go.Dg
attribute [local irreducible] AO AL AC OpT ACall Ends DGo bK Thn Blk Nxt
variable {n N M T k i m r a b j w u v s q x y d:Nat} {z:Bool} {xs:List Nat} {e:Int} {p:Nat→Bool}
def fD(p:Nat→Bool)(T:Nat):List Bool:=(List.range T).map p
theorem bR:(fD p T).length=T:=by simp[fD]
theorem Qd(h:s<T):(fD p T).getD s false=p s:=by simp[fD,List.getD_eq_getElem?_getD,List.getElem?_range h]
end Go.Proofs.YtcbginhpibfgaaaGreatDoor
namespace Go.Proofs.YtcbginhpibfgaaaGreatDoor
open Go Go.Sy Go.Bp Go.Dg
theorem SI{m:Nat} {av:List AV}(h:dO Tryz.prog m 114 av):∃x:Fk,av=aa.cells x∧True:=by
 obtain⟨_,xs,rfl,hl,hx⟩:=jm Tryz.underlying114 h
 match xs,hl with
 |[a0,a1,a2],_=>
  obtain⟨b0,rfl,_⟩:=gT Tryz.underlying3 (hx 0 _ a0 rfl rfl)
  obtain⟨b1,rfl,_⟩:=gT Tryz.underlying3 (hx 1 _ a1 rfl rfl)
  obtain⟨b2,rfl,_⟩:=gT Tryz.underlying3 (hx 2 _ a2 rfl rfl)
  exact⟨⟨b0,b1,b2⟩,rfl,trivial⟩
theorem Og{m:Nat} {av:List AV}(h:dO Tryz.prog m 27 av):∃(z:Bool) (l:List Fk),av=[.isl z (cR l) l.length]∧l.length<2^44:=by
 obtain⟨n,rfl|⟨xs,rfl,h1,h2⟩⟩:=u6 Tryz.underlying27 h
 ·exact⟨true,[],rfl,by decide⟩
 ·obtain⟨l,k1,k2⟩:=JD (R:=fun x a=>x=aa.cells a∧True) xs (fun x hx'=>SI (h1 x hx').2)
  refine⟨false,l,?_,?_⟩
  ·rw[Dm (g:=aa.cells) xs l k1 (fun i x a hx ha=>(k2 i x a hx ha).1),k1];rfl
  ·have e:Tryz.prog.bytesOf 114=24:=by kernel_rfl
   rw[e] at h2
   rw[k1];unfold reachBytes at h2;omega
theorem lc{m:Nat} {av:List AV}(h:dO Tryz.prog m 29 av):∃(n:Int) (z:Bool) (l:List Fk) (r:Int),av=[.val (.int .i64 n),.isl z (cR l) l.length,.val (.int .i64 r)]∧l.length<2^44∧r<2^63:=by
 obtain⟨_,xs,rfl,hl,hx⟩:=jm Tryz.underlying29 h
 match xs,hl with
 |[a0,a1,a2],_=>
  obtain⟨b0,rfl,_⟩:=gT Tryz.underlying3 (hx 0 _ a0 rfl rfl)
  obtain⟨z,l,rfl,hl⟩:=Og (hx 1 _ a1 rfl rfl)
  obtain⟨b2,rfl,h2⟩:=gT Tryz.underlying3 (hx 2 _ a2 rfl rfl)
  have h2:=NU h2
  exact⟨b0,z,l,b2,rfl,hl,by omega⟩
end Go.Proofs.YtcbginhpibfgaaaGreatDoor
namespace Go.Proofs.YtcbginhpibfgaaaGreatDoor
open Go Go.Sy Go.Bp Go.Lm
attribute [local irreducible] AO AL AC OpT ACall Ends DGo bK Thn Blk Nxt
variable {n N M k i m j r q:Nat} {z z' zq zr neg nx ny:Bool} {l a b u vl L R T Q Lx Ly:List Int} {v x y d f g c rv e:Int} {W W2 X Y:IV}
theorem QD(hl:X.l.length=n)(hn:n<2^50)(hk:k<2^50):ACall Tryz.prog 83 [.agg (aa.cells X),.val (.int .i64 k)] [] 0 (.val (.bool (decide (n≤k)))) []:=by
 have e:decide (n≤k)=decide ((n:Int)≤k):=decide_eq_decide.2 (by omega)
 rw[bC X,e,hl]
 refine ak Tryz.func83 Tryz.ntmps83 rfl ?_
 repeat' (first|refine zqN ?_|refine aK ?_|refine aL ?_|(refine aM ?_ ?_<;>intro hc<;>try exact zqM))
 all_goals first
  |((refine Ends.mk2 zqI [] ?_;simp-dsimp(disch:=try exact vD) only[push_cast,simprocAttr,Tryz.f83];try exact zqF);done)
  |skip
end Go.Proofs.YtcbginhpibfgaaaGreatDoor
namespace Go.Proofs.YtcbginhpibfgaaaGreatDoor
open Go Go.Sy Go.Bp Go.Lm Go.Rt
attribute [local irreducible] AO AL AC OpT ACall Ends DGo bK Thn Blk Nxt
variable {n N M k i m j:Nat} {z z' neg:Bool} {l:List Int} {a b v x y e s c:Int} {A B C A1 B1 G G2 P Q R1 R2 Z1 X1 Y1:IV} {p q:Rat} {X Y W:RV}
theorem Yg:MP rZ:=⟨by show 0<_;decide,by show 0<_;decide⟩
theorem OO{r1 r2:Bool}(h1:ACall Tryz.prog 83 [.agg (aa.cells X.num),.val (.int .i64 a)] [] 0 (.val (.bool r1)) [])(h2:ACall Tryz.prog 83 [.agg (aa.cells X.den),.val (.int .i64 a)] [] 0 (.val (.bool r2)) []):
 ACall Tryz.prog 51 [.agg (aa.cells X),.val (.int .i64 a)] [] 0 (.val (.bool (r1&&r2))) []:=by
 have h2:=PLift.up h2
 rw[aB X]
 cases r1
 all_goals have h1:=PLift.up h1
 all_goals(refine ak Tryz.func51 Tryz.ntmps51 rfl ?_)
 all_goals repeat' (first|refine zqN ?_|refine az h1.down ?_|refine az h2.down ?_|refine aK ?_|refine aL ?_|(refine aM ?_ ?_<;>intro hc<;>try exact zqM))
 all_goals first
  |((refine Ends.mk2 zqI [] ?_;simp-dsimp(disch:=try exact vD) only[push_cast,simprocAttr,Tryz.f51];try exact zqF);done)
  |skip
theorem Mf(hX:MP X)(hk:k<2^50):ACall Tryz.prog 51 [.agg (aa.cells X),.val (.int .i64 k)] [] 0 (.val (.bool (decide (X.num.l.length≤k)&&decide (X.den.l.length≤k)))) []:=
 OO (QD rfl (by have:=hX.n;omega) hk) (QD rfl (by have:=hX.d;omega) hk)
end Go.Proofs.YtcbginhpibfgaaaGreatDoor
namespace Go.Proofs.YtcbginhpibfgaaaGreatDoor
open Go Go.Sy Go.Bp Go.Lm Go.Rt
attribute [local irreducible] AO AL AC OpT ACall Ends DGo bK Thn Blk Nxt
variable {n N M k i m j r T:Nat} {z z' neg:Bool} {xs ys:List RV} {X:RV} {e:Int}
variable {ss:List RL}
theorem QP(h:psE xs=0):∀i,i<xs.length→pE (xs.getD i default)=0:=by
 induction xs with
 |nil=>intro i hi;simp at hi
 |cons x l ih=>
  intro i hi
  unfold psE at h
  by_cases hx:pE x=0
  ·rw[if_pos hx] at h
   cases i with
   |zero=>exact hx
   |succ i=>exact ih h i (by simpa using hi)
  ·rw[if_neg hx] at h;exact absurd h hx
end Go.Proofs.YtcbginhpibfgaaaGreatDoor
namespace Go.Proofs.YtcbginhpibfgaaaGreatDoor
open Go Go.Sy Go.Dg
attribute [local irreducible] AO AL AC OpT ACall Ends DGo bK Thn Blk Nxt
variable {N N' N1 N2 T:Nat} {F F1 F2 G:List Fo} {L L':List Fk} {k k1 k2 k' i m s t a j r:Nat} {p q n v lo hi:Int} {z b:Bool} {x y:Fk}
def GL(n:Int)(L:List Fk)(r:Int):Int:=if r<2 then n else(L.getD (r.toNat-2) default).v
theorem O4(h:r<2):ACall Tryz.prog 99 [.agg [.val (.int .i64 n),.isl z (cR L) N,.val (.int .i64 q)],.val (.int .i64 r)] [] 0 (.val (.int .i64 n)) []:=by
 refine ak Tryz.func99 Tryz.ntmps99 rfl ?_
 repeat' (first|refine zqN ?_|refine aK ?_|refine aL ?_|(refine aM ?_ ?_<;>intro hc<;>try exact zqM))
 all_goals((refine Ends.mk2 zqI [] ?_;simp-dsimp(disch:=try exact vD) only[push_cast,simprocAttr,Tryz.f99];try exact zqF))
theorem O5(hN:L.length=N)(hN2:N<2^40)(hk:k<N):ACall Tryz.prog 99 [.agg [.val (.int .i64 n),.isl z (cR L) N,.val (.int .i64 q)],.val (.int .i64 ((k:Int)+1+1))] [] 0 (.val (.int .i64 (L.getD k default).v)) []:=by
 have zx1:¬(k:Int)+1+1<2:=by omega
 refine ak Tryz.func99 Tryz.ntmps99 rfl ?_
 have zx2:= @uG;have zx3:= @lU;repeat' (first|refine zqN ?_|refine bM ?_|refine bO ?_|(refine bP ?_ ?_<;>intro hc<;>try exact zqM))
 all_goals((refine Ends.mk2 zqI [] ?_;simp-dsimp(disch:=try exact vD) only[push_cast,simprocAttr,Tryz.f99];try exact zqF))
theorem O6(hN:L.length=N)(hN2:N<2^40){r:Int}(h0:0≤r)(hr:r<N+2):ACall Tryz.prog 99 [.agg [.val (.int .i64 n),.isl z (cR L) N,.val (.int .i64 q)],.val (.int .i64 r)] [] 0 (.val (.int .i64 (GL n L r))) []:=by
 obtain⟨c,rfl⟩:=Int.eq_ofNat_of_zero_le h0
 unfold GL
 by_cases h:c<2
 ·rw[if_pos (by omega)];exact O4 h
 ·rw[if_neg (by omega)]
  obtain⟨k,rfl⟩:∃k,c=k+2:=⟨c-2,by omega⟩
  have:=O5 (z:=z) (n:=n) (q:=q) hN hN2 (show k<N by omega)
  have e:((k+2:Nat):Int)=(k:Int)+1+1:=by omega
  rw[show((k+2:Nat):Int).toNat-2=k by omega,e];exact this
structure OkI(n:Int)(L:List Fk)(i:Nat):Prop where
 v0:0≤(L.getD i default).v
 v1:(L.getD i default).v<n
 l0:0≤(L.getD i default).lo
 h0:0≤(L.getD i default).hi
 l1:(L.getD i default).lo<i+2
 h1:(L.getD i default).hi<i+2
 ne:¬(L.getD i default).lo=(L.getD i default).hi
 new:¬L.getD i default∈L.take i
 sl:(L.getD i default).v<GL n L (L.getD i default).lo
 sh:(L.getD i default).v<GL n L (L.getD i default).hi
def lZ(L:List Fk)(i:Nat):List (List Int×AV):=(L.take i).map fun f=>([f.v,f.lo,f.hi],.val (.bool true))
theorem seenL_pv:PV (lZ L i):=fun x hx=>by
 obtain⟨f,_,rfl⟩:=List.mem_map.1 hx
 exact⟨_,rfl⟩
theorem TL{τ:Nat→Nat}:((lZ L i).map fun x=>(x.1,ren τ x.2))=lZ L i:=seenL_pv.id fun v=>by simp[ren]
theorem TM{j:Nat}:(∀x∈lZ L i,bnd j x.2)=True:=seenL_pv.all fun v=>by simp[bnd]
attribute [push_cast] TL TM
theorem Bl:∀l:List Fk,cK (l.map fun f=>([f.v,f.lo,f.hi],AV.val (.bool true))) [x.v,x.lo,x.hi]=if x∈l then some (.val (.bool true)) else none:=by
 intro l
 induction l with
 |nil=>rfl
 |cons f l ih=>
  rw[List.map_cons]
  simp only[cK]
  by_cases e:f=x
  ·subst e;simp
  ·rw[if_neg (fun hc=>e (by cases f;cases x;simpa using hc)),ih]
   by_cases hm:x∈l
   ·rw[if_pos hm,if_pos (List.mem_cons_of_mem _ hm)]
   ·rw[if_neg hm,if_neg (fun h=>by
     rcases List.mem_cons.1 h with h|h
     ·exact e h.symm
     ·exact hm h)]
theorem adZ(h:i<L.length):L.take (i+1)=L.take i++[L.getD i default]:=by
 rw[List.take_add_one,List.getD_eq_getElem?_getD,List.getElem?_eq_getElem h];rfl
theorem TN(hi:i<L.length)(h:¬L.getD i default∈L.take i):mM (lZ L i) [(L.getD i default).v,(L.getD i default).lo,(L.getD i default).hi] (.val (.bool true))=lZ L (i+1):=by
 have e:cK (lZ L i) [(L.getD i default).v,(L.getD i default).lo,(L.getD i default).hi]=none:=by
  unfold lZ
  rw[Bl,if_neg h]
 rw[kU _ _ _ e]
 unfold lZ
 rw[adZ hi,List.map_append];rfl
theorem ad1:lZ L 0=[]:=rfl
def orJ(z:Bool)(n q:Int)(L:List Fk)(N:Nat)(i:{i:Nat // i≤N∧∀j,j<i→OkI n L j}):St:=
 ⟨80,0,[(1,.pt 0 0),(3,.mp 1),(8,.isl z (cR L) N),(9,.val (.int .i64 N)),(10,.val (.int .i64 i.val))],[(0,some (.cells [.val (.int .i64 n),.isl z (cR L) N,.val (.int .i64 q)] 29)),(1,some (.map true 3 (lZ L i.val)))]⟩
theorem Mr(hN:L.length=N)(hN2:N<2^40)(hn:n≤100)(hb:b=true↔∀j,j<N→OkI n L j):ACall Tryz.prog 107 [.agg [.val (.int .i64 n),.isl z (cR L) N,.val (.int .i64 q)]] [] 0 (.val (.bool b)) []:=by
 have hsv:=fun(r:Int) (h0:0≤r) (hr:r<N+2)=>PLift.up (O6 (z:=z) (n:=n) (q:=q) hN hN2 h0 hr)
 have hz:0≤N∧∀j,j<0→OkI n L j:=⟨Nat.zero_le _,fun j hj=>absurd hj (by omega)⟩
 have zx1:=ae;have zx2:=ae;have zx3:=ae
 have hput:=PLift.up (fun(i:Nat) (h:i<N)=>TN (L:=L) (i:=i) (by omega))
 refine ak Tryz.func107 Tryz.ntmps107 rfl ?_
 have zx4:= @lU;have zx5:= @ad1;have zx6:=aC;repeat' (first|(refine ai ?_;refine au [0,1] ([0,1].length) (orJ z n q L N) (fun i=>N-i.val) (⟨0,hz⟩) rfl (by unfold orJ;exact gY) ?_;(rintro⟨i,hi1,hok⟩;rcases Nat.lt_or_eq_of_le hi1 with hil|hil<;>first|(have ei:N=i:=hil.symm;subst ei;(simp-dsimp only[orJ];refine zqS ?_))|(obtain⟨x,zx3⟩:∃x,L.getD i default=x:=⟨_,rfl⟩;obtain⟨v,lo,hi⟩:=x;have hsa:=Bl (x:=⟨v,lo,hi⟩) (L.take i);rcases Decidable.em (⟨v,lo,hi⟩∈L.take i) with hm|hm<;>first|(rw[if_pos hm] at hsa;have zx1:cK (lZ L i) [v,lo,hi]=some (.val (.bool true)):=hsa;(simp-dsimp only[orJ];refine zqS ?_))|(rw[if_neg hm] at hsa;have zx1:cK (lZ L i) [v,lo,hi]=none:=hsa;have zx2:mM (lZ L i) [v,lo,hi] (.val (.bool true))=lZ L (i+1):=(by have:=hput.down i hil;rw[zx3] at this;exact this hm);(simp-dsimp only[orJ];refine zqS ?_)))))|(refine ax ?_;refine Nxt.mk [0,1] (⟨i+1,by omega,fun j hj=>by rcases Nat.lt_or_eq_of_le (Nat.le_of_lt_succ hj) with h|h;exact hok j h;rw[h];refine⟨?_,?_,?_,?_,?_,?_,?_,?_,?_,?_⟩<;>rw[zx3]<;>first|assumption|omega|(dsimp only;omega)⟩) rfl (by unfold orJ;exact gY) zqO)|refine zqN ?_|refine gG (hsv lo (by omega) (by omega)).down ?_|refine gG (hsv hi (by omega) (by omega)).down ?_|refine kE ?_|refine kF ?_|(refine kG ?_ ?_<;>intro hc<;>try exact zqM)|refine zqR 7 [⟨0,[],[62,63,65,66],[],[],0⟩,⟨1,[],[61,65,66],[],[],0⟩,⟨2,[1],[61,65,66],[],[],0⟩,⟨3,[0,1,2],[65,66],[],[],0⟩,⟨4,[],[61,62,63,64],[],[],0⟩,⟨5,[4],[61,62,63,64],[],[],0⟩,⟨6,[0,1,2,3,4,5],[],[],[],0⟩,⟨7,[0,1,2,3,4,5,6],[],[],[],0⟩,⟨8,[0,1,2,3,4,5,6,7],[70,71,73,74],[],[],0⟩,⟨9,[0,1,2,3,4,5,6,7],[69,73,74],[],[],0⟩,⟨10,[0,1,2,3,4,5,6,7,9],[69,73,74],[],[],0⟩,⟨11,[0,1,2,3,4,5,6,7,8,9,10],[73,74],[],[],0⟩,⟨12,[0,1,2,3,4,5,6,7],[69,70,71,72],[],[],0⟩,⟨13,[0,1,2,3,4,5,6,7,12],[69,70,71,72],[],[],0⟩,⟨14,[0,1,2,3,4,5,6,7,8,9,10,11,12,13],[],[],[],0⟩,⟨15,[0,1,2,3,4,5,6,7,8,9,10,11,12,13,14],[],[],[],0⟩] ?_|refine zqD ?_|fail)
 all_goals first
  |(have e:b=true:=hb.2 hok;rw[e];(refine Ends.mk2 zqI [] ?_;simp-dsimp(disch:=try exact vD) only[push_cast,simprocAttr,Tryz.f107];try exact zqF);done)
  |(have e:b=false:=(by rw[Bool.eq_false_iff];intro hc1;obtain⟨a1,a2,a3,a4,a5,a6,a7,a8,a9,a10⟩:=hb.1 hc1 i hil;rw[zx3] at a1 a2 a3 a4 a5 a6 a7 a8 a9 a10;dsimp only at a1 a2 a3 a4 a5 a6 a7 a9 a10;first|omega|exact a8 hm);rw[e];(refine Ends.mk2 zqI [] ?_;simp-dsimp(disch:=try exact vD) only[push_cast,simprocAttr,Tryz.f107];try exact zqF);done)
  |skip
def tof(x:Fk):Fo:=⟨x.v.toNat,x.lo.toNat,x.hi.toNat⟩
theorem ai2(h1:0≤x.v)(h2:0≤x.lo)(h3:0≤x.hi):fk (tof x)=x:=by
 cases x;simp only[fk,tof,Fk.mk.injEq] at*;omega
theorem YK(h:∀i,i<L.length→0≤(L.getD i default).v∧0≤(L.getD i default).lo∧0≤(L.getD i default).hi):(L.map tof).map fk=L:=by
 rw[List.map_map]
 conv=>rhs;rw[←List.map_id L]
 refine List.map_congr_left fun x hx=>?_
 obtain⟨i,hi,rfl⟩:=List.getElem_of_mem hx
 have:=h i hi
 rw[List.getD_eq_getElem?_getD,List.getElem?_eq_getElem hi] at this
 exact ai2 this.1 this.2.1 this.2.2
theorem fkL(h:k<F.length):(F.map fk).getD k default=fk (F.getD k default):=by
 simp[List.getD_eq_getElem?_getD,List.getElem?_eq_getElem h]
theorem O7{m:Nat}(h:r<F.length+2):GL m (F.map fk) r=(aP m F r:Nat):=by
 unfold GL aP
 by_cases h2:r<2
 ·rw[if_pos (by omega),if_pos h2]
 ·rw[if_neg (by omega),if_neg h2,show((r:Int).toNat-2)=r-2 by omega,fkL (by omega)];rfl
theorem YL{f:Fo} {l:List Fo}:fk f∈l.map fk↔f∈l:=by
 refine⟨fun h=>?_,fun h=>List.mem_map_of_mem h⟩
 obtain⟨g,hg,e⟩:=List.mem_map.1 h
 have:g=f:=by cases g;cases f;simp only[fk,Fk.mk.injEq] at e;simp only[Fo.mk.injEq];omega
 rw[←this];exact hg
theorem YM{m:Nat}(hg:Go.Dg.Good m F)(hi:i<F.length):OkI m (F.map fk) i:=by
 have ho:=hg.ok i hi
 have h1:=ho.lo;have h2:=ho.hi;have h3:=ho.v;have h4:=ho.ne;have h5:=ho.sl;have h6:=ho.sh
 have e:=fkL (F:=F) hi
 have e1:=O7 (F:=F) (m:=m) (r:=(F.getD i default).lo) (by omega)
 have e2:=O7 (F:=F) (m:=m) (r:=(F.getD i default).hi) (by omega)
 refine⟨?_,?_,?_,?_,?_,?_,?_,?_,?_,?_⟩<;>rw[e]
 ·show 0≤((F.getD i default).v:Int);omega
 ·show((F.getD i default).v:Int)<m;omega
 ·show 0≤((F.getD i default).lo:Int);omega
 ·show 0≤((F.getD i default).hi:Int);omega
 ·show((F.getD i default).lo:Int)<_;omega
 ·show((F.getD i default).hi:Int)<_;omega
 ·show¬((F.getD i default).lo:Int)=((F.getD i default).hi:Int);omega
 ·rw[←List.map_take,YL]
  intro hm
  obtain⟨j,hj,ej⟩:=List.getElem_of_mem hm
  have hj2:j<i∧j<F.length:=by rw[List.length_take] at hj;omega
  rw[List.getElem_take] at ej
  have e3:F.getD i default=F[i]:=by simp[List.getD_eq_getElem?_getD,hi]
  rw[e3] at ej
  have u1:=hg.nd.idxOf_getElem j hj2.2
  have u2:=hg.nd.idxOf_getElem i hi
  rw[ej,u2] at u1;omega
 ·show((F.getD i default).v:Int)<GL m (F.map fk) ((F.getD i default).lo:Int);rw[e1];omega
 ·show((F.getD i default).v:Int)<GL m (F.map fk) ((F.getD i default).hi:Int);rw[e2];omega
theorem YN{m:Nat}(h:∀i,i<F.length→OkI m (F.map fk) i):Go.Dg.Good m F:=by
 refine⟨fun k hk=>?_,?_⟩
 ·have o:=h k hk
  have e:=fkL (F:=F) hk
  have a1:=o.v1;have a2:=o.l1;have a3:=o.h1;have a4:=o.ne;have a5:=o.sl;have a6:=o.sh
  rw[e] at a1 a2 a3 a4 a5 a6
  have b1:((F.getD k default).v:Int)<m:=a1
  have b2:((F.getD k default).lo:Int)<k+2:=a2
  have b3:((F.getD k default).hi:Int)<k+2:=a3
  have b4:¬((F.getD k default).lo:Int)=((F.getD k default).hi:Int):=a4
  have b5:((F.getD k default).v:Int)<GL m (F.map fk) ((F.getD k default).lo:Int):=a5
  have b6:((F.getD k default).v:Int)<GL m (F.map fk) ((F.getD k default).hi:Int):=a6
  rw[O7 (by omega)] at b5 b6
  exact⟨by omega,by omega,by omega,by omega,by omega,by omega⟩
 ·rw[List.nodup_iff_pairwise_ne,List.pairwise_iff_getElem]
  intro i j hi hj hij e
  have o:=(h j hj).new
  rw[fkL hj,←List.map_take,YL] at o
  refine o ?_
  have e3:F.getD j default=F[j]:=by simp[List.getD_eq_getElem?_getD,hj]
  rw[e3,←e]
  have:F[i]=(F.take j)[i]'(by rw[List.length_take];omega):=by rw[List.getElem_take]
  rw[this];exact List.getElem_mem _
end Go.Proofs.YtcbginhpibfgaaaGreatDoor
namespace Go.Proofs.YtcbginhpibfgaaaGreatDoor
open Go Go.Sy Go.Dg
attribute [local irreducible] AO AL AC OpT ACall Ends DGo bK Thn Blk Nxt
variable {N N' M T:Nat} {F G:List Fo} {L L':List Fk} {k i m s t a j R:Nat} {p q n r e n' r' o:Int} {z z' b nb:Bool} {x y:Fk}
theorem Kh(h:n<0∨12<n):ACall Tryz.prog 72 [dI z n L N r] [] 0 (.val (.int .i64 7)) []:=by
 unfold dI
 rcases h with h|h
 all_goals(refine ak Tryz.func72 Tryz.ntmps72 rfl ?_)
 all_goals repeat' (first|refine zqN ?_|refine aK ?_|refine aL ?_|(refine aM ?_ ?_<;>intro hc<;>try exact zqM))
 all_goals first
  |((refine Ends.mk2 zqI [] ?_;simp-dsimp(disch:=try exact vD) only[push_cast,simprocAttr,Tryz.f72];try exact zqF);done)
  |skip
theorem Ms(h0:0≤n)(h12:n≤12)(hN:N≤765)(h:r<0∨1+(N:Int)<r∨(0<N∧0≤r∧r<1+(N:Int))):ACall Tryz.prog 72 [dI z n L N r] [] 0 (.val (.int .i64 1)) []:=by
 unfold dI
 rcases h with h|h|⟨h1,h2,h3⟩
 all_goals(refine ak Tryz.func72 Tryz.ntmps72 rfl ?_)
 all_goals repeat' (first|refine zqN ?_|refine aK ?_|refine aL ?_|(refine aM ?_ ?_<;>intro hc<;>try exact zqM))
 all_goals first
  |((refine Ends.mk2 zqI [] ?_;simp-dsimp(disch:=try exact vD) only[push_cast,simprocAttr,Tryz.f72];try exact zqF);done)
  |(exfalso;omega)
  |skip
theorem Mt(h0:0≤n)(h12:n≤12)(hN:N≤765)(hr:0≤r)(hr2:(N=0∧r≤1)∨(0<N∧r=1+(N:Int)))(ho:ACall Tryz.prog 107 [dI z n L N r] [] 0 (.val (.bool b)) [])
 (hnm:b=true→ACall Tryz.prog 108 [dI z n L N r] [] 0 (.val (.bool nb)) []):ACall Tryz.prog 72 [dI z n L N r] [] 0 (.val (.int .i64 (if b=true∧nb=true then 0 else 1))) []:=by
 have ho:=PLift.up ho
 unfold dI at*
 have hx:=ae;have hy:=ae
 cases b with
 |false=>
  clear hnm
  rcases hr2 with⟨hx1,hx2⟩|⟨hx1,hx2⟩
  ·subst hx1
   refine ak Tryz.func72 Tryz.ntmps72 rfl ?_
   repeat' (first|refine zqN ?_|refine az ho.down ?_|refine aK ?_|refine aL ?_|(refine aM ?_ ?_<;>intro hc<;>try exact zqM))
   all_goals first
    |((refine Ends.mk2 zqI [] ?_;simp-dsimp(disch:=try exact vD) only[push_cast,simprocAttr,Tryz.f72];try exact zqF);done)
    |(exfalso;omega)
    |skip
  ·subst hx2
   refine ak Tryz.func72 Tryz.ntmps72 rfl ?_
   repeat' (first|refine zqN ?_|refine az ho.down ?_|refine aK ?_|refine aL ?_|(refine aM ?_ ?_<;>intro hc<;>try exact zqM))
   all_goals first
    |((refine Ends.mk2 zqI [] ?_;simp-dsimp(disch:=try exact vD) only[push_cast,simprocAttr,Tryz.f72];try exact zqF);done)
    |(exfalso;omega)
    |skip
 |true=>
  have hnm:=PLift.up (hnm rfl)
  cases nb
  all_goals rcases hr2 with⟨hx1,hx2⟩|⟨hx1,hx2⟩
  all_goals first
   |(subst hx1)
   |(subst hx2)
  all_goals(refine ak Tryz.func72 Tryz.ntmps72 rfl ?_)
  all_goals repeat' (first|refine zqN ?_|refine az ho.down ?_|refine az hnm.down ?_|refine aK ?_|refine aL ?_|(refine aM ?_ ?_<;>intro hc<;>try exact zqM))
  all_goals first
   |((refine Ends.mk2 zqI [] ?_;simp-dsimp(disch:=try exact vD) only[push_cast,simprocAttr,Tryz.f72];try exact zqF);done)
   |(exfalso;omega)
   |skip
theorem YO(h:¬VOk m L r)(hN:L.length=N)(hm:m≤12)(hN2:N≤765):ACall Tryz.prog 72 [dI z m L N r] [] 0 (.val (.int .i64 1)) []:=by
 by_cases hr:r<0∨1+(N:Int)<r∨(0<N∧0≤r∧r<1+(N:Int))
 ·exact Ms (by omega) (by omega) hN2 hr
 ·have hr0:0≤r:=by omega
  obtain⟨R,rfl⟩:=Int.eq_ofNat_of_zero_le hr0
  have hr2:(N=0∧(R:Int)≤1)∨(0<N∧(R:Int)=1+(N:Int)):=by omega
  by_cases ho:∀j,j<N→OkI m L j
  ·have hL:(L.map tof).map fk=L:=YK fun i hi=>⟨(ho i (by omega)).v0,(ho i (by omega)).l0,(ho i (by omega)).h0⟩
   obtain⟨F,hF⟩:∃F,L.map tof=F:=⟨_,rfl⟩
   rw[hF] at hL
   have hFN:F.length=N:=by rw[←hF,List.length_map,hN]
   have hg:Go.Dg.Good m F:=YN fun i hi=>by rw[hL];exact ho i (by omega)
   have hb:=Mr (z:=z) (n:=m) (q:=R) (b:=true) hN (by omega) (by omega) ⟨fun _=>ho,fun _=>rfl⟩
   have hnm:=Be (z:=z) (n:=m) (r:=R) hg.bnd hFN (by omega) (by omega)
   have hw:=Mt (z:=z) (L:=L) (b:=true) (nb:=((fe F R R 2).1&&decide ((fe F R R 2).2=N+2))) (show(0:Int)≤m by omega) (by omega) hN2 hr0 hr2 hb (fun _=>by
    unfold dI;rw[←hL,gV];exact hnm)
   rw[if_neg] at hw
   ·exact hw
   ·rintro⟨_,hc⟩
    refine h ⟨F,R,hL.symm,rfl,⟨hg,by omega,?_,hm,by omega⟩⟩
    rw[Bool.and_eq_true,decide_eq_true_eq] at hc
    rw[Wt,if_pos hc.1,hc.2,hFN]
  ·have hb:=Mr (z:=z) (n:=m) (q:=R) (b:=false) hN (by omega) (by omega) ⟨fun h=>(by cases h),fun h=>absurd h ho⟩
   have hw:=Mt (z:=z) (L:=L) (b:=false) (nb:=false) (show(0:Int)≤m by omega) (by omega) hN2 hr0 hr2 hb (fun h=>by cases h)
   rw[if_neg (fun h=>by cases h.1)] at hw
   exact hw
end Go.Proofs.YtcbginhpibfgaaaGreatDoor
namespace Go.Proofs.YtcbginhpibfgaaaGreatDoor
open Go Go.Sy Go.Lm Go.Rt Go.Dg
attribute [local irreducible] AO AL AC OpT ACall Ends DGo bK Thn Blk Nxt
variable {n N np k i m j r q lo hi:Nat} {z zp:Bool} {ps:List RV} {F:List Fo} {L:List Fk} {p:Nat→Rat} {K K1 K2 K3:List Nat} {W H M1 M2 M3 X:RV} {rt e e2:Int} {d:Nat→Nat} {x:Rat}
theorem ad3(hv:ACall Tryz.prog 72 [dI z rt L N e2] [] 0 (.val (.int .i64 e)) [])(hne:¬e=0):ACall Tryz.prog 43 [dI z rt L N e2,.isl zp (cR ps) np] [] 0 (.val (.int .i64 e)) []:=by
 have hv:=PLift.up hv
 unfold dI at*
 refine ak Tryz.func43 Tryz.ntmps43 rfl ?_
 have zx1:= @hne;have zx2:=aC;have zx3:=aC;repeat' (first|refine zqN ?_|refine bE hv.down ?_|refine bM ?_|refine bO ?_|(refine bP ?_ ?_<;>intro hc<;>try exact zqM))
 all_goals first
  |((refine Ends.mk2 zqI [] ?_;simp-dsimp(disch:=try exact vD) only[push_cast,simprocAttr,Tryz.f43];try exact zqF);done)
  |skip
theorem YQ(hv:ACall Tryz.prog 72 [dI z rt L N e2] [] 0 (.val (.int .i64 0)) [])(hne:¬(np:Int)=rt):ACall Tryz.prog 43 [dI z rt L N e2,.isl zp (cR ps) np] [] 0 (.val (.int .i64 6)) []:=by
 have hv:=PLift.up hv
 unfold dI at*
 refine ak Tryz.func43 Tryz.ntmps43 rfl ?_
 have zx1:= @hne;have zx2:=aC;have zx3:=aC;repeat' (first|refine zqN ?_|refine bE hv.down ?_|refine bM ?_|refine bO ?_|(refine bP ?_ ?_<;>intro hc<;>try exact zqM))
 all_goals first
  |((refine Ends.mk2 zqI [] ?_;simp-dsimp(disch:=try exact vD) only[push_cast,simprocAttr,Tryz.f43];try exact zqF);done)
  |skip
theorem ai5(hg:ACall Tryz.prog 43 [dI z rt L N e2,.isl zp (cR ps) np] [] 0 (.val (.int .i64 e)) [])(hne:¬e=0):ACall Tryz.prog 15 [dI z rt L N e2,.isl zp (cR ps) np] [] 0 (.tup [.agg (aa.cells rZ),.val (.int .i64 e)]) []:=by
 have hg:=PLift.up hg
 unfold dI at*
 have ez:aa.cells rZ=[.val (.bool false),.isl true [] 0,.val (.bool false),.isl true [] 0]:=rfl
 rw[ez]
 refine ak Tryz.func15 Tryz.ntmps15 rfl ?_
 have zx1:= @hne;have zx2:=aC;have zx3:=aC;repeat' (first|refine zqN ?_|refine bE hg.down ?_|refine bM ?_|refine bO ?_|(refine bP ?_ ?_<;>intro hc<;>try exact zqM))
 all_goals first
  |((refine Ends.mk2 zqI [] ?_;simp-dsimp(disch:=try exact vD) only[push_cast,simprocAttr,Tryz.f15];try exact zqF);done)
  |skip
end Go.Proofs.YtcbginhpibfgaaaGreatDoor
namespace Go.Proofs.YtcbginhpibfgaaaGreatDoor
open Go Go.Sy Go.Dg
attribute [local irreducible] AO AL AC OpT ACall Ends DGo bK Thn Blk Nxt
variable {N N' M T:Nat} {F G:List Fo} {L L':List Fk} {k i m s t a j R:Nat} {p q n r e n' r' o v lo hi:Int} {z z' b nb:Bool} {x y:Fk}
def vbI(z:Bool)(n:Int)(L:List Fk)(N c t:Nat)(x:{x:Nat // x=0}):St:=
 ⟨34,0,[(1,.val (.int .i64 ((c:Int)+1+1))),(2,.val (.int .u16 (U t))),(3,.pt 0 0)],[(0,some (.cells [.val (.int .i64 n),.isl z (cR L) N,.val (.int .i64 ((c:Int)+1+1))] 29))]⟩
theorem TQ(hN2:N<2^40)(hr:N+2≤R)(hr2:R<2^63)(ht:t<65536):ACall Tryz.prog 110 [dI z n L N R,.val (.int .i64 R),.val (.int .u16 (U t))] [] 0 (.val (.bool false)) []:=by
 unfold dI
 obtain⟨c,rfl⟩:∃c,R=c+2:=⟨R-2,by omega⟩
 have zx1:((c:Int)+1+1=1)=False:=eq_false (by omega)
 refine ak Tryz.func110 Tryz.ntmps110 rfl ?_
 have zx2:= @uG;have zx3:=aC;repeat' (first|(refine ai ?_;refine au [0] ([0].length) (vbI z n L N c t) (fun _=>0) (⟨0,rfl⟩) rfl (by unfold vbI;exact eQ) ?_;(rintro⟨x,rfl⟩;(simp-dsimp only[vbI];refine zqS ?_)))|refine zqN ?_|refine bM ?_|refine bO ?_|(refine bP ?_ ?_<;>intro hc<;>try exact zqM))
 all_goals first
  |((refine Ends.mk2 zqI [] ?_;simp-dsimp(disch:=try exact vD) only[push_cast,simprocAttr,Tryz.f110,zx1];try exact zqF);done)
  |skip
theorem vz(hm:m≤12)(hb:Bnd F)(h16:∀k,k<F.length→(F.getD k default).v<16)(hN:F.length=N)(hN2:N<2^40)(hr:R<2^63)(hT:2^m=T):ACall Tryz.prog 78 [.agg [.val (.int .i64 m),.isl z (cR F) N,.val (.int .i64 R)]] [] 0 (.isl false (cB (lT F R T)) T) []:=by
 have hp:2^m≤2^12:=Nat.pow_le_pow_right (by omega) hm
 have hpp:=Nat.two_pow_pos m
 have zx2:=Bc (n:=m) (by omega)
 rw[hT] at hp hpp zx2
 have hv:=fun(t:Nat) (h:t<65536)=>PLift.up (by
  have:ACall Tryz.prog 110 [.agg [.val (.int .i64 m),.isl z (cR F) N,.val (.int .i64 R)],.val (.int .i64 R),.val (.int .u16 (U t))] [] 0 (.val (.bool (aG F t R))) []:=by
   by_cases hR:R<N+2
   ·exact Lt (z:=z) (p:=m) (q:=R) (t:=t) hb h16 hN hN2 (by omega) h
   ·rw[Ls hb (by omega),←gV]
    exact TQ (z:=z) (n:=m) (L:=F.map fk) hN2 (by omega) hr h
  rw[Lp h] at this;exact this)
 have htk:=fun s=>WN (F:=F) (r:=R) (s:=s)
 have hx:=ae;have zx1:=ae
 refine ak Tryz.func78 Tryz.ntmps78 rfl ?_
 have zx3:= @mr;have zx4:= @gU;have zx5:=aC;have zx6:=aC;repeat' (first|(refine ai ?_;refine au [0,9] ([0,9].length) (rtI z m F N R T) (fun s=>T-s.val) (⟨0,by omega⟩) rfl (by unfold rtI;exact gY) ?_;(rintro⟨s,hs⟩;rcases Nat.lt_or_eq_of_le hs with hsl|hsl<;>first|(have es:T=s:=hsl.symm;subst es;(simp-dsimp only[rtI];refine zqS ?_))|(rcases Nat.eq_zero_or_pos s with h0|h0<;>first|(have hx:[AV.val (.bool (aG F s R))]=cB (lT F R (s+1)):=(by subst h0;rfl);(simp-dsimp only[rtI];refine zqS ?_))|(simp-dsimp only[rtI];refine zqS ?_))))|(refine ax ?_;refine Nxt.mk [0,2] (⟨s+1,by omega⟩) rfl (by unfold rtI;(try simp only[List.cons_append,List.nil_append]);refine Sub.mk2 ?_;(simp-dsimp(disch:=try exact vD) only[push_cast,simprocAttr,zx1,zx2,mr,gU,hx]);(repeat refine aI ?_);first|done|exact vI) zqO)|(refine ax ?_;refine Nxt.mk [0,3] (⟨s+1,by omega⟩) rfl (by unfold rtI;(try simp only[List.cons_append,List.nil_append]);refine Sub.mk2 ?_;(simp-dsimp(disch:=try exact vD) only[push_cast,simprocAttr,zx1,zx2,mr,gU,hx]);(repeat refine aI ?_);first|done|exact vI) zqO)|(refine ax ?_;refine Nxt.mk [0,1] (⟨s+1,by omega⟩) rfl (by unfold rtI;(try simp only[List.cons_append,List.nil_append]);refine Sub.mk2 ?_;(simp-dsimp(disch:=try exact vD) only[push_cast,simprocAttr,zx1,zx2,mr,gU,hx]);(repeat refine aI ?_);first|done|exact vI) zqO)|refine zqN ?_|refine gG (hv s (by omega)).down ?_|refine kE ?_|refine AX ?_|refine AY ?_|refine AZ ?_|refine kF ?_|(refine kG ?_ ?_<;>intro hc<;>try exact zqM))
 all_goals first
  |(((refine Ends.frz 1 ?_;simp-dsimp(disch:=try exact vD) only[push_cast,simprocAttr,Tryz.f78,htk];(repeat refine aI ?_);intro K hK;refine hK _ _ ?_;clear hK K);refine Ends.mk2 zqI [] ?_;simp-dsimp(disch:=try exact vD) only[push_cast,simprocAttr,Tryz.f78,htk];try exact zqF);done)
  |skip
structure RfI(n:Int)(L:List Fk)(i:Nat):Prop where
 v0:0≤(L.getD i default).v
 v1:(L.getD i default).v<n
 l0:0≤(L.getD i default).lo
 h0:0≤(L.getD i default).hi
 l1:(L.getD i default).lo<i+2
 h1:(L.getD i default).hi<i+2
theorem uL(h:n<0∨12<n):ACall Tryz.prog 50 [dI z n L N r] [] 0 (.val (.int .i64 7)) []:=by
 unfold dI
 rcases h with h|h
 all_goals(refine ak Tryz.func50 Tryz.ntmps50 rfl ?_)
 all_goals repeat' (first|refine zqN ?_|refine aK ?_|refine aL ?_|(refine aM ?_ ?_<;>intro hc<;>try exact zqM)|refine zqR 9 [⟨0,[],[],[],[],0⟩,⟨1,[0],[],[],[],0⟩,⟨2,[0,1],[],[],[],0⟩,⟨3,[0,1,2],[],[],[],0⟩,⟨4,[0,1,2,3],[70,71,72,73,74],[],[],0⟩,⟨5,[0,1,2,3],[69,72,73],[],[],0⟩,⟨6,[0,1,2,3,5],[69,72,73],[],[],0⟩,⟨7,[0,1,2,3],[69,70,71],[],[],0⟩,⟨8,[0,1,2,3,7],[69,70,71],[],[],0⟩,⟨9,[0,1,2,3,5,6,7,8],[69],[],[],0⟩,⟨10,[0,1,2,3,4,5,6,7,8,9],[],[],[],0⟩,⟨11,[0,1,2,3,4,5,6,7,8,9,10],[],[],[],0⟩,⟨12,[0,1,2,3,4,5,6,7,8,9,10,11],[],[],[],0⟩] ?_|refine zqD ?_|fail)
 all_goals first
  |((refine Ends.mk2 zqI [] ?_;simp-dsimp(disch:=try exact vD) only[push_cast,simprocAttr,Tryz.f50];try exact zqF);done)
  |skip
def rvJ(z:Bool)(n q:Int)(L:List Fk)(N:Nat)(i:{i:Nat // i≤N∧∀j,j<i→RfI n L j}):St:=
 ⟨78,0,[(1,.pt 0 0),(3,.val (.int .i64 i.val))],[(0,some (.cells [.val (.int .i64 n),.isl z (cR L) N,.val (.int .i64 q)] 29))]⟩
theorem Bn(h0:0≤n)(h12:n≤12)(hN:L.length=N)(hN2:N≤1000)(h:¬∀j,j<N→RfI n L j):ACall Tryz.prog 50 [dI z n L N r] [] 0 (.val (.int .i64 1)) []:=by
 have hz:0≤N∧∀j,j<0→RfI n L j:=⟨Nat.zero_le _,fun j hj=>absurd hj (by omega)⟩
 have zx1:=ae
 unfold dI
 refine ak Tryz.func50 Tryz.ntmps50 rfl ?_
 have zx2:= @lU;have zx3:=aC;repeat' (first|(refine ai ?_;refine au [0] ([0].length) (rvJ z n r L N) (fun i=>N-i.val) (⟨0,hz⟩) rfl (by unfold rvJ;exact eQ) ?_;(rintro⟨i,hi1,hok⟩;rcases Nat.lt_or_eq_of_le hi1 with hil|hil<;>first|(exfalso;rw[hil] at hok;exact h hok)|(obtain⟨x,zx1⟩:∃x,L.getD i default=x:=⟨_,rfl⟩;obtain⟨v,lo,hi⟩:=x;(simp-dsimp only[rvJ];refine zqS ?_))))|(refine ax ?_;refine Nxt.mk [0] (⟨i+1,by omega,fun j hj=>by rcases Nat.lt_or_eq_of_le (Nat.le_of_lt_succ hj) with h|h;exact hok j h;rw[h];refine⟨?_,?_,?_,?_,?_,?_⟩<;>rw[zx1]<;>first|assumption|omega|(dsimp only;omega)⟩) rfl (by unfold rvJ;exact eQ) zqO)|refine zqN ?_|refine bM ?_|refine bO ?_|(refine bP ?_ ?_<;>intro hc<;>try exact zqM)|refine zqR 9 [⟨0,[],[],[],[],0⟩,⟨1,[0],[],[],[],0⟩,⟨2,[0,1],[],[],[],0⟩,⟨3,[0,1,2],[],[],[],0⟩,⟨4,[0,1,2,3],[70,71,72,73,74],[],[],0⟩,⟨5,[0,1,2,3],[69,72,73],[],[],0⟩,⟨6,[0,1,2,3,5],[69,72,73],[],[],0⟩,⟨7,[0,1,2,3],[69,70,71],[],[],0⟩,⟨8,[0,1,2,3,7],[69,70,71],[],[],0⟩,⟨9,[0,1,2,3,5,6,7,8],[69],[],[],0⟩,⟨10,[0,1,2,3,4,5,6,7,8,9],[],[],[],0⟩,⟨11,[0,1,2,3,4,5,6,7,8,9,10],[],[],[],0⟩,⟨12,[0,1,2,3,4,5,6,7,8,9,10,11],[],[],[],0⟩] ?_|refine zqD ?_|fail)
 all_goals first
  |((refine Ends.mk2 zqI [] ?_;simp-dsimp(disch:=try exact vD) only[push_cast,simprocAttr,Tryz.f50];try exact zqF);done)
  |skip
theorem wZ(h0:0≤n)(h12:n≤12)(hN:L.length=N)(hN2:N≤1000)(h:∀j,j<N→RfI n L j)(hr:r<0):ACall Tryz.prog 50 [dI z n L N r] [] 0 (.val (.int .i64 1)) []:=by
 have hz:0≤N∧∀j,j<0→RfI n L j:=⟨Nat.zero_le _,fun j hj=>absurd hj (by omega)⟩
 have zx1:=ae
 unfold dI
 refine ak Tryz.func50 Tryz.ntmps50 rfl ?_
 have zx2:= @lU;have zx3:=aC;repeat' (first|(refine ai ?_;refine au [0] ([0].length) (rvJ z n r L N) (fun i=>N-i.val) (⟨0,hz⟩) rfl (by unfold rvJ;exact eQ) ?_;(rintro⟨i,hi1,hok⟩;rcases Nat.lt_or_eq_of_le hi1 with hil|hil<;>first|(have ei:N=i:=hil.symm;subst ei;(simp-dsimp only[rvJ];refine zqS ?_))|(obtain⟨x,zx1⟩:∃x,L.getD i default=x:=⟨_,rfl⟩;obtain⟨v,lo,hi⟩:=x;obtain⟨a1,a2,a3,a4,a5,a6⟩:=h i hil;rw[zx1] at a1 a2 a3 a4 a5 a6;dsimp only at a1 a2 a3 a4 a5 a6;(simp-dsimp only[rvJ];refine zqS ?_))))|(refine ax ?_;refine Nxt.mk [0] (⟨i+1,by omega,fun j hj=>h j (by omega)⟩) rfl (by unfold rvJ;exact eQ) zqO)|refine zqN ?_|refine bM ?_|refine bO ?_|(refine bP ?_ ?_<;>intro hc<;>try exact zqM)|refine zqR 9 [⟨0,[],[],[],[],0⟩,⟨1,[0],[],[],[],0⟩,⟨2,[0,1],[],[],[],0⟩,⟨3,[0,1,2],[],[],[],0⟩,⟨4,[0,1,2,3],[70,71,72,73,74],[],[],0⟩,⟨5,[0,1,2,3],[69,72,73],[],[],0⟩,⟨6,[0,1,2,3,5],[69,72,73],[],[],0⟩,⟨7,[0,1,2,3],[69,70,71],[],[],0⟩,⟨8,[0,1,2,3,7],[69,70,71],[],[],0⟩,⟨9,[0,1,2,3,5,6,7,8],[69],[],[],0⟩,⟨10,[0,1,2,3,4,5,6,7,8,9],[],[],[],0⟩,⟨11,[0,1,2,3,4,5,6,7,8,9,10],[],[],[],0⟩,⟨12,[0,1,2,3,4,5,6,7,8,9,10,11],[],[],[],0⟩] ?_|refine zqD ?_|fail)
 all_goals first
  |((refine Ends.mk2 zqI [] ?_;simp-dsimp(disch:=try exact vD) only[push_cast,simprocAttr,Tryz.f50];try exact zqF);done)
  |skip
theorem vC{tb:List AV} {W:List AV} {K:Nat} {w:Int} {zw:Bool}(h0:0≤n)(h12:n≤12)(hN:L.length=N)(hN2:N≤1000)(h:∀j,j<N→RfI n L j)(hr:0≤r)
 (ht:ACall Tryz.prog 78 [dI z n L N r] [] 0 (.isl false tb T) []) (hf:ACall Tryz.prog 42 [.val (.int .i64 n),.isl false tb T] [] 0 (.agg [.val (.int .i64 n),.isl zw W K,.val (.int .i64 w)]) [])
 (he:ACall Tryz.prog 82 [dI z n L N r,.agg [.val (.int .i64 n),.isl zw W K,.val (.int .i64 w)]] [] 0 (.val (.bool b)) []):ACall Tryz.prog 50 [dI z n L N r] [] 0 (.val (.int .i64 (if b=true then 0 else 1))) []:=by
 have hz:0≤N∧∀j,j<0→RfI n L j:=⟨Nat.zero_le _,fun j hj=>absurd hj (by omega)⟩
 have zx1:=ae
 have ht:=PLift.up ht;have hf:=PLift.up hf;have he:=PLift.up he
 unfold dI at*
 cases b
 all_goals(refine ak Tryz.func50 Tryz.ntmps50 rfl ?_)
 all_goals(have zx2:= @lU;have zx3:=aC;repeat' (first|(refine ai ?_;refine au [0] ([0].length) (rvJ z n r L N) (fun i=>N-i.val) (⟨0,hz⟩) rfl (by unfold rvJ;exact eQ) ?_;(rintro⟨i,hi1,hok⟩;rcases Nat.lt_or_eq_of_le hi1 with hil|hil<;>first|(have ei:N=i:=hil.symm;subst ei;(simp-dsimp only[rvJ];refine zqS ?_))|(obtain⟨x,zx1⟩:∃x,L.getD i default=x:=⟨_,rfl⟩;obtain⟨v,lo,hi⟩:=x;obtain⟨a1,a2,a3,a4,a5,a6⟩:=h i hil;rw[zx1] at a1 a2 a3 a4 a5 a6;dsimp only at a1 a2 a3 a4 a5 a6;(simp-dsimp only[rvJ];refine zqS ?_))))|(refine ax ?_;refine Nxt.mk [0] (⟨i+1,by omega,fun j hj=>h j (by omega)⟩) rfl (by unfold rvJ;exact eQ) zqO)|refine zqN ?_|refine bE ht.down ?_|refine bE hf.down ?_|refine bE he.down ?_|refine bM ?_|refine bO ?_|(refine bP ?_ ?_<;>intro hc<;>try exact zqM)|refine zqR 9 [⟨0,[],[],[],[],0⟩,⟨1,[0],[],[],[],0⟩,⟨2,[0,1],[],[],[],0⟩,⟨3,[0,1,2],[],[],[],0⟩,⟨4,[0,1,2,3],[70,71,72,73,74],[],[],0⟩,⟨5,[0,1,2,3],[69,72,73],[],[],0⟩,⟨6,[0,1,2,3,5],[69,72,73],[],[],0⟩,⟨7,[0,1,2,3],[69,70,71],[],[],0⟩,⟨8,[0,1,2,3,7],[69,70,71],[],[],0⟩,⟨9,[0,1,2,3,5,6,7,8],[69],[],[],0⟩,⟨10,[0,1,2,3,4,5,6,7,8,9],[],[],[],0⟩,⟨11,[0,1,2,3,4,5,6,7,8,9,10],[],[],[],0⟩,⟨12,[0,1,2,3,4,5,6,7,8,9,10,11],[],[],[],0⟩] ?_|refine zqD ?_|fail))
 all_goals first
  |((refine Ends.mk2 zqI [] ?_;simp-dsimp(disch:=try exact vD) only[push_cast,simprocAttr,Tryz.f50];try exact zqF);done)
  |skip
theorem TR(h:¬VOk m L r)(hN:L.length=N)(hm:m≤9)(hN2:N≤1000)(hr63:r<2^63):ACall Tryz.prog 50 [dI z m L N r] [] 0 (.val (.int .i64 1)) []:=by
 by_cases hb:∀j,j<N→RfI m L j
 ·by_cases hr:r<0
  ·exact wZ (by omega) (by omega) hN (by omega) hb hr
  ·obtain⟨R,rfl⟩:=Int.eq_ofNat_of_zero_le (show 0≤r by omega)
   have hL:(L.map tof).map fk=L:=YK fun i hi=>⟨(hb i (by omega)).v0,(hb i (by omega)).l0,(hb i (by omega)).h0⟩
   obtain⟨F,hF⟩:∃F,L.map tof=F:=⟨_,rfl⟩
   rw[hF] at hL
   have hFN:F.length=N:=by rw[←hF,List.length_map,hN]
   have hbd:Bnd F:=fun k hk=>by
    have o:=hb k (by omega)
    have o1:=o.l1;have o2:=o.h1
    rw[←hL,fkL hk] at o1 o2
    have b1:((F.getD k default).lo:Int)<k+2:=o1
    have b2:((F.getD k default).hi:Int)<k+2:=o2
    omega
   have h16:∀k,k<F.length→(F.getD k default).v<16:=fun k hk=>by
    have o:=(hb k (by omega)).v1
    rw[←hL,fkL hk] at o
    have b1:((F.getD k default).v:Int)<m:=o
    omega
   have ht:=vz (z:=z) (R:=R) (by omega) hbd h16 hFN (by omega) (by omega) (rfl:2^m=2^m)
   have hf:=lV (n:=m) (tb:=lT F R (2^m)) (M:=2^m) (by omega) gU rfl
   rw[yA rfl] at hf
   obtain⟨⟨D,w⟩,hD⟩:∃X,(fC m fun t=>aG F t R)=X:=⟨_,rfl⟩
   rw[hD] at hf
   have heq:=EF (z:=z) (z':=(D.length==0)) (p:=(m:Int)) (p':=(m:Int)) (q:=(R:Int)) (q':=(w:Int)) (L:=F.map fk) (L':=D.map fk) (by rw[List.length_map];omega)
   have hne:decide ((m:Int)=m∧(R:Int)=w∧F.map fk=D.map fk)=false:=by
    rw[decide_eq_false_iff_not]
    rintro⟨_,h1,h2⟩
    have e2:F=D:=List.map_inj_right (f:=fk) (fun x y hxy=>by
     cases x;cases y
     simp only[fk,Fk.mk.injEq] at hxy
     simp only[Fo.mk.injEq];omega) |>.1 h2
    have e1:R=w:=by omega
    have ho:=nD (n:=m) (tab:=fun t=>aG F t R) hm
    rw[hD,←e2,←e1] at ho
    exact h ⟨F,R,hL.symm,rfl,ho⟩
   rw[hne,←mP,←mP] at heq
   unfold dgV at heq hf
   have hx:=vC (z:=z) (L:=L) (b:=false) (show(0:Int)≤m by omega) (by omega) hN (by omega) hb (show(0:Int)≤(R:Int) by omega) (by unfold dI;rw[←hL,gV];exact ht) hf (by unfold dI;rw[←hL,gV,←hFN];exact heq)
   rw[if_neg (by simp)] at hx
   exact hx
 ·exact Bn (by omega) (by omega) hN (by omega) hb
theorem yQ(h:VOk m L r)(hN:L.length=N)(hm:m≤12):ACall Tryz.prog 50 [dI z m L N r] [] 0 (.val (.int .i64 0)) []:=by
 obtain⟨F,R,rfl,rfl,hD⟩:=h
 rw[List.length_map] at hN
 have hf0:=hD.few;have hl0:=hD.lt
 have hb:∀j,j<N→RfI m (F.map fk) j:=fun j hj=>by
  have o:=YM hD.good (show j<F.length by omega)
  exact⟨o.v0,o.v1,o.l0,o.h0,o.l1,o.h1⟩
 have ht:=vz (z:=z) (R:=R) hm hD.bnd hD.v16 hN (by omega) (by omega) (rfl:2^m=2^m)
 have hf:=lV (n:=m) (tb:=lT F R (2^m)) (M:=2^m) (by omega) gU rfl
 rw[yA rfl,hD.eq (tab:=fun t=>aG F t R) fun _ _=>rfl] at hf
 have heq:=N9 (z:=z) (z':=(F.length==0)) (p:=(m:Int)) (q:=(R:Int)) (L:=F.map fk) (by rw[List.length_map];omega)
 rw[←mP,←mP] at heq
 unfold dgV at heq hf
 have hx:=vC (z:=z) (L:=F.map fk) (r:=(R:Int)) (b:=true) (show(0:Int)≤m by omega) (by omega) (by rw[List.length_map,hN]) (by omega) hb (by omega) (by unfold dI;rw[gV];exact ht) hf (by unfold dI;rw[gV,←hN];exact heq)
 rw[if_pos rfl] at hx
 exact hx
