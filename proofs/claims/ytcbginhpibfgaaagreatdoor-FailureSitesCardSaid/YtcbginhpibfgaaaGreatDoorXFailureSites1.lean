/- Sym17 Args Dg2 Dg6 Di4 Di5 Di7 Di20 Di21 DiagArgs Sym39 Lr6 Rt3 Dv1 Dv3 Fb1 Di24 Fb2 Fb3. No condition. -/
import Derived.Test.YtcbginhpibfgaaaGreatDoorFDoor
import Derived.Test.YtcbginhpibfgaaaGreatDoorDiG14
import Derived.Test.YtcbginhpibfgaaaGreatDoorFbG1
set_option linter.all false
namespace Go.Sy
open Go.ChangeShapes Go.WideShapes Go.ChangeAt Go.RowKit
section
variable {H:Type} {enc:TypeId×Value→H} {P:Program} {W W':World}
theorem kT(K:Kids P (· <P.types.size))(hz:∀t e,t<P.types.size→P.underlying t=some (.slice e)→0<P.cellsOf e){r:Reach} {b:Nat} {m:Nat} {t:TypeId} {v:Value} {d:DataW H} {ps:List MemPlace} {held:Bool}(ht:t<P.types.size)(hp:mK P m t=true)
 (hs:(match P.underlying t with|some (.struct _)=>false|_=>true)=true) (hval:Value.okWide P W r b t v) (h:DataW.Trod enc P W 0 (fun _=>true) held t v d ps) (hw:∀k∈d.weights P t,k≤reachBytes):
 ∃x,dO P m t [x]∧Rep W (fun b=>b<W.heap.size) (fun _=>none) v x:=by
 obtain⟨fuel,hf⟩:=h
 obtain⟨asq,h1,h2⟩:=yh K hz m t _ _ fuel ht hp hf hw
 have hc:v.cells.toList=[v]:=by
  cases m with
  |zero=>simp[mK] at hp
  |succ m=>
   unfold mK at hp
   unfold Value.okWide at hval
   split at hp
   all_goals(try(rename_i hu;rw[hu] at hval hs))
   all_goals first
    |(cases hp;done)
    |(cases hs;done)
    |(simp only[Cell.okWide,Cell.ok] at hval
      rw[hu] at hval
      cases v<;>first|rfl|(simp at hval))
    |(rename_i hu;rw[hu] at hval hs;simp only[Cell.okWide,Cell.ok] at hval;rw[hu] at hval;cases v<;>first|rfl|(simp at hval))
 rw[hc] at h2
 obtain⟨g1,g2⟩:=h2
 cases asq with
 |nil=>simp at g1
 |cons x asq=>
  have:asq=[]:=List.length_eq_zero_iff.1 (by simpa using g1)
  subst this
  exact⟨x,h1,(g2 0 x rfl).2⟩
end
end Go.Sy
namespace Go.Proofs.YtcbginhpibfgaaaGreatDoor
open Go Go.Sy
theorem ahx{α:Type} {R:α→Prop}(xs:List (List AV))(l:List α)(hl:l.length=xs.length)(h:∀(i:Nat) (x:List AV) (a:α),xs[i]? =some x→l[i]? =some a→R a):∀a∈l,R a:=by
 intro a ha
 obtain⟨i,hi⟩:=List.mem_iff_getElem?.1 ha
 obtain⟨x,hx⟩:∃x,xs[i]? =some x:=⟨_,List.getElem?_eq_getElem (by rw[←hl];exact(List.getElem?_eq_some_iff.1 hi).1)⟩
 exact h i x a hx hi
theorem wC{m:Int}(h:(Lit.int .u8 m).wf=true):0≤m∧m≤255:=by
 simp only[Lit.wf,Bool.and_eq_true,decide_eq_true_eq,IntKind.min,IntKind.max] at h
 simpa[IntKind.bits,IntKind.signed] using h
theorem ahy{m:Int}(h:(Lit.int .u16 m).wf=true):0≤m∧m≤65535:=by
 simp only[Lit.wf,Bool.and_eq_true,decide_eq_true_eq,IntKind.min,IntKind.max] at h
 simpa[IntKind.bits,IntKind.signed] using h
theorem Ii{m:Nat} {t:TypeId} {av:List AV}(hu:Tryz.prog.underlying t=some .bool)(h:dO Tryz.prog m t av):∃b,av=[.val (.bool b)]:=by
 cases m with
 |zero=>cases h
 |succ m=>unfold dO at h;rw[hu] at h;exact h
theorem mo{α β:Type}(g:α→β)(l:List α):l.flatMap (fun i=>[g i])=l.map g:=by
 induction l with
 |nil=>rfl
 |cons a l ih=>rw[List.flatMap_cons,ih];rfl
theorem lN{α:Type} {g:α→List AV} {Q:α→Prop} {m bn:Nat} {t e:TypeId} {av:List AV}(hu:Tryz.prog.underlying t=some (.slice e))(h:dO Tryz.prog m t av)(hb:Tryz.prog.bytesOf e=bn)(h8:1≤bn)
 (hx:∀n x,dO Tryz.prog n e x→∃a,x=g a∧Q a):∃(z:Bool) (l:List α),av=[.isl z (l.flatMap g) l.length]∧(∀a∈l,Q a)∧l.length<2^47∧(z=true→l=[]):=by
 obtain⟨n,rfl|⟨xs,rfl,h1,h2⟩⟩:=u6 hu h
 ·exact⟨true,[],rfl,by simp,Nat.two_pow_pos 47,fun _=>rfl⟩
 ·obtain⟨l,k1,k2⟩:=JD (R:=fun x a=>x=g a∧Q a) xs (fun x hx'=>hx n x (h1 x hx').2)
  refine⟨false,l,?_,ahx xs l k1 (fun i x a hx ha=>(k2 i x a hx ha).2),?_,fun h=>by cases h⟩
  ·rw[Dm (g:=g) xs l k1 (fun i x a hx ha=>(k2 i x a hx ha).1),k1]
  ·have h3:xs.length*1≤reachBytes:=Nat.le_trans (Nat.mul_le_mul_left _ (hb▸h8)) h2
   rw[k1];unfold reachBytes at h3;omega
end Go.Proofs.YtcbginhpibfgaaaGreatDoor
namespace Go.Dg
variable {F G D e A B:List Fo} {f:Fo} {n m i j k s t r u v w nx n1 l:Nat} {tab φ φ0 φ1:Nat→Bool}
theorem Sn{tab':Nat→Bool}:∀(m i s:Nat) (F:List Fo),i+m=n→s<2^i→(∀t,Ext n i s t→tab t=tab' t)→gen tab m i s F=gen tab' m i s F:=by
 intro m
 induction m with
 |zero=>
  intro i s F hi hs h
  rw[Ey,Ey,h s (wH hs (by omega))]
 |succ m ih=>
  intro i s F hi hs h
  have e1:=ih (i+1) s F (by omega) (u7 hs) (fun t ht=>h t ht.of_low)
  have e2:=ih (i+1) (s|||2^i) (gen tab' m (i+1) s F).1 (by omega) (kI hs) (fun t ht=>h t (ht.of_high hs))
  simp only[gen,e1,e2]
theorem EC{tab':Nat→Bool}(h:∀t,t<2^n→tab t=tab' t):fC n tab=fC n tab':=Sn n 0 0 [] (by omega) (by decide) (fun t ht=>h t ht.1)
end Go.Dg
namespace Go.Dg
variable {F G D e A B:List Fo} {f:Fo} {n m i j k s t r u v w nx n1 l:Nat} {tab φ φ0 φ1:Nat→Bool}
theorem Qc(h:F.length≤k):(F.getD k default).lo=0∧(F.getD k default).hi=0:=by
 rw[List.getD_eq_getElem?_getD,List.getElem?_eq_none h];exact⟨rfl,rfl⟩
theorem EE(hb:Bnd F):∀(k m r:Nat),r≤k→r≤m→qY F t k r=qY F t m r:=by
 intro k
 induction k with
 |zero=>intro m r hk hm;rw[iY (by omega),iY (by omega)]
 |succ k ih=>
  intro m r hk hm
  by_cases h2:r<2
  ·rw[iY h2,iY h2]
  ·cases m with
   |zero=>omega
   |succ m=>
    have hl:(F.getD (r-2) default).lo<r∧(F.getD (r-2) default).hi<r:=by
     by_cases hr:r-2<F.length
     ·have:=hb (r-2) hr;omega
     ·have:=Qc (F:=F) (k:=r-2) (by omega);omega
    simp only[qY,if_neg h2]
    rw[ih m _ (by omega) (by omega),ih m _ (by omega) (by omega)]
theorem Lr(hb:Bnd F)(h2:¬r<2)(hr:r<F.length+2):aG F t r=if t.testBit (F.getD (r-2) default).v=true then aG F t (F.getD (r-2) default).hi else aG F t (F.getD (r-2) default).lo:=by
 have ho:=hb (r-2) (by omega)
 unfold aG
 obtain⟨k,rfl⟩:∃k,r=k+1:=⟨r-1,by omega⟩
 rw[qY,if_neg h2,EE hb k _ _ (by omega) (Nat.le_refl _),EE hb k _ _ (by omega) (Nat.le_refl _)]
theorem Ls(hb:Bnd F)(hr:F.length+2≤r):aG F t r=false:=by
 unfold aG
 obtain⟨k,rfl⟩:∃k,r=k+1:=⟨r-1,by omega⟩
 have:=Qc (F:=F) (k:=k+1-2) (by omega)
 rw[qY,if_neg (by omega),this.1,this.2,iY (by decide)]
 split<;>rfl
def lT(F:List Fo)(r m:Nat):List Bool:=(List.range m).map fun t=>aG F t r
theorem gU:(lT F r m).length=m:=by simp[lT]
theorem ahQ:lT F r (m+1)=lT F r m++[aG F m r]:=by simp[lT,List.range_succ]
theorem ack(h:t<m):(lT F r m).getD t false=aG F t r:=by
 unfold lT
 rw[List.getD_eq_getElem?_getD,List.getElem?_map,List.getElem?_range h];rfl
theorem yA(h:m=2^n):kM n (lT F r m)=fC n fun t=>aG F t r:=EC fun t ht=>ack (by omega)
end Go.Dg
set_option maxHeartbeats 4000000
set_option maxRecDepth 20000
namespace Go.Proofs.YtcbginhpibfgaaaGreatDoor
open Go Go.Sy Go.Dg
attribute [local irreducible] AO AL AC OpT ACall Ends DGo bK Thn Blk Nxt
variable {N N':Nat} {F F1 F2 G:List Fo} {L L':List Fk} {v lo hi n k k1 k2 k' i m s t a b r:Nat} {p q p' q':Int} {z z':Bool} {x y:Fk}
theorem lU(x:Fk):aa.cells x=[.val (.int .i64 x.v),.val (.int .i64 x.lo),.val (.int .i64 x.hi)]:=rfl
def rgV(z:Bool)(n:Int)(L:List Fk)(r:Int):AV:= .agg [.val (.int .i64 n),.isl z (cR L) L.length,.val (.int .i64 r)]
theorem mP:dgV z n F r=rgV z n (F.map fk) r:=by unfold dgV rgV;rw[gV,List.length_map]
def acm(i:Nat)(L L':List Fk):Prop:=∀j,j<i→L.getD j default=L'.getD j default
def WG(z z':Bool)(p q:Int)(L L':List Fk)(N:Nat)(i:{i:Nat // i≤N∧acm i L L'}):St:=
 ⟨45,0,[(2,.pt 0 0),(3,.pt 1 0),(5,.val (.int .i64 i.val))],[(0,some (.cells [.val (.int .i64 p),.isl z (cR L) N,.val (.int .i64 q)] 29)),(1,some (.cells [.val (.int .i64 p),.isl z' (cR L') N,.val (.int .i64 q)] 29))]⟩
theorem ahR(h:acm i L L')(h2:L.getD i default=L'.getD i default):acm (i+1) L L':=fun j hj=>by
 by_cases e:j=i
 ·subst e;exact h2
 ·exact h j (by omega)
theorem WH(h:acm k L L')(hL:L.length=k)(hL':L'.length=k):L=L':=by
 apply List.ext_getElem (by omega)
 intro j h1 h2
 have:=h j (by omega)
 rw[List.getD_eq_getElem?_getD,List.getElem?_eq_getElem h1,List.getD_eq_getElem?_getD,List.getElem?_eq_getElem h2] at this
 exact this
theorem ahS:eqI [x.v,x.lo,x.hi] [y.v,y.lo,y.hi]=decide (x=y):=by
 rw[Eg]
 congr 1
 cases x;cases y;simp
theorem WI{N:Nat}(hL:L.length=N)(hL':L'.length=N)(hN:N<2^50):ACall Tryz.prog 82 [.agg [.val (.int .i64 p),.isl z (cR L) N,.val (.int .i64 q)],.agg [.val (.int .i64 p),.isl z' (cR L') N,.val (.int .i64 q)]] [] 0 (.val (.bool (decide (L=L')))) []:=by
 have zx1:=ae
 refine ak Tryz.func82 Tryz.ntmps82 rfl ?_
 have zx2:= @ahS;have zx3:= @lU;repeat' (first|(refine ai ?_;refine au [0,1] ([0,1].length) (WG z z' p q L L' N) (fun i=>N-i.val) (⟨0,by omega,fun j hj=>absurd hj (by omega)⟩) rfl (by unfold WG;exact eQ) ?_;(rintro⟨i,hi,he⟩;rcases Nat.lt_or_eq_of_le hi with hil|hil<;>first|(have ei:N=i:=hil.symm;subst ei;(simp-dsimp only[WG];refine zqS ?_))|(rcases Decidable.em (L.getD i default=L'.getD i default) with zx1|zx1<;>(simp-dsimp only[WG];refine zqS ?_))))|(refine ax ?_;refine Nxt.mk [0,1] (⟨i+1,by omega,ahR he zx1⟩) rfl (by unfold WG;exact eQ) zqO)|refine zqN ?_|refine bM ?_|refine bO ?_|(refine bP ?_ ?_<;>intro hc<;>try exact zqM)|refine zqR 6 [⟨0,[],[36,39,40,41,42,43],[],[],0⟩,⟨1,[0],[36,39,40,41,42,43],[],[],0⟩,⟨2,[],[34,35,39,40,41,42,43],[],[],0⟩,⟨3,[0,1,2],[39,40,41,42,43],[],[],0⟩,⟨4,[0,1,2,3],[39,40,41,42,43],[],[],0⟩,⟨5,[],[34,35,36,37,38,41],[],[],0⟩,⟨6,[5],[34,35,36,37,38,41],[],[],0⟩,⟨7,[],[34,35,36,37,38,39,40],[],[],0⟩,⟨8,[5,6,7],[34,35,36,37,38],[],[],0⟩,⟨9,[5,6,7,8],[34,35,36,37,38],[],[],0⟩,⟨10,[0,1,2,3,4,5,6,7,8,9],[],[],[],0⟩] ?_|refine zqD ?_|fail)
 all_goals first
  |(have e:L=L':=WH he hL hL';rw[decide_eq_true e];(refine Ends.mk2 zqI [] ?_;simp-dsimp(disch:=try exact vD) only[push_cast,simprocAttr,Tryz.f82];try exact zqF);done)
  |(have e:¬L=L':=(fun e=>zx1 (by rw[e]));rw[decide_eq_false e];(refine Ends.mk2 zqI [] ?_;simp-dsimp(disch:=try exact vD) only[push_cast,simprocAttr,Tryz.f82];try exact zqF);done)
  |skip
theorem Su{N N':Nat}(h:¬(p=p'∧q=q'∧N=N')):ACall Tryz.prog 82 [.agg [.val (.int .i64 p),.isl z (cR L) N,.val (.int .i64 q)],.agg [.val (.int .i64 p'),.isl z' (cR L') N',.val (.int .i64 q')]] [] 0 (.val (.bool false)) []:=by
 have zx1:=ae;have zx2:=ae;have zx3:=ae
 rcases Decidable.em (p=p') with zx1|zx1<;>rcases Decidable.em (q=q') with zx2|zx2<;>rcases Decidable.em (N=N') with zx3|zx3
 all_goals try(exact absurd (And.intro zx1 (And.intro zx2 zx3)) h)
 all_goals clear h
 all_goals(refine ak Tryz.func82 Tryz.ntmps82 rfl ?_)
 all_goals repeat' (first|refine zqN ?_|refine bM ?_|refine bO ?_|(refine bP ?_ ?_<;>intro hc<;>try exact zqM)|refine zqR 6 [⟨0,[],[36,39,40,41,42,43],[],[],0⟩,⟨1,[0],[36,39,40,41,42,43],[],[],0⟩,⟨2,[],[34,35,39,40,41,42,43],[],[],0⟩,⟨3,[0,1,2],[39,40,41,42,43],[],[],0⟩,⟨4,[0,1,2,3],[39,40,41,42,43],[],[],0⟩,⟨5,[],[34,35,36,37,38,41],[],[],0⟩,⟨6,[5],[34,35,36,37,38,41],[],[],0⟩,⟨7,[],[34,35,36,37,38,39,40],[],[],0⟩,⟨8,[5,6,7],[34,35,36,37,38],[],[],0⟩,⟨9,[5,6,7,8],[34,35,36,37,38],[],[],0⟩,⟨10,[0,1,2,3,4,5,6,7,8,9],[],[],[],0⟩] ?_|refine zqD ?_|fail)
 all_goals((refine Ends.mk2 zqI [] ?_;simp-dsimp(disch:=try exact vD) only[push_cast,simprocAttr,Tryz.f82];try exact zqF))
theorem EF(hL:L.length<2^50):ACall Tryz.prog 82 [rgV z p L q,rgV z' p' L' q'] [] 0 (.val (.bool (decide (p=p'∧q=q'∧L=L')))) []:=by
 unfold rgV
 by_cases h:p=p'∧q=q'∧L.length=L'.length
 ·obtain⟨rfl,rfl,h⟩:=h
  have:=WI (p:=p) (q:=q) (z:=z) (z':=z') (L:=L) (L':=L') (N:=L'.length) h rfl (by omega)
  rw[h]
  simpa using this
 ·have e:¬(p=p'∧q=q'∧L=L'):=fun e=>h ⟨e.1,e.2.1,by rw[e.2.2]⟩
  rw[decide_eq_false e]
  exact Su h
theorem N9(hL:L.length<2^50):ACall Tryz.prog 82 [rgV z p L q,rgV z' p L q] [] 0 (.val (.bool true)) []:=by
 have:=EF (z:=z) (z':=z') (p:=p) (p':=p) (q:=q) (q':=q) (L:=L) (L':=L) hL
 simpa using this
theorem acn(hn:n<16):ACall Tryz.prog 142 [.val (.int .u16 (U s)),.val (.int .i64 n)] [] 0 (.val (.bool (bit s n))) []:=by
 refine ak Tryz.func142 Tryz.ntmps142 rfl ?_
 repeat' (first|refine zqN ?_|refine aK ?_|refine aL ?_|(refine aM ?_ ?_<;>intro hc<;>try exact zqM))
 all_goals(refine Ends.mk2 zqI [] ?_;simp-dsimp(disch:=try exact vD) only[push_cast,simprocAttr,Tryz.f142];try exact zqF)
theorem WJ(h:s<65536):bit s n=s.testBit n:=by unfold bit;rw[Nat.mod_eq_of_lt h]
theorem ne12(x:Nat):((x:Int)+1+1=1)=False:=eq_false (by omega)
def vlI(z:Bool)(p q:Int)(F:List Fo)(N t:Nat)(v:Bool)(r:{r:Nat // aG F t r=v∧r<2^50}):St:=
 ⟨34,0,[(1,.val (.int .i64 r.val)),(2,.val (.int .u16 (U t))),(3,.pt 0 0)],[(0,some (.cells [.val (.int .i64 p),.isl z (cR F) N,.val (.int .i64 q)] 29))]⟩
theorem Lt(hb:Bnd F)(h16:∀k,k<F.length→(F.getD k default).v<16)(hN:F.length=N)(hN2:N<2^40)(hr:r<2^50)(ht:t<65536):ACall Tryz.prog 110 [.agg [.val (.int .i64 p),.isl z (cR F) N,.val (.int .i64 q)],.val (.int .i64 r),.val (.int .u16 (U t))] [] 0 (.val (.bool (aG F t r))) []:=by
 have zx1:=ae;have zx2:=ae
 generalize hv:aG F t r=v
 refine ak Tryz.func110 Tryz.ntmps110 rfl ?_
 have zx3:= @cz;have zx4:= @uG;have zx5:= @ne12;have zx6:=aC;repeat' (first|(refine ai ?_;refine au [0] ([0].length) (vlI z p q F N t v) (fun r=>r.val) (⟨r,hv,hr⟩) rfl (by unfold vlI;exact gY) ?_;(rintro⟨r1,hv1,hr1⟩;rcases Nat.lt_or_ge r1 2 with h2|h2<;>first|(have hh:2≤r1:=h2;obtain⟨k,rfl⟩:∃k,r1=k+2:=⟨r1-2,by omega⟩;have hbk:k<N→(F.getD k default).lo<k+2∧(F.getD k default).hi<k+2:=(fun h=>hb k (by omega));rcases Nat.lt_or_ge k N with h3|h3<;>rcases Bool.eq_false_or_eq_true (bit t (F.getD k default).v) with zx2|zx2<;>(try(replace hbk:=hbk h3))<;>(simp-dsimp only[vlI];refine zqS ?_))|(simp-dsimp only[vlI];refine zqS ?_)))|(refine ax ?_;refine Nxt.mk [0] (⟨(F.getD k default).hi,by rw[←hv1,Lr (r:=k+2) hb (by omega) (by omega),Nat.add_sub_cancel,←WJ ht,zx2];rfl,by omega⟩) rfl (by unfold vlI;exact gY) zqO)|(refine ax ?_;refine Nxt.mk [0] (⟨(F.getD k default).lo,by rw[←hv1,Lr (r:=k+2) hb (by omega) (by omega),Nat.add_sub_cancel,←WJ ht,zx2];rfl,by omega⟩) rfl (by unfold vlI;exact gY) zqO)|refine zqN ?_|refine gG (acn (s:=t) (n:=(F.getD k default).v) (h16 k (by omega))) ?_|refine kE ?_|refine kF ?_|(refine kG ?_ ?_<;>intro hc<;>try exact zqM))
 all_goals first
  |(have e:v=decide ((r1:Int)=1):=(by rw[←hv1,mq (by omega)];exact decide_eq_decide.2 ⟨fun h=>by omega,fun h=>by omega⟩);rw[e];(refine Ends.mk2 zqI [] ?_;simp-dsimp(disch:=try exact vD) only[push_cast,simprocAttr,Tryz.f110];try exact zqF);done)
  |(have e:v=false:=(by rw[←hv1];exact Ls hb (by omega));rw[e];(refine Ends.mk2 zqI [] ?_;simp-dsimp(disch:=try exact vD) only[push_cast,simprocAttr,Tryz.f110,ne12];try exact zqF);done)
  |skip
end Go.Proofs.YtcbginhpibfgaaaGreatDoor
namespace Go.Proofs.YtcbginhpibfgaaaGreatDoor
open Go Go.Sy Go.Dg
attribute [local irreducible] AO AL AC OpT ACall Ends DGo bK Thn Blk Nxt
variable {N N' N1 N2 T:Nat} {F F1 F2 G:List Fo} {L L':List Fk} {v lo hi n k k1 k2 k' i m s t a b r:Nat} {p q p' q':Int} {z z':Bool} {x y:Fk}
theorem mr:cB (lT F r s)++[AV.val (.bool (aG F s r))]=cB (lT F r (s+1)):=by rw[ahQ];simp[cB]
theorem WN:(cB (lT F r s)).take s=cB (lT F r s):=List.take_of_length_le (by rw[cB_len,gU];exact Nat.le_refl _)
theorem Bc(hn:n≤16):IntKind.wrap .i64 (1*2^min n (IntKind.bits .i64))=((2^n:Nat):Int):=by
 have hp:2^n≤2^16:=Nat.pow_le_pow_right (by omega) hn
 rw[show min n (IntKind.bits .i64)=n from Nat.min_eq_left (by show n≤64;omega),Int.one_mul]
 have e:(2:Int)^n=((2^n:Nat):Int):=by norm_cast
 rw[e]
 generalize 2^n=T at hp
 exact K8 (by omega)
def rtI(z:Bool)(n:Nat)(F:List Fo)(N r T:Nat)(s:{s:Nat // s≤T}):St:=
 ⟨22,0,[(1,.pt 0 0),(3,kC s.val 1 1),(4,.val (.int .i64 s.val))],[(0,some (.cells [.val (.int .i64 n),.isl z (cR F) N,.val (.int .i64 r)] 29))]++kD s.val 1 (cB (lT F r s.val)) 4⟩
theorem yB(hn:n≤16)(hb:Bnd F)(h16:∀k,k<F.length→(F.getD k default).v<16)(hN:F.length=N)(hN2:N<2^40)(hr:r<2^50)(hT:2^n=T):ACall Tryz.prog 78 [.agg [.val (.int .i64 n),.isl z (cR F) N,.val (.int .i64 r)]] [] 0 (.isl false (cB (lT F r T)) T) []:=by
 have hp:2^n≤2^16:=Nat.pow_le_pow_right (by omega) hn
 have hpp:=Nat.two_pow_pos n
 have zx2:=Bc hn
 rw[hT] at hp hpp zx2
 have hv:=fun(t:Nat) (h:t<65536)=>PLift.up (by
  have:=Lt (z:=z) (p:=n) (q:=r) (t:=t) hb h16 hN hN2 hr h
  rw[Lp h] at this;exact this)
 have htk:=fun s=>WN (F:=F) (r:=r) (s:=s)
 have hx:=ae;have zx1:=ae
 refine ak Tryz.func78 Tryz.ntmps78 rfl ?_
 have zx3:= @mr;have zx4:= @gU;have zx5:=aC;have zx6:=aC;repeat' (first|(refine ai ?_;refine au [0,9] ([0,9].length) (rtI z n F N r T) (fun s=>T-s.val) (⟨0,by omega⟩) rfl (by unfold rtI;exact gY) ?_;(rintro⟨s,hs⟩;rcases Nat.lt_or_eq_of_le hs with hsl|hsl<;>first|(have es:T=s:=hsl.symm;subst es;(simp-dsimp only[rtI];refine zqS ?_))|(rcases Nat.eq_zero_or_pos s with h0|h0<;>first|(have hx:[AV.val (.bool (aG F s r))]=cB (lT F r (s+1)):=(by subst h0;rfl);(simp-dsimp only[rtI];refine zqS ?_))|(simp-dsimp only[rtI];refine zqS ?_))))|(refine ax ?_;refine Nxt.mk [0,2] (⟨s+1,by omega⟩) rfl (by unfold rtI;(try simp only[List.cons_append,List.nil_append]);refine Sub.mk2 ?_;(simp-dsimp(disch:=try exact vD) only[push_cast,simprocAttr,zx1,zx2,mr,gU,hx]);(repeat refine aI ?_);first|done|exact vI) zqO)|(refine ax ?_;refine Nxt.mk [0,3] (⟨s+1,by omega⟩) rfl (by unfold rtI;(try simp only[List.cons_append,List.nil_append]);refine Sub.mk2 ?_;(simp-dsimp(disch:=try exact vD) only[push_cast,simprocAttr,zx1,zx2,mr,gU,hx]);(repeat refine aI ?_);first|done|exact vI) zqO)|(refine ax ?_;refine Nxt.mk [0,1] (⟨s+1,by omega⟩) rfl (by unfold rtI;(try simp only[List.cons_append,List.nil_append]);refine Sub.mk2 ?_;(simp-dsimp(disch:=try exact vD) only[push_cast,simprocAttr,zx1,zx2,mr,gU,hx]);(repeat refine aI ?_);first|done|exact vI) zqO)|refine zqN ?_|refine gG (hv s (by omega)).down ?_|refine kE ?_|refine AX ?_|refine AY ?_|refine AZ ?_|refine kF ?_|(refine kG ?_ ?_<;>intro hc<;>try exact zqM))
 all_goals first
  |(((refine Ends.frz 1 ?_;simp-dsimp(disch:=try exact vD) only[push_cast,simprocAttr,Tryz.f78,htk];(repeat refine aI ?_);intro K hK;refine hK _ _ ?_;clear hK K);refine Ends.mk2 zqI [] ?_;simp-dsimp(disch:=try exact vD) only[push_cast,simprocAttr,Tryz.f78,htk];try exact zqF);done)
  |skip
end Go.Proofs.YtcbginhpibfgaaaGreatDoor
namespace Go.Proofs.YtcbginhpibfgaaaGreatDoor
open Go Go.Sy Go.Dg
attribute [local irreducible] AO AL AC OpT ACall Ends DGo bK Thn Blk Nxt
variable {N N' N1 N2 T M:Nat} {F F1 F2 G:List Fo} {L L':List Fk} {v lo hi n k k1 k2 k' i m s t a b r nx n1 n2:Nat} {p q p' q':Int} {z z':Bool} {x y:Fk} {b1 b2:Bool}
theorem DOk.v16(h:DOk n F r):∀k,k<F.length→(F.getD k default).v<16:=fun k hk=>by have:=(h.good.ok k hk).v;have:=h.n12;omega
end Go.Proofs.YtcbginhpibfgaaaGreatDoor
namespace Go.Proofs.YtcbginhpibfgaaaGreatDoor
open Go Go.Sy Go.Bp Go.Dg
attribute [local irreducible] AO AL AC OpT ACall Ends DGo bK Thn Blk Nxt
variable {n N M T k i m r a b j w u v s q x y d:Nat} {z:Bool} {xs:List Nat} {e:Int} {p:Nat→Bool}
def fD(p:Nat→Bool)(T:Nat):List Bool:=(List.range T).map p
theorem bR:(fD p T).length=T:=by simp[fD]
theorem Qd(h:s<T):(fD p T).getD s false=p s:=by simp[fD,List.getD_eq_getElem?_getD,List.getElem?_range h]
theorem Bh:ACall Tryz.prog 41 [.val (.int .u16 (U s)),.val (.int .u16 (U q))] [] 0 (.val (.bool (decide (yw s q%65536=0)))) []:=by
 refine ak Tryz.func41 Tryz.ntmps41 rfl ?_
 repeat' (first|refine zqN ?_|refine aK ?_|refine aL ?_|(refine aM ?_ ?_<;>intro hc<;>try exact zqM))
 all_goals(refine Ends.mk2 zqI [] ?_;simp-dsimp(disch:=try exact vD) only[push_cast,simprocAttr,Tryz.f41];try exact zqF)
abbrev zDO:aD:= .cells [.val (.int .i64 0),.isl true [] 0,.val (.int .i64 0)] 29
end Go.Proofs.YtcbginhpibfgaaaGreatDoor
namespace Go.Proofs.YtcbginhpibfgaaaGreatDoor
open Go Go.Sy Go.Bp Go.Dg
attribute [local irreducible] AO AL AC OpT ACall Ends DGo bK Thn Blk Nxt
variable {n N M T L k i m r a b j w u v s q x y d:Nat} {z zl zr up:Bool} {xs qs B:List Nat} {l:List Int}
abbrev drC(N:Nat)(z:Bool)(B:List Nat)(L:Nat)(up:Bool):List AV:=[.val (.int .u8 N),.isl z (cI .u8 (NI B)) L,.val (.bool up)]
structure MQ(N:Nat)(B:List Nat)(L:Nat):Prop where
 n:N<256
 len:B.length=L
 lt:L<2^47
 b:∀i,B.getD i 0<256
end Go.Proofs.YtcbginhpibfgaaaGreatDoor
namespace Go.Proofs.YtcbginhpibfgaaaGreatDoor
open Go Go.Sy Go.Bp Go.Dg
theorem Xe{m:Nat} {av:List AV}(h:dO Tryz.prog m 22 av):∃(z:Bool) (l:List Nat),av=[.isl z (cI .u8 (NI l)) l.length]∧(∀x∈l,x<256)∧l.length<2^47:=by
 obtain⟨z,l,e,ho,hl,_⟩:=lN (g:=fun(x:Nat)=>[AV.val (.int .u8 (x:Int))]) (Q:=fun x=>x<256) (bn:=1) Tryz.underlying22 h (by kernel_rfl) (by decide) (fun n x hx=>by
  obtain⟨k,rfl,hk⟩:=gT Tryz.underlying5 hx
  have hk:=wC hk
  obtain⟨n0,rfl⟩:=Int.eq_ofNat_of_zero_le hk.1
  exact⟨n0,rfl,by omega⟩)
 rw[show l.flatMap (fun(x:Nat)=>[AV.val (.int .u8 (x:Int))])=cI .u8 (NI l) from(mo _ l).trans (by unfold cI NI;rw[List.map_map];rfl)] at e
 exact⟨z,l,e,ho,hl⟩
theorem Iz{m:Nat} {av:List AV}(h:dO Tryz.prog m 62 av):∃(z:Bool) (l:List Nat),av=[.isl z (cX l) l.length]∧(∀x∈l,x<65536)∧l.length<2^47∧(z=true→l=[]):=by
 obtain⟨z,l,e,ho,hl,hz⟩:=lN (g:=fun(x:Nat)=>[AV.val (.int .u16 (U x))]) (Q:=fun x=>x<65536) (bn:=2) Tryz.underlying62 h (by kernel_rfl) (by decide) (fun n x hx=>by
  obtain⟨k,rfl,hk⟩:=gT Tryz.underlying67 hx
  have hk:=ahy hk
  obtain⟨n0,rfl⟩:=Int.eq_ofNat_of_zero_le hk.1
  exact⟨n0,by rw[Lp (by omega)],by omega⟩)
 rw[show l.flatMap (fun(x:Nat)=>[AV.val (.int .u16 (U x))])=cX l from mo _ l] at e
 exact⟨z,l,e,ho,hl,hz⟩
theorem lW{m:Nat} {av:List AV}(h:dO Tryz.prog m 24 av):∃(N:Nat) (z:Bool) (B:List Nat) (up:Bool),av=drC N z B B.length up∧MQ N B B.length:=by
 obtain⟨_,xs,rfl,hl,hx⟩:=jm Tryz.underlying24 h
 match xs,hl with
 |[a0,a1,a2],_=>
  obtain⟨b0,rfl,h0⟩:=gT Tryz.underlying5 (hx 0 _ a0 rfl rfl)
  obtain⟨z,l,rfl,ho,hl⟩:=Xe (hx 1 _ a1 rfl rfl)
  obtain⟨b2,rfl⟩:=Ii Tryz.underlying4 (hx 2 _ a2 rfl rfl)
  have h0:=wC h0
  obtain⟨n0,rfl⟩:=Int.eq_ofNat_of_zero_le h0.1
  refine⟨n0,z,l,b2,rfl,⟨by omega,rfl,hl,fun i=>?_⟩⟩
  by_cases hi:i<l.length
  ·rw[List.getD_eq_getElem?_getD,List.getElem?_eq_getElem hi];exact ho _ (List.getElem_mem hi)
  ·rw[List.getD_eq_getElem?_getD,List.getElem?_eq_none (by omega)];decide
end Go.Proofs.YtcbginhpibfgaaaGreatDoor
namespace Go.Sy
open Go.ChangeShapes Go.WideShapes Go.ChangeAt Go.RowKit
theorem Xf{H:Type} {enc:TypeId×Value→H} {P:Program} {W:World}(K:Kids P (· <P.types.size))(hz:∀t e,t<P.types.size→P.underlying t=some (.slice e)→0<P.cellsOf e){r:Reach} {b:Nat} {m:Nat} {t e:TypeId} {v:Value} {d:DataW H} {ps:List MemPlace} {held:Bool}(ht:t<P.types.size)(hp:mK P m e=true)
 (hu:P.underlying t=some (.array 2 e)) (h1:P.cellsOf e=1) (hval:Value.okWide P W r b t v) (h:DataW.Trod enc P W 0 (fun _=>true) held t v d ps) (hw:∀k∈d.weights P t,k≤reachBytes):
 ∃x0 x1,dO P m e [x0]∧dO P m e [x1]∧Rep W (fun b=>b<W.heap.size) (fun _=>none) v (.agg [x0,x1]):=by
 obtain⟨fuel,hf⟩:=h
 obtain⟨xs,n,rfl,hx,hcl,hxl,hel⟩:=DataW.trod_array hu hf
 obtain⟨rfl,rfl⟩:=Prod.mk.inj hx
 unfold Value.okWide at hval
 rw[hu] at hval
 obtain⟨cs,rfl,hsz,_⟩:=hval
 obtain⟨ke,kc⟩:=K.array ht hu
 rw[h1] at hel kc
 have hcells:(Value.agg cs).cells.toList=cs.toList:=rfl
 rw[hcells] at hel
 have hs2:cs.size=2:=by omega
 have each:∀i,i<2→∃x,dO P m e [x]∧Rep W (fun b=>b<W.heap.size) (fun _=>none) (cs.getD i undef) x:=fun i hi=>by
  have h2:=hel i hi
  obtain⟨q,hq⟩:∃q,xs[i]? =some q:=⟨_,List.getElem?_eq_getElem (by omega)⟩
  rw[hq,Nat.mul_one] at h2
  have hg:(cs.toList.drop i).take 1=[cs.getD i undef]:=by
   rw[List.drop_eq_getElem_cons (by rw[Array.length_toList];omega),List.take_succ_cons,List.take_zero]
   simp[Array.getD_eq_getD_getElem?,Array.getElem?_eq_getElem (show i<cs.size by omega)]
  rw[hg] at h2
  obtain⟨asq,g1,g2⟩:=yh K hz m e _ q n ke hp h2 (fun k hk=>hw k (by
   simp only[DataW.weights,hu]
   exact lH (List.mem_map.2 ⟨q,List.mem_of_getElem? hq,rfl⟩) hk))
  obtain⟨g3,g4⟩:=g2
  cases asq with
  |nil=>simp at g3
  |cons x asq=>
   have:asq=[]:=List.length_eq_zero_iff.1 (by simpa using g3)
   subst this
   exact⟨x,g1,(g4 0 x rfl).2⟩
 obtain⟨x0,f0,r0⟩:=each 0 (by omega)
 obtain⟨x1,f1,r1⟩:=each 1 (by omega)
 refine⟨x0,x1,f0,f1,.agg cs [x0,x1] (by simpa using hs2) (fun j hj=>?_)⟩
 match j,hj with
 |0,_=>exact r0
 |1,_=>exact r1
end Go.Sy
namespace Go.Proofs.YtcbginhpibfgaaaGreatDoor
open Go Go.Sy Go.Bp Go.Lm Go.Rt
attribute [local irreducible] AO AL AC OpT ACall Ends DGo bK Thn Blk Nxt
variable {n N M k i m j:Nat} {z z' neg:Bool} {l:List Int} {a b v x y e s c:Int} {A B C A1 B1 G G2 P Q R1 R2 Z1 X1 Y1:IV} {p q:Rat} {X Y W:RV}
theorem Yg:MP rZ:=⟨by show 0<_;decide,by show 0<_;decide⟩
end Go.Proofs.YtcbginhpibfgaaaGreatDoor
namespace Go.Rt
variable {p p' q site:Nat→Rat} {g h:Nat→Rat} {n m k i j s t f:Nat} {tab:Nat→Bool} {x y c:Rat} {S:Nat→Nat→Bool}
def sP(S:Nat→Nat→Bool)(p:Nat→Rat)(s:Nat):Nat→Nat→Rat
 |0=>p
 |k+1=>if s.testBit k=true then sP S p s k else dn S k (sP S p s k)
theorem aiZ(h:∀j,j<k→s.testBit j=t.testBit j):sP S p s k=sP S p t k:=by
 induction k with
 |zero=>rfl
 |succ k ih=>unfold sP;rw[ih fun j hj=>h j (by omega),h k (by omega)]
theorem alf{F:(Nat→Rat)→Rat}:∀(f k s:Nat),s<2^k→vv S site F f k (sP S p s k)=Ev site (fun up=>F (sP S p up (k+f))) f k s:=by
 intro f
 induction f with
 |zero=>intro k s _;rfl
 |succ f ih=>
  intro k s hs
  have hs2:2^(k+1)=2^k+2^k:=by rw[Nat.pow_succ];omega
  have e1:sP S p s (k+1)=dn S k (sP S p s k):=by
   show(if _ then _ else _)=_
   rw[if_neg (by rw[Nat.testBit_lt_two_pow hs];simp)]
  have e2:sP S p (s+2^k) (k+1)=sP S p s k:=by
   show(if _ then _ else _)=_
   rw[Nat.add_comm,if_pos (by rw[Nat.testBit_two_pow_add_eq,Nat.testBit_lt_two_pow hs];rfl)]
   exact aiZ fun j hj=>Nat.testBit_two_pow_add_gt hj _
  have i1:=ih (k+1) s (by omega)
  have i2:=ih (k+1) (s+2^k) (by omega)
  rw[e1] at i1;rw[e2] at i2
  show site k*vv S site F f (k+1) _+(1-site k)*vv S site F f (k+1) _=_
  rw[i1,i2,uC,show k+1+f=k+(f+1) by omega]
theorem ai0{F:(Nat→Rat)→Rat}:vv S site F m 0 p=Ev site (fun up=>F (sP S p up m)) m 0 0:=by
 have:=alf (S:=S) (site:=site) (p:=p) (F:=F) m 0 0 (by decide)
 rw[Nat.zero_add] at this;exact this
end Go.Rt
namespace Go.Proofs.YtcbginhpibfgaaaGreatDoor
open Go Go.Sy Go.Dg
attribute [local irreducible] AO AL AC OpT ACall Ends DGo bK Thn Blk Nxt
variable {N N' N1 N2 T:Nat} {F F1 F2 G:List Fo} {L L':List Fk} {k k1 k2 k' i m s t a j r:Nat} {p q n v lo hi:Int} {z b:Bool} {x y:Fk}
def GL(n:Int)(L:List Fk)(r:Int):Int:=if r<2 then n else(L.getD (r.toNat-2) default).v
structure OkI(n:Int)(L:List Fk)(i:Nat):Prop where
 v0:0≤(L.getD i default).v
 v1:(L.getD i default).v<n
 l0:0≤(L.getD i default).lo
 h0:0≤(L.getD i default).hi
 l1:(L.getD i default).lo<i+2
 h1:(L.getD i default).hi<i+2
 ne:¬(L.getD i default).lo=(L.getD i default).hi
 new:¬L.getD i default∈L.take i
 sl:(L.getD i default).v<GL n L (L.getD i default).lo
 sh:(L.getD i default).v<GL n L (L.getD i default).hi
theorem fkL(h:k<F.length):(F.map fk).getD k default=fk (F.getD k default):=by
 simp[List.getD_eq_getElem?_getD,List.getElem?_eq_getElem h]
theorem O7{m:Nat}(h:r<F.length+2):GL m (F.map fk) r=(aP m F r:Nat):=by
 unfold GL aP
 by_cases h2:r<2
 ·rw[if_pos (by omega),if_pos h2]
 ·rw[if_neg (by omega),if_neg h2,show((r:Int).toNat-2)=r-2 by omega,fkL (by omega)];rfl
theorem YL{f:Fo} {l:List Fo}:fk f∈l.map fk↔f∈l:=by
 refine⟨fun h=>?_,fun h=>List.mem_map_of_mem h⟩
 obtain⟨g,hg,e⟩:=List.mem_map.1 h
 have:g=f:=by cases g;cases f;simp only[fk,Fk.mk.injEq] at e;simp only[Fo.mk.injEq];omega
 rw[←this];exact hg
theorem YM{m:Nat}(hg:Go.Dg.Good m F)(hi:i<F.length):OkI m (F.map fk) i:=by
 have ho:=hg.ok i hi
 have h1:=ho.lo;have h2:=ho.hi;have h3:=ho.v;have h4:=ho.ne;have h5:=ho.sl;have h6:=ho.sh
 have e:=fkL (F:=F) hi
 have e1:=O7 (F:=F) (m:=m) (r:=(F.getD i default).lo) (by omega)
 have e2:=O7 (F:=F) (m:=m) (r:=(F.getD i default).hi) (by omega)
 refine⟨?_,?_,?_,?_,?_,?_,?_,?_,?_,?_⟩<;>rw[e]
 ·show 0≤((F.getD i default).v:Int);omega
 ·show((F.getD i default).v:Int)<m;omega
 ·show 0≤((F.getD i default).lo:Int);omega
 ·show 0≤((F.getD i default).hi:Int);omega
 ·show((F.getD i default).lo:Int)<_;omega
 ·show((F.getD i default).hi:Int)<_;omega
 ·show¬((F.getD i default).lo:Int)=((F.getD i default).hi:Int);omega
 ·rw[←List.map_take,YL]
  intro hm
  obtain⟨j,hj,ej⟩:=List.getElem_of_mem hm
  have hj2:j<i∧j<F.length:=by rw[List.length_take] at hj;omega
  rw[List.getElem_take] at ej
  have e3:F.getD i default=F[i]:=by simp[List.getD_eq_getElem?_getD,hi]
  rw[e3] at ej
  have u1:=hg.nd.idxOf_getElem j hj2.2
  have u2:=hg.nd.idxOf_getElem i hi
  rw[ej,u2] at u1;omega
 ·show((F.getD i default).v:Int)<GL m (F.map fk) ((F.getD i default).lo:Int);rw[e1];omega
 ·show((F.getD i default).v:Int)<GL m (F.map fk) ((F.getD i default).hi:Int);rw[e2];omega
end Go.Proofs.YtcbginhpibfgaaaGreatDoor
namespace Go.Proofs.YtcbginhpibfgaaaGreatDoor
open Go Go.Sy Go.Dg
attribute [local irreducible] AO AL AC OpT ACall Ends DGo bK Thn Blk Nxt
variable {N N' M T:Nat} {F G:List Fo} {L L':List Fk} {k i m s t a j R:Nat} {p q n r e n' r' o v lo hi:Int} {z z' b nb:Bool} {x y:Fk}
def vbI(z:Bool)(n:Int)(L:List Fk)(N c t:Nat)(x:{x:Nat // x=0}):St:=
 ⟨34,0,[(1,.val (.int .i64 ((c:Int)+1+1))),(2,.val (.int .u16 (U t))),(3,.pt 0 0)],[(0,some (.cells [.val (.int .i64 n),.isl z (cR L) N,.val (.int .i64 ((c:Int)+1+1))] 29))]⟩
theorem TQ(hN2:N<2^40)(hr:N+2≤R)(hr2:R<2^63)(ht:t<65536):ACall Tryz.prog 110 [dI z n L N R,.val (.int .i64 R),.val (.int .u16 (U t))] [] 0 (.val (.bool false)) []:=by
 unfold dI
 obtain⟨c,rfl⟩:∃c,R=c+2:=⟨R-2,by omega⟩
 have zx1:((c:Int)+1+1=1)=False:=eq_false (by omega)
 refine ak Tryz.func110 Tryz.ntmps110 rfl ?_
 have zx2:= @uG;have zx3:=aC;repeat' (first|(refine ai ?_;refine au [0] ([0].length) (vbI z n L N c t) (fun _=>0) (⟨0,rfl⟩) rfl (by unfold vbI;exact eQ) ?_;(rintro⟨x,rfl⟩;(simp-dsimp only[vbI];refine zqS ?_)))|refine zqN ?_|refine bM ?_|refine bO ?_|(refine bP ?_ ?_<;>intro hc<;>try exact zqM))
 all_goals first
  |((refine Ends.mk2 zqI [] ?_;simp-dsimp(disch:=try exact vD) only[push_cast,simprocAttr,Tryz.f110,zx1];try exact zqF);done)
  |skip
theorem vz(hm:m≤12)(hb:Bnd F)(h16:∀k,k<F.length→(F.getD k default).v<16)(hN:F.length=N)(hN2:N<2^40)(hr:R<2^63)(hT:2^m=T):ACall Tryz.prog 78 [.agg [.val (.int .i64 m),.isl z (cR F) N,.val (.int .i64 R)]] [] 0 (.isl false (cB (lT F R T)) T) []:=by
 have hp:2^m≤2^12:=Nat.pow_le_pow_right (by omega) hm
 have hpp:=Nat.two_pow_pos m
 have zx2:=Bc (n:=m) (by omega)
 rw[hT] at hp hpp zx2
 have hv:=fun(t:Nat) (h:t<65536)=>PLift.up (by
  have:ACall Tryz.prog 110 [.agg [.val (.int .i64 m),.isl z (cR F) N,.val (.int .i64 R)],.val (.int .i64 R),.val (.int .u16 (U t))] [] 0 (.val (.bool (aG F t R))) []:=by
   by_cases hR:R<N+2
   ·exact Lt (z:=z) (p:=m) (q:=R) (t:=t) hb h16 hN hN2 (by omega) h
   ·rw[Ls hb (by omega),←gV]
    exact TQ (z:=z) (n:=m) (L:=F.map fk) hN2 (by omega) hr h
  rw[Lp h] at this;exact this)
 have htk:=fun s=>WN (F:=F) (r:=R) (s:=s)
 have hx:=ae;have zx1:=ae
 refine ak Tryz.func78 Tryz.ntmps78 rfl ?_
 have zx3:= @mr;have zx4:= @gU;have zx5:=aC;have zx6:=aC;repeat' (first|(refine ai ?_;refine au [0,9] ([0,9].length) (rtI z m F N R T) (fun s=>T-s.val) (⟨0,by omega⟩) rfl (by unfold rtI;exact gY) ?_;(rintro⟨s,hs⟩;rcases Nat.lt_or_eq_of_le hs with hsl|hsl<;>first|(have es:T=s:=hsl.symm;subst es;(simp-dsimp only[rtI];refine zqS ?_))|(rcases Nat.eq_zero_or_pos s with h0|h0<;>first|(have hx:[AV.val (.bool (aG F s R))]=cB (lT F R (s+1)):=(by subst h0;rfl);(simp-dsimp only[rtI];refine zqS ?_))|(simp-dsimp only[rtI];refine zqS ?_))))|(refine ax ?_;refine Nxt.mk [0,2] (⟨s+1,by omega⟩) rfl (by unfold rtI;(try simp only[List.cons_append,List.nil_append]);refine Sub.mk2 ?_;(simp-dsimp(disch:=try exact vD) only[push_cast,simprocAttr,zx1,zx2,mr,gU,hx]);(repeat refine aI ?_);first|done|exact vI) zqO)|(refine ax ?_;refine Nxt.mk [0,3] (⟨s+1,by omega⟩) rfl (by unfold rtI;(try simp only[List.cons_append,List.nil_append]);refine Sub.mk2 ?_;(simp-dsimp(disch:=try exact vD) only[push_cast,simprocAttr,zx1,zx2,mr,gU,hx]);(repeat refine aI ?_);first|done|exact vI) zqO)|(refine ax ?_;refine Nxt.mk [0,1] (⟨s+1,by omega⟩) rfl (by unfold rtI;(try simp only[List.cons_append,List.nil_append]);refine Sub.mk2 ?_;(simp-dsimp(disch:=try exact vD) only[push_cast,simprocAttr,zx1,zx2,mr,gU,hx]);(repeat refine aI ?_);first|done|exact vI) zqO)|refine zqN ?_|refine gG (hv s (by omega)).down ?_|refine kE ?_|refine AX ?_|refine AY ?_|refine AZ ?_|refine kF ?_|(refine kG ?_ ?_<;>intro hc<;>try exact zqM))
 all_goals first
  |(((refine Ends.frz 1 ?_;simp-dsimp(disch:=try exact vD) only[push_cast,simprocAttr,Tryz.f78,htk];(repeat refine aI ?_);intro K hK;refine hK _ _ ?_;clear hK K);refine Ends.mk2 zqI [] ?_;simp-dsimp(disch:=try exact vD) only[push_cast,simprocAttr,Tryz.f78,htk];try exact zqF);done)
  |skip
structure RfI(n:Int)(L:List Fk)(i:Nat):Prop where
 v0:0≤(L.getD i default).v
 v1:(L.getD i default).v<n
 l0:0≤(L.getD i default).lo
 h0:0≤(L.getD i default).hi
 l1:(L.getD i default).lo<i+2
 h1:(L.getD i default).hi<i+2
def rvJ(z:Bool)(n q:Int)(L:List Fk)(N:Nat)(i:{i:Nat // i≤N∧∀j,j<i→RfI n L j}):St:=
 ⟨78,0,[(1,.pt 0 0),(3,.val (.int .i64 i.val))],[(0,some (.cells [.val (.int .i64 n),.isl z (cR L) N,.val (.int .i64 q)] 29))]⟩
theorem vC{tb:List AV} {W:List AV} {K:Nat} {w:Int} {zw:Bool}(h0:0≤n)(h12:n≤12)(hN:L.length=N)(hN2:N≤1000)(h:∀j,j<N→RfI n L j)(hr:0≤r)
 (ht:ACall Tryz.prog 78 [dI z n L N r] [] 0 (.isl false tb T) []) (hf:ACall Tryz.prog 42 [.val (.int .i64 n),.isl false tb T] [] 0 (.agg [.val (.int .i64 n),.isl zw W K,.val (.int .i64 w)]) [])
 (he:ACall Tryz.prog 82 [dI z n L N r,.agg [.val (.int .i64 n),.isl zw W K,.val (.int .i64 w)]] [] 0 (.val (.bool b)) []):ACall Tryz.prog 50 [dI z n L N r] [] 0 (.val (.int .i64 (if b=true then 0 else 1))) []:=by
 have hz:0≤N∧∀j,j<0→RfI n L j:=⟨Nat.zero_le _,fun j hj=>absurd hj (by omega)⟩
 have zx1:=ae
 have ht:=PLift.up ht;have hf:=PLift.up hf;have he:=PLift.up he
 unfold dI at*
 cases b
 all_goals(refine ak Tryz.func50 Tryz.ntmps50 rfl ?_)
 all_goals(have zx2:= @lU;have zx3:=aC;repeat' (first|(refine ai ?_;refine au [0] ([0].length) (rvJ z n r L N) (fun i=>N-i.val) (⟨0,hz⟩) rfl (by unfold rvJ;exact eQ) ?_;(rintro⟨i,hi1,hok⟩;rcases Nat.lt_or_eq_of_le hi1 with hil|hil<;>first|(have ei:N=i:=hil.symm;subst ei;(simp-dsimp only[rvJ];refine zqS ?_))|(obtain⟨x,zx1⟩:∃x,L.getD i default=x:=⟨_,rfl⟩;obtain⟨v,lo,hi⟩:=x;obtain⟨a1,a2,a3,a4,a5,a6⟩:=h i hil;rw[zx1] at a1 a2 a3 a4 a5 a6;dsimp only at a1 a2 a3 a4 a5 a6;(simp-dsimp only[rvJ];refine zqS ?_))))|(refine ax ?_;refine Nxt.mk [0] (⟨i+1,by omega,fun j hj=>h j (by omega)⟩) rfl (by unfold rvJ;exact eQ) zqO)|refine zqN ?_|refine bE ht.down ?_|refine bE hf.down ?_|refine bE he.down ?_|refine bM ?_|refine bO ?_|(refine bP ?_ ?_<;>intro hc<;>try exact zqM)|refine zqR 9 [⟨0,[],[],[],[],0⟩,⟨1,[0],[],[],[],0⟩,⟨2,[0,1],[],[],[],0⟩,⟨3,[0,1,2],[],[],[],0⟩,⟨4,[0,1,2,3],[70,71,72,73,74],[],[],0⟩,⟨5,[0,1,2,3],[69,72,73],[],[],0⟩,⟨6,[0,1,2,3,5],[69,72,73],[],[],0⟩,⟨7,[0,1,2,3],[69,70,71],[],[],0⟩,⟨8,[0,1,2,3,7],[69,70,71],[],[],0⟩,⟨9,[0,1,2,3,5,6,7,8],[69],[],[],0⟩,⟨10,[0,1,2,3,4,5,6,7,8,9],[],[],[],0⟩,⟨11,[0,1,2,3,4,5,6,7,8,9,10],[],[],[],0⟩,⟨12,[0,1,2,3,4,5,6,7,8,9,10,11],[],[],[],0⟩] ?_|refine zqD ?_|fail))
 all_goals first
  |((refine Ends.mk2 zqI [] ?_;simp-dsimp(disch:=try exact vD) only[push_cast,simprocAttr,Tryz.f50];try exact zqF);done)
  |skip
theorem yQ(h:VOk m L r)(hN:L.length=N)(hm:m≤12):ACall Tryz.prog 50 [dI z m L N r] [] 0 (.val (.int .i64 0)) []:=by
 obtain⟨F,R,rfl,rfl,hD⟩:=h
 rw[List.length_map] at hN
 have hf0:=hD.few;have hl0:=hD.lt
 have hb:∀j,j<N→RfI m (F.map fk) j:=fun j hj=>by
  have o:=YM hD.good (show j<F.length by omega)
  exact⟨o.v0,o.v1,o.l0,o.h0,o.l1,o.h1⟩
 have ht:=vz (z:=z) (R:=R) hm hD.bnd hD.v16 hN (by omega) (by omega) (rfl:2^m=2^m)
 have hf:=lV (n:=m) (tb:=lT F R (2^m)) (M:=2^m) (by omega) gU rfl
 rw[yA rfl,hD.eq (tab:=fun t=>aG F t R) fun _ _=>rfl] at hf
 have heq:=N9 (z:=z) (z':=(F.length==0)) (p:=(m:Int)) (q:=(R:Int)) (L:=F.map fk) (by rw[List.length_map];omega)
 rw[←mP,←mP] at heq
 unfold dgV at heq hf
 have hx:=vC (z:=z) (L:=F.map fk) (r:=(R:Int)) (b:=true) (show(0:Int)≤m by omega) (by omega) (by rw[List.length_map,hN]) (by omega) hb (by omega) (by unfold dI;rw[gV];exact ht) hf (by unfold dI;rw[gV,←hN];exact heq)
 rw[if_pos rfl] at hx
 exact hx
end Go.Proofs.YtcbginhpibfgaaaGreatDoor
namespace Go.Proofs.YtcbginhpibfgaaaGreatDoor
open Go Go.Sy Go.Lm Go.Rt Go.Dg
attribute [local irreducible] AO AL AC OpT ACall Ends DGo bK Thn Blk Nxt
variable {n N np k i m j r T:Nat} {z z' zp:Bool} {ps xs:List RV} {L:List Fk} {X Y W:RV} {v c e e2 rt:Int} {p q:Rat}
def fpI(z:Bool)(xs:List RV)(n:Nat)(T:Nat)(j:{j:Nat // j≤T}):St:=
 ⟨19,0,[(0,.isl z (cR xs) n),(3,.val (.int .i64 j.val))],[]⟩
theorem Mx(hl:xs.length=n)(hn:n<2^40)(hX:∀i,i<n→RIn (xs.getD i default))(h0:∀i,i<n→pE (xs.getD i default)=0):ACall Tryz.prog 76 [.isl z (cR xs) n] [] 0 (.val (.int .i64 0)) []:=by
 have hp:=fun(i:Nat) (hi:i<n)=>PLift.up (by have:=rH (hX i hi);rw[h0 i hi] at this;exact this)
 clear h0 hX
 refine ak Tryz.func76 Tryz.ntmps76 rfl ?_
 repeat' (first|(refine ai ?_;refine au [] ([].length) (fpI z xs n n) (fun j=>n-j.val) (⟨0,Nat.zero_le _⟩) rfl (by unfold fpI;exact mO) ?_;(rintro⟨j,hj⟩;rcases Nat.lt_or_eq_of_le hj with hjl|hjl<;>first|(subst hjl;(simp-dsimp only[fpI];refine zqS ?_))|(simp-dsimp only[fpI];refine zqS ?_)))|(refine ax ?_;refine Nxt.mk [] (⟨j+1,by omega⟩) rfl (by unfold fpI;exact mO) zqO)|refine zqN ?_|refine az (hp j hjl).down ?_|refine aK ?_|refine aL ?_|(refine aM ?_ ?_<;>intro hc<;>try exact zqM))
 all_goals first
  |((refine Ends.mk2 zqI [] ?_;simp-dsimp(disch:=try exact vD) only[push_cast,simprocAttr,Tryz.f76];try exact zqF);done)
  |skip
end Go.Proofs.YtcbginhpibfgaaaGreatDoor
namespace Go.Proofs.YtcbginhpibfgaaaGreatDoor
open Go Go.Sy Go.Bp Go.Dg
attribute [local irreducible] AO AL AC OpT ACall Ends DGo bK Thn Blk Nxt
variable {n N M T k i m r a b j w u v s q x y d:Nat} {z:Bool} {F:List Fo} {p f g:Nat→Bool}
theorem vE(h:s<T):(fD p T).getD s default=p s:=Qd h
theorem Pe:fD p s++[p s]=fD p (s+1):=by unfold fD;rw[List.range_succ];simp
end Go.Proofs.YtcbginhpibfgaaaGreatDoor
namespace Go.Proofs.YtcbginhpibfgaaaGreatDoor
open Go Go.Sy Go.Lm Go.Rt Go.Dg
attribute [local irreducible] AO AL AC OpT ACall Ends DGo bK Thn Blk Nxt
variable {n N np k i m j r s T sv:Nat} {z z' zp zt:Bool} {ps xs:List RV} {L:List Fk} {F:List Fo} {X Y W ONE:RV} {A D S:Nat→RV} {v c e e2 rt:Int} {p:Nat→Rat} {tb:List Bool} {tab:Nat→Bool} {d:Nat→Nat}
theorem YS(h:i≤16):Int.fdiv (s:Int) (2^min i (IntKind.bits .i64))=sN s i:=by
 rw[show IntKind.bits .i64=64 from rfl,Nat.min_eq_left (by omega),Int.fdiv_eq_ediv_of_nonneg _ (Int.le_of_lt (Int.pow_pos (by decide)))]
 unfold sN
 rw[Nat.shiftRight_eq_div_pow,Int.natCast_ediv,Int.natCast_pow];rfl
theorem YT(hs:s<65536):IntKind.wrap .i64 ((BitVec.ofInt (IntKind.bits .i64) (sN s i)&&&BitVec.ofInt (IntKind.bits .i64) (1:Int)).toNat:Int)=bN s i:=by
 have hl:=VW (i:=i) hs
 unfold sN bN
 generalize s>>>i=w at*
 have e1:(BitVec.ofInt (IntKind.bits .i64) ((w:Nat):Int)).toNat=w:=by
  show(BitVec.ofInt 64 _).toNat=_
  rw[BitVec.toNat_ofInt];omega
 have e2:(BitVec.ofInt (IntKind.bits .i64) (1:Int)).toNat=1:=rfl
 rw[BitVec.toNat_and,e1,e2]
 have:w&&&1≤1:=Nat.and_le_right
 exact K8 (by omega)
abbrev zQ:List AV:=[.val (.bool false),.isl true [] 0,.val (.bool false),.isl true [] 0]
def alI(zp:Bool)(ps:List RV)(n s:Nat)(A:Nat→RV)(i:{i:Nat // i≤n}):St:=
 ⟨34,0,[(0,.val (.int .i64 s)),(1,.isl zp (cR ps) n),(4,.pt 0 0),(5,.pt 1 0),(6,.val (.int .i64 i.val))],[(0,some (.cells zQ 37)),(1,some (.cells (aa.cells (A i.val)) 37))]⟩
theorem ad6(hl:ps.length=n)(hn:n≤16)(hs:s<65536)(h0:ACall Tryz.prog 69 [.val (.int .i64 1)] [] 0 (.agg (aa.cells (A 0))) [])
 (hs1:∀i,i<n→ACall Tryz.prog 55 [.agg (aa.cells (A 0)),.agg (aa.cells (ps.getD i default))] [] 0 (.agg (aa.cells (D i))) [])
 (hm1:∀i,i<n→s.testBit i=true→ACall Tryz.prog 70 [.agg (aa.cells (A i)),.agg (aa.cells (D i))] [] 0 (.agg (aa.cells (A (i+1)))) [])
 (hm0:∀i,i<n→s.testBit i=false→ACall Tryz.prog 70 [.agg (aa.cells (A i)),.agg (aa.cells (ps.getD i default))] [] 0 (.agg (aa.cells (A (i+1)))) []):
 ACall Tryz.prog 77 [.val (.int .i64 s),.isl zp (cR ps) n] [] 0 (.agg (aa.cells (A n))) []:=by
 have g0:=PLift.up h0;have hs1:=PLift.up hs1;have hm1:=PLift.up hm1;have hm0:=PLift.up hm0
 clear h0
 have zx1:=ae;have zx2:=ae
 have zx3:=fun(i:Nat)=>YT (i:=i) hs
 refine ak Tryz.func77 Tryz.ntmps77 rfl ?_
 repeat' (first|(refine ai ?_;refine au [0,1] ([0,1].length) (alI zp ps n s A) (fun i=>n-i.val) (⟨0,Nat.zero_le _⟩) rfl (by unfold alI;exact eQ) ?_;(rintro⟨i,hi⟩;rcases Nat.lt_or_eq_of_le hi with hil|hil<;>first|(subst hil;(simp-dsimp only[alI];refine zqS ?_))|(have zx2:=YS (s:=s) (i:=i) (by omega);rcases Bool.eq_false_or_eq_true (s.testBit i) with zx1|zx1<;>(simp-dsimp only[alI];refine zqS ?_))))|(refine ax ?_;refine Nxt.mk [0,1] (⟨i+1,by omega⟩) rfl (by unfold alI;exact eQ) zqO)|refine zqN ?_|refine bE g0.down ?_|refine bE (hs1.down i hil) ?_|refine bE (hm1.down i hil zx1) ?_|refine bE (hm0.down i hil zx1) ?_|refine bM ?_|refine bO ?_|(refine bP ?_ ?_<;>intro hc<;>try exact zqM)|refine zqR 6 [⟨0,[],[20,21,22,23,24,25],[],[],0⟩,⟨1,[],[19,21,22,23,24],[],[],0⟩,⟨2,[],[19,20,22],[],[],0⟩,⟨3,[],[19,20,21],[],[],0⟩,⟨4,[2,3],[19,20],[],[],0⟩,⟨5,[2,3,4],[19,20],[],[],0⟩,⟨6,[1,2,3,4,5],[19],[],[],0⟩,⟨7,[0,1,2,3,4,5,6],[],[],[],0⟩,⟨8,[0,1,2,3,4,5,6,7],[],[],[4],0⟩] ?_|refine zqR 7 [⟨0,[],[28,29,30,31],[],[],0⟩,⟨1,[],[27,29],[],[],0⟩,⟨2,[],[27,28],[],[],0⟩,⟨3,[1,2],[27],[],[],0⟩,⟨4,[1,2,3],[27],[],[],0⟩,⟨5,[0,1,2,3,4],[],[],[],0⟩,⟨6,[0,1,2,3,4,5],[],[],[4],0⟩] ?_|refine zqD ?_|fail)
 all_goals first
  |((refine Ends.mk2 zqI [] ?_;simp-dsimp(disch:=try exact vD) only[push_cast,simprocAttr,Tryz.f77];try exact zqF);done)
  |skip
theorem QY(h:Cs p d n)(hn:n≤12)(hi:i≤n):Sm (al p s i):=by
 have hb:=YF (s:=s) h hi
 have e:2^i≤2^12:=Nat.pow_le_pow_right (by omega) (by omega)
 exact h.sm hn (i:=0) (k:=i) (by omega) hb (by have:(2:Nat)^12≤10^60:=by decide
                                               omega)
theorem MB(hl:ps.length=n)(hn:n≤12)(hs:s<65536)(hC:Cs p d n)(hP:Ps ps p n):ACall Tryz.prog 77 [.val (.int .i64 s),.isl zp (cR ps) n] [] 0 (.agg (aa.cells (rC (al p s n)))) []:=by
 refine ad6 (A:=fun i=>rC (al p s i)) (D:=fun i=>rC (1-p i)) hl (by omega) hs ?_ (fun i hi=>?_) (fun i hi hb=>?_) (fun i hi hb=>?_)
 ·exact IX
 ·obtain⟨zi,ei,hsi⟩:=hP i hi
  rw[ei];exact DK IM hsi
 ·have a:=QY (s:=s) hC hn (show i≤n by omega)
  have b:=O9 hC hi
  show ACall _ _ _ _ _ (.agg (aa.cells (rC (al p s (i+1))))) _
  rw[aiV hb]
  have:=w9 (cu a) (cu b)
  rw[←eF,←eF] at this;exact this
 ·obtain⟨zi,ei,hsi⟩:=hP i hi
  have a:=QY (s:=s) hC hn (show i≤n by omega)
  show ACall _ _ _ _ _ (.agg (aa.cells (rC (al p s (i+1))))) _
  rw[aiW hb,ei]
  have:=w9 (cu a) hsi
  rw[←eF] at this;exact this
def smI(zt zp:Bool)(tb:List Bool)(T:Nat)(ps:List RV)(n:Nat)(S:Nat→RV)(s:{s:Nat // s≤T}):St:=
 ⟨24,0,[(0,.isl zt (cB tb) T),(1,.isl zp (cR ps) n),(4,.pt 0 0),(5,.pt 1 0),(6,.val (.int .i64 s.val))],[(0,some (.cells zQ 37)),(1,some (.cells (aa.cells (S s.val)) 37))]⟩
theorem aln(hl:tb.length=T)(hT:T<2^40)(h0:ACall Tryz.prog 69 [.val (.int .i64 0)] [] 0 (.agg (aa.cells (S 0))) [])
 (ha:∀s,s<T→ACall Tryz.prog 77 [.val (.int .i64 s),.isl zp (cR ps) n] [] 0 (.agg (aa.cells (A s))) [])
 (hd:∀s,s<T→tb.getD s default=true→ACall Tryz.prog 71 [.agg (aa.cells (S s)),.agg (aa.cells (A s))] [] 0 (.agg (aa.cells (S (s+1)))) [])
 (hz:∀s,s<T→tb.getD s default=false→S (s+1)=S s):
 ACall Tryz.prog 47 [.isl zt (cB tb) T,.isl zp (cR ps) n] [] 0 (.agg (aa.cells (S T))) []:=by
 have g0:=PLift.up h0;have ha:=PLift.up ha;have hd:=PLift.up hd
 clear h0
 have zx1:=ae;have zx2:=ae
 refine ak Tryz.func47 Tryz.ntmps47 rfl ?_
 have zx3:=aC;repeat' (first|(refine ai ?_;refine au [0,1] ([0,1].length) (smI zt zp tb T ps n S) (fun s=>T-s.val) (⟨0,Nat.zero_le _⟩) rfl (by unfold smI;exact eQ) ?_;(rintro⟨s,hs⟩;rcases Nat.lt_or_eq_of_le hs with hsl|hsl<;>first|(subst hsl;(simp-dsimp only[smI];refine zqS ?_))|(rcases Bool.eq_false_or_eq_true (tb.getD s default) with zx1|zx1<;>first|(have zx2:=hz s hsl zx1;(simp-dsimp only[smI];refine zqS ?_))|(simp-dsimp only[smI];refine zqS ?_))))|(refine ax ?_;refine Nxt.mk [0,1] (⟨s+1,by omega⟩) rfl (by unfold smI;exact eQ) zqO)|refine zqN ?_|refine bE g0.down ?_|refine bE (ha.down s hsl) ?_|refine bE (hd.down s hsl zx1) ?_|refine bM ?_|refine bO ?_|(refine bP ?_ ?_<;>intro hc<;>try exact zqM)|refine zqR 6 [⟨0,[],[19,20,21],[],[],0⟩,⟨1,[],[18,20],[],[],0⟩,⟨2,[],[18,19],[],[],0⟩,⟨3,[1,2],[18],[],[],0⟩,⟨4,[0,1,2,3],[],[],[],0⟩,⟨5,[0,1,2,3,4],[],[],[4],0⟩] ?_|refine zqD ?_|fail)
 all_goals first
  |((refine Ends.mk2 zqI [] ?_;simp-dsimp(disch:=try exact vD) only[push_cast,simprocAttr,Tryz.f47];try exact zqF);done)
  |skip
theorem vF(hps:ps.length=n)(hn:n≤12)(hC:Cs p d n)(hP:Ps ps p n):ACall Tryz.prog 47 [.isl zt (cB (fD tab (2^n))) (2^n),.isl zp (cR ps) n] [] 0 (.agg (aa.cells (rC (Pr p n tab)))) []:=by
 have e:2^n≤2^12:=Nat.pow_le_pow_right (by omega) hn
 rw[←Yw]
 refine aln (S:=fun s=>rC (sB p n tab s)) (A:=fun s=>rC (al p s n)) bR (by omega) Mw (fun s hs=>MB hps hn (by omega) hC hP) (fun s hs hb=>?_) (fun s hs hb=>?_)
 ·have a:=ae5 (tab:=tab) (s:=s) hC hn (by omega)
  have b:=QY (s:=s) hC hn (Nat.le_refl n)
  rw[vE hs] at hb
  show ACall _ _ _ _ _ (.agg (aa.cells (rC (sB p n tab (s+1))))) _
  rw[adN hb]
  have:=Kj (cu a) (cu b)
  rw[←eF,←eF] at this;exact this
 ·rw[vE hs] at hb
  show rC (sB p n tab (s+1))=rC (sB p n tab s)
  rw[adO hb]
end Go.Proofs.YtcbginhpibfgaaaGreatDoor
namespace Go.Proofs.YtcbginhpibfgaaaGreatDoor
open Go Go.Sy Go.Lm Go.Rt Go.Dg
attribute [local irreducible] AO AL AC OpT ACall Ends DGo bK Thn Blk Nxt
variable {n N np k i m j r s T sv:Nat} {z z' zp zt:Bool} {ps xs:List RV} {L:List Fk} {F:List Fo} {X Y W A B V:RV} {v c e e2 rt:Int} {p:Nat→Rat} {tab f:Nat→Bool}
def deI(T:Nat)(f:Nat→Bool)(s:{s:Nat // s≤T}):St:=
 ⟨23,0,[(3,kC s.val 0 1),(4,.isl false (cB (fD f T)) T),(5,.val (.int .i64 s.val))],kD s.val 0 (cB (fD (fun t=> !f t) s.val)) 4⟩
theorem MC:(cB (fD f T)).take T=cB (fD f T):=List.take_of_length_le (by rw[cB_len,bR];exact Nat.le_refl _)
theorem ai8(hT:0<T)(hT2:T<2^30)(h:ACall Tryz.prog 78 [dI z n L N rt] [] 0 (.isl false (cB (fD f T)) T) []):ACall Tryz.prog 48 [dI z n L N rt] [] 0 (.isl false (cB (fD (fun t=> !f t) T)) T) []:=by
 have hq:=PLift.up h
 clear h
 have zx3:=MC (f:=fun t=> !f t) (T:=T)
 have hlt:=bR (p:=f) (T:=T)
 have hlen:=fun(s:Nat)=>bR (p:=fun t=> !f t) (T:=s)
 have zx1:=ae;have hsn:=ae;have zx2:=ae
 unfold dI at*
 refine ak Tryz.func48 Tryz.ntmps48 rfl ?_
 have zx4:= @bR;have zx5:=aC;have zx6:=aC;repeat' (first|(refine ai ?_;refine au [9] ([9].length) (deI T f) (fun s=>T-s.val) (⟨0,Nat.zero_le _⟩) rfl (by unfold deI;exact gY) ?_;(rintro⟨s,hs⟩;rcases Nat.lt_or_eq_of_le hs with hsl|hsl<;>first|(subst hsl;(simp-dsimp only[deI];refine zqS ?_))|(have zx1:=vE (p:=f) hsl;have hsn:=Pe (p:=fun t=> !f t) (s:=s);have hls:=hlen s;(try dsimp only at hsn);rcases Bool.eq_false_or_eq_true (f s) with zx2|zx2<;>rw[zx2] at zx1 hsn<;>(try simp only[Bool.not_true,Bool.not_false] at hsn)<;>rcases Nat.eq_zero_or_pos s with j0|j0<;>first|(subst j0;have hsn:=congrArg cB hsn;have hsn:[AV.val (.bool _)]=cB (fD (fun t=> !f t) 1):=hsn;(simp-dsimp only[deI];refine zqS ?_))|(simp-dsimp only[deI];refine zqS ?_))))|(refine ax ?_;refine Nxt.mk [2] (⟨s+1,by omega⟩) rfl (by unfold deI;(try simp only[List.cons_append,List.nil_append]);refine Sub.mk2 ?_;(simp-dsimp(disch:=try exact vD) only[push_cast,simprocAttr,zx1,zx2,zx3,bR,hsn]);(repeat refine aI ?_);first|done|exact vI) zqO)|(refine ax ?_;refine Nxt.mk [1] (⟨s+1,by omega⟩) rfl (by unfold deI;(try simp only[List.cons_append,List.nil_append]);refine Sub.mk2 ?_;(simp-dsimp(disch:=try exact vD) only[push_cast,simprocAttr,zx1,zx2,zx3,bR,hsn]);(repeat refine aI ?_);first|done|exact vI) zqO)|(refine ax ?_;refine Nxt.mk [0] (⟨s+1,by omega⟩) rfl (by unfold deI;(try simp only[List.cons_append,List.nil_append]);refine Sub.mk2 ?_;(simp-dsimp(disch:=try exact vD) only[push_cast,simprocAttr,zx1,zx2,zx3,bR,hsn]);(repeat refine aI ?_);first|done|exact vI) zqO)|(refine ax ?_;refine Nxt.mk [2] (⟨1,by omega⟩) rfl (by unfold deI;(try simp only[List.cons_append,List.nil_append]);refine Sub.mk2 ?_;(simp-dsimp(disch:=try exact vD) only[push_cast,simprocAttr,zx1,zx2,zx3,bR,hsn]);(repeat refine aI ?_);first|done|exact vI) zqO)|(refine ax ?_;refine Nxt.mk [1] (⟨1,by omega⟩) rfl (by unfold deI;(try simp only[List.cons_append,List.nil_append]);refine Sub.mk2 ?_;(simp-dsimp(disch:=try exact vD) only[push_cast,simprocAttr,zx1,zx2,zx3,bR,hsn]);(repeat refine aI ?_);first|done|exact vI) zqO)|(refine ax ?_;refine Nxt.mk [0] (⟨1,by omega⟩) rfl (by unfold deI;(try simp only[List.cons_append,List.nil_append]);refine Sub.mk2 ?_;(simp-dsimp(disch:=try exact vD) only[push_cast,simprocAttr,zx1,zx2,zx3,bR,hsn]);(repeat refine aI ?_);first|done|exact vI) zqO)|refine zqN ?_|refine gG hq.down ?_|refine kE ?_|refine AX ?_|refine AY ?_|refine AZ ?_|refine kF ?_|(refine kG ?_ ?_<;>intro hc<;>try exact zqM))
 all_goals first
  |(((refine Ends.frz 0 ?_;simp-dsimp(disch:=try exact vD) only[push_cast,simprocAttr,Tryz.f48,zx3];(repeat refine aI ?_);intro K hK;refine hK _ _ ?_;clear hK K);refine Ends.mk2 zqI [] ?_;simp-dsimp(disch:=try exact vD) only[push_cast,simprocAttr,Tryz.f48,zx3];try exact zqF);done)
  |skip
theorem DL(hD:DOk n F r)(hN:F.length=N):ACall Tryz.prog 48 [dI z n (F.map fk) N r] [] 0 (.isl false (cB (fD (fun t=> !aG F t r) (2^n))) (2^n)) []:=by
 have h12:=hD.n12;have hf:=hD.few;have hlt:=hD.lt
 have e:2^n≤2^12:=Nat.pow_le_pow_right (by omega) h12
 have h:=yB (z:=z) (r:=r) (by omega) hD.bnd hD.v16 hN (by omega) (by omega) (rfl:2^n=2^n)
 rw[show lT F r (2^n)=fD (fun t=>aG F t r) (2^n) from rfl,←gV] at h
 exact ai8 (Nat.two_pow_pos n) (by omega) h
theorem Pf(hl:ps.length=n)(hn:n≤1000)(hs:sv<n)(hnm:ACall Tryz.prog 69 [.val (.int .i64 v)] [] 0 (.agg (aa.cells X)) []):ACall Tryz.prog 56 [.isl zp (cR ps) n,.val (.int .i64 sv),.val (.int .i64 v)] [] 0 (.isl false (cR (ps.set sv X)) n) []:=by
 have hnm:=PLift.up hnm
 have zx1:=QZ (X:=X) (ps:=ps) (sv:=sv) (by omega)
 have hln:(ps.set sv X).length=n:=by rw[List.length_set];exact hl
 have zx2:(cR (ps.set sv X)).take (n*4)=cR (ps.set sv X):=List.take_of_length_le (by rw[lM,hln];exact Nat.le_refl _)
 refine ak Tryz.func56 Tryz.ntmps56 rfl ?_
 have zx3:=aC;repeat' (first|refine zqN ?_|refine bE hnm.down ?_|refine bM ?_|refine jT ?_|refine jU ?_|refine jV ?_|refine bO ?_|(refine bP ?_ ?_<;>intro hc<;>try exact zqM))
 all_goals first
  |(((refine Ends.frz 1 ?_;simp-dsimp(disch:=try exact vD) only[push_cast,simprocAttr,Tryz.f56,zx2];(repeat refine aI ?_);intro K hK;refine hK _ _ ?_;clear hK K);refine Ends.mk2 zqI [] ?_;simp-dsimp(disch:=try exact vD) only[push_cast,simprocAttr,Tryz.f56,zx2];try exact zqF);done)
  |skip
