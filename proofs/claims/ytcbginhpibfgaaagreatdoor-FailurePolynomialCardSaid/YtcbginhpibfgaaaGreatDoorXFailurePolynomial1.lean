/- Args Dg2 Dg6 Di4 Di5 Di7 Dg5 Di20 DiagArgs2 Rt2 Rt3 Dv1 Dv2. No condition. -/
import Derived.Test.YtcbginhpibfgaaaGreatDoorFDoor
import Derived.Test.YtcbginhpibfgaaaGreatDoorDiG14
import Derived.Test.YtcbginhpibfgaaaGreatDoorRtG1
import Derived.Test.YtcbginhpibfgaaaGreatDoorDv2
set_option linter.all false
namespace Go.Proofs.YtcbginhpibfgaaaGreatDoor
open Go Go.Sy
theorem wC{m:Int}(h:(Lit.int .u8 m).wf=true):0≤m∧m≤255:=by
 simp only[Lit.wf,Bool.and_eq_true,decide_eq_true_eq,IntKind.min,IntKind.max] at h
 simpa[IntKind.bits,IntKind.signed] using h
theorem NU{m:Int}(h:(Lit.int .i64 m).wf=true): -9223372036854775808≤m∧m≤9223372036854775807:=by
 simp only[Lit.wf,Bool.and_eq_true,decide_eq_true_eq,IntKind.min,IntKind.max] at h
 simpa[IntKind.bits,IntKind.signed] using h
end Go.Proofs.YtcbginhpibfgaaaGreatDoor
namespace Go.Dg
variable {F G D e A B:List Fo} {f:Fo} {n m i j k s t r u v w nx n1 l:Nat} {tab φ φ0 φ1:Nat→Bool}
theorem Sn{tab':Nat→Bool}:∀(m i s:Nat) (F:List Fo),i+m=n→s<2^i→(∀t,Ext n i s t→tab t=tab' t)→gen tab m i s F=gen tab' m i s F:=by
 intro m
 induction m with
 |zero=>
  intro i s F hi hs h
  rw[Ey,Ey,h s (wH hs (by omega))]
 |succ m ih=>
  intro i s F hi hs h
  have e1:=ih (i+1) s F (by omega) (u7 hs) (fun t ht=>h t ht.of_low)
  have e2:=ih (i+1) (s|||2^i) (gen tab' m (i+1) s F).1 (by omega) (kI hs) (fun t ht=>h t (ht.of_high hs))
  simp only[gen,e1,e2]
theorem EC{tab':Nat→Bool}(h:∀t,t<2^n→tab t=tab' t):fC n tab=fC n tab':=Sn n 0 0 [] (by omega) (by decide) (fun t ht=>h t ht.1)
end Go.Dg
namespace Go.Dg
variable {F G D e A B:List Fo} {f:Fo} {n m i j k s t r u v w nx n1 l:Nat} {tab φ φ0 φ1:Nat→Bool}
theorem Qc(h:F.length≤k):(F.getD k default).lo=0∧(F.getD k default).hi=0:=by
 rw[List.getD_eq_getElem?_getD,List.getElem?_eq_none h];exact⟨rfl,rfl⟩
theorem EE(hb:Bnd F):∀(k m r:Nat),r≤k→r≤m→qY F t k r=qY F t m r:=by
 intro k
 induction k with
 |zero=>intro m r hk hm;rw[iY (by omega),iY (by omega)]
 |succ k ih=>
  intro m r hk hm
  by_cases h2:r<2
  ·rw[iY h2,iY h2]
  ·cases m with
   |zero=>omega
   |succ m=>
    have hl:(F.getD (r-2) default).lo<r∧(F.getD (r-2) default).hi<r:=by
     by_cases hr:r-2<F.length
     ·have:=hb (r-2) hr;omega
     ·have:=Qc (F:=F) (k:=r-2) (by omega);omega
    simp only[qY,if_neg h2]
    rw[ih m _ (by omega) (by omega),ih m _ (by omega) (by omega)]
theorem Lr(hb:Bnd F)(h2:¬r<2)(hr:r<F.length+2):aG F t r=if t.testBit (F.getD (r-2) default).v=true then aG F t (F.getD (r-2) default).hi else aG F t (F.getD (r-2) default).lo:=by
 have ho:=hb (r-2) (by omega)
 unfold aG
 obtain⟨k,rfl⟩:∃k,r=k+1:=⟨r-1,by omega⟩
 rw[qY,if_neg h2,EE hb k _ _ (by omega) (Nat.le_refl _),EE hb k _ _ (by omega) (Nat.le_refl _)]
theorem Ls(hb:Bnd F)(hr:F.length+2≤r):aG F t r=false:=by
 unfold aG
 obtain⟨k,rfl⟩:∃k,r=k+1:=⟨r-1,by omega⟩
 have:=Qc (F:=F) (k:=k+1-2) (by omega)
 rw[qY,if_neg (by omega),this.1,this.2,iY (by decide)]
 split<;>rfl
def lT(F:List Fo)(r m:Nat):List Bool:=(List.range m).map fun t=>aG F t r
theorem gU:(lT F r m).length=m:=by simp[lT]
theorem ahQ:lT F r (m+1)=lT F r m++[aG F m r]:=by simp[lT,List.range_succ]
theorem ack(h:t<m):(lT F r m).getD t false=aG F t r:=by
 unfold lT
 rw[List.getD_eq_getElem?_getD,List.getElem?_map,List.getElem?_range h];rfl
theorem yA(h:m=2^n):kM n (lT F r m)=fC n fun t=>aG F t r:=EC fun t ht=>ack (by omega)
end Go.Dg
set_option maxHeartbeats 4000000
set_option maxRecDepth 20000
namespace Go.Proofs.YtcbginhpibfgaaaGreatDoor
open Go Go.Sy Go.Dg
attribute [local irreducible] AO AL AC OpT ACall Ends DGo bK Thn Blk Nxt
variable {N N':Nat} {F F1 F2 G:List Fo} {L L':List Fk} {v lo hi n k k1 k2 k' i m s t a b r:Nat} {p q p' q':Int} {z z':Bool} {x y:Fk}
theorem lU(x:Fk):aa.cells x=[.val (.int .i64 x.v),.val (.int .i64 x.lo),.val (.int .i64 x.hi)]:=rfl
def rgV(z:Bool)(n:Int)(L:List Fk)(r:Int):AV:= .agg [.val (.int .i64 n),.isl z (cR L) L.length,.val (.int .i64 r)]
theorem mP:dgV z n F r=rgV z n (F.map fk) r:=by unfold dgV rgV;rw[gV,List.length_map]
def acm(i:Nat)(L L':List Fk):Prop:=∀j,j<i→L.getD j default=L'.getD j default
def WG(z z':Bool)(p q:Int)(L L':List Fk)(N:Nat)(i:{i:Nat // i≤N∧acm i L L'}):St:=
 ⟨45,0,[(2,.pt 0 0),(3,.pt 1 0),(5,.val (.int .i64 i.val))],[(0,some (.cells [.val (.int .i64 p),.isl z (cR L) N,.val (.int .i64 q)] 29)),(1,some (.cells [.val (.int .i64 p),.isl z' (cR L') N,.val (.int .i64 q)] 29))]⟩
theorem ahR(h:acm i L L')(h2:L.getD i default=L'.getD i default):acm (i+1) L L':=fun j hj=>by
 by_cases e:j=i
 ·subst e;exact h2
 ·exact h j (by omega)
theorem WH(h:acm k L L')(hL:L.length=k)(hL':L'.length=k):L=L':=by
 apply List.ext_getElem (by omega)
 intro j h1 h2
 have:=h j (by omega)
 rw[List.getD_eq_getElem?_getD,List.getElem?_eq_getElem h1,List.getD_eq_getElem?_getD,List.getElem?_eq_getElem h2] at this
 exact this
theorem ahS:eqI [x.v,x.lo,x.hi] [y.v,y.lo,y.hi]=decide (x=y):=by
 rw[Eg]
 congr 1
 cases x;cases y;simp
theorem WI{N:Nat}(hL:L.length=N)(hL':L'.length=N)(hN:N<2^50):ACall Tryz.prog 82 [.agg [.val (.int .i64 p),.isl z (cR L) N,.val (.int .i64 q)],.agg [.val (.int .i64 p),.isl z' (cR L') N,.val (.int .i64 q)]] [] 0 (.val (.bool (decide (L=L')))) []:=by
 have zx1:=ae
 refine ak Tryz.func82 Tryz.ntmps82 rfl ?_
 have zx2:= @ahS;have zx3:= @lU;repeat' (first|(refine ai ?_;refine au [0,1] ([0,1].length) (WG z z' p q L L' N) (fun i=>N-i.val) (⟨0,by omega,fun j hj=>absurd hj (by omega)⟩) rfl (by unfold WG;exact eQ) ?_;(rintro⟨i,hi,he⟩;rcases Nat.lt_or_eq_of_le hi with hil|hil<;>first|(have ei:N=i:=hil.symm;subst ei;(simp-dsimp only[WG];refine zqS ?_))|(rcases Decidable.em (L.getD i default=L'.getD i default) with zx1|zx1<;>(simp-dsimp only[WG];refine zqS ?_))))|(refine ax ?_;refine Nxt.mk [0,1] (⟨i+1,by omega,ahR he zx1⟩) rfl (by unfold WG;exact eQ) zqO)|refine zqN ?_|refine bM ?_|refine bO ?_|(refine bP ?_ ?_<;>intro hc<;>try exact zqM)|refine zqR 6 [⟨0,[],[36,39,40,41,42,43],[],[],0⟩,⟨1,[0],[36,39,40,41,42,43],[],[],0⟩,⟨2,[],[34,35,39,40,41,42,43],[],[],0⟩,⟨3,[0,1,2],[39,40,41,42,43],[],[],0⟩,⟨4,[0,1,2,3],[39,40,41,42,43],[],[],0⟩,⟨5,[],[34,35,36,37,38,41],[],[],0⟩,⟨6,[5],[34,35,36,37,38,41],[],[],0⟩,⟨7,[],[34,35,36,37,38,39,40],[],[],0⟩,⟨8,[5,6,7],[34,35,36,37,38],[],[],0⟩,⟨9,[5,6,7,8],[34,35,36,37,38],[],[],0⟩,⟨10,[0,1,2,3,4,5,6,7,8,9],[],[],[],0⟩] ?_|refine zqD ?_|fail)
 all_goals first
  |(have e:L=L':=WH he hL hL';rw[decide_eq_true e];(refine Ends.mk2 zqI [] ?_;simp-dsimp(disch:=try exact vD) only[push_cast,simprocAttr,Tryz.f82];try exact zqF);done)
  |(have e:¬L=L':=(fun e=>zx1 (by rw[e]));rw[decide_eq_false e];(refine Ends.mk2 zqI [] ?_;simp-dsimp(disch:=try exact vD) only[push_cast,simprocAttr,Tryz.f82];try exact zqF);done)
  |skip
theorem Su{N N':Nat}(h:¬(p=p'∧q=q'∧N=N')):ACall Tryz.prog 82 [.agg [.val (.int .i64 p),.isl z (cR L) N,.val (.int .i64 q)],.agg [.val (.int .i64 p'),.isl z' (cR L') N',.val (.int .i64 q')]] [] 0 (.val (.bool false)) []:=by
 have zx1:=ae;have zx2:=ae;have zx3:=ae
 rcases Decidable.em (p=p') with zx1|zx1<;>rcases Decidable.em (q=q') with zx2|zx2<;>rcases Decidable.em (N=N') with zx3|zx3
 all_goals try(exact absurd (And.intro zx1 (And.intro zx2 zx3)) h)
 all_goals clear h
 all_goals(refine ak Tryz.func82 Tryz.ntmps82 rfl ?_)
 all_goals repeat' (first|refine zqN ?_|refine bM ?_|refine bO ?_|(refine bP ?_ ?_<;>intro hc<;>try exact zqM)|refine zqR 6 [⟨0,[],[36,39,40,41,42,43],[],[],0⟩,⟨1,[0],[36,39,40,41,42,43],[],[],0⟩,⟨2,[],[34,35,39,40,41,42,43],[],[],0⟩,⟨3,[0,1,2],[39,40,41,42,43],[],[],0⟩,⟨4,[0,1,2,3],[39,40,41,42,43],[],[],0⟩,⟨5,[],[34,35,36,37,38,41],[],[],0⟩,⟨6,[5],[34,35,36,37,38,41],[],[],0⟩,⟨7,[],[34,35,36,37,38,39,40],[],[],0⟩,⟨8,[5,6,7],[34,35,36,37,38],[],[],0⟩,⟨9,[5,6,7,8],[34,35,36,37,38],[],[],0⟩,⟨10,[0,1,2,3,4,5,6,7,8,9],[],[],[],0⟩] ?_|refine zqD ?_|fail)
 all_goals((refine Ends.mk2 zqI [] ?_;simp-dsimp(disch:=try exact vD) only[push_cast,simprocAttr,Tryz.f82];try exact zqF))
theorem EF(hL:L.length<2^50):ACall Tryz.prog 82 [rgV z p L q,rgV z' p' L' q'] [] 0 (.val (.bool (decide (p=p'∧q=q'∧L=L')))) []:=by
 unfold rgV
 by_cases h:p=p'∧q=q'∧L.length=L'.length
 ·obtain⟨rfl,rfl,h⟩:=h
  have:=WI (p:=p) (q:=q) (z:=z) (z':=z') (L:=L) (L':=L') (N:=L'.length) h rfl (by omega)
  rw[h]
  simpa using this
 ·have e:¬(p=p'∧q=q'∧L=L'):=fun e=>h ⟨e.1,e.2.1,by rw[e.2.2]⟩
  rw[decide_eq_false e]
  exact Su h
theorem N9(hL:L.length<2^50):ACall Tryz.prog 82 [rgV z p L q,rgV z' p L q] [] 0 (.val (.bool true)) []:=by
 have:=EF (z:=z) (z':=z') (p:=p) (p':=p) (q:=q) (q':=q) (L:=L) (L':=L) hL
 simpa using this
theorem acn(hn:n<16):ACall Tryz.prog 142 [.val (.int .u16 (U s)),.val (.int .i64 n)] [] 0 (.val (.bool (bit s n))) []:=by
 refine ak Tryz.func142 Tryz.ntmps142 rfl ?_
 repeat' (first|refine zqN ?_|refine aK ?_|refine aL ?_|(refine aM ?_ ?_<;>intro hc<;>try exact zqM))
 all_goals(refine Ends.mk2 zqI [] ?_;simp-dsimp(disch:=try exact vD) only[push_cast,simprocAttr,Tryz.f142];try exact zqF)
theorem WJ(h:s<65536):bit s n=s.testBit n:=by unfold bit;rw[Nat.mod_eq_of_lt h]
theorem ne12(x:Nat):((x:Int)+1+1=1)=False:=eq_false (by omega)
def vlI(z:Bool)(p q:Int)(F:List Fo)(N t:Nat)(v:Bool)(r:{r:Nat // aG F t r=v∧r<2^50}):St:=
 ⟨34,0,[(1,.val (.int .i64 r.val)),(2,.val (.int .u16 (U t))),(3,.pt 0 0)],[(0,some (.cells [.val (.int .i64 p),.isl z (cR F) N,.val (.int .i64 q)] 29))]⟩
theorem Lt(hb:Bnd F)(h16:∀k,k<F.length→(F.getD k default).v<16)(hN:F.length=N)(hN2:N<2^40)(hr:r<2^50)(ht:t<65536):ACall Tryz.prog 110 [.agg [.val (.int .i64 p),.isl z (cR F) N,.val (.int .i64 q)],.val (.int .i64 r),.val (.int .u16 (U t))] [] 0 (.val (.bool (aG F t r))) []:=by
 have zx1:=ae;have zx2:=ae
 generalize hv:aG F t r=v
 refine ak Tryz.func110 Tryz.ntmps110 rfl ?_
 have zx3:= @cz;have zx4:= @uG;have zx5:= @ne12;have zx6:=aC;repeat' (first|(refine ai ?_;refine au [0] ([0].length) (vlI z p q F N t v) (fun r=>r.val) (⟨r,hv,hr⟩) rfl (by unfold vlI;exact gY) ?_;(rintro⟨r1,hv1,hr1⟩;rcases Nat.lt_or_ge r1 2 with h2|h2<;>first|(have hh:2≤r1:=h2;obtain⟨k,rfl⟩:∃k,r1=k+2:=⟨r1-2,by omega⟩;have hbk:k<N→(F.getD k default).lo<k+2∧(F.getD k default).hi<k+2:=(fun h=>hb k (by omega));rcases Nat.lt_or_ge k N with h3|h3<;>rcases Bool.eq_false_or_eq_true (bit t (F.getD k default).v) with zx2|zx2<;>(try(replace hbk:=hbk h3))<;>(simp-dsimp only[vlI];refine zqS ?_))|(simp-dsimp only[vlI];refine zqS ?_)))|(refine ax ?_;refine Nxt.mk [0] (⟨(F.getD k default).hi,by rw[←hv1,Lr (r:=k+2) hb (by omega) (by omega),Nat.add_sub_cancel,←WJ ht,zx2];rfl,by omega⟩) rfl (by unfold vlI;exact gY) zqO)|(refine ax ?_;refine Nxt.mk [0] (⟨(F.getD k default).lo,by rw[←hv1,Lr (r:=k+2) hb (by omega) (by omega),Nat.add_sub_cancel,←WJ ht,zx2];rfl,by omega⟩) rfl (by unfold vlI;exact gY) zqO)|refine zqN ?_|refine gG (acn (s:=t) (n:=(F.getD k default).v) (h16 k (by omega))) ?_|refine kE ?_|refine kF ?_|(refine kG ?_ ?_<;>intro hc<;>try exact zqM))
 all_goals first
  |(have e:v=decide ((r1:Int)=1):=(by rw[←hv1,mq (by omega)];exact decide_eq_decide.2 ⟨fun h=>by omega,fun h=>by omega⟩);rw[e];(refine Ends.mk2 zqI [] ?_;simp-dsimp(disch:=try exact vD) only[push_cast,simprocAttr,Tryz.f110];try exact zqF);done)
  |(have e:v=false:=(by rw[←hv1];exact Ls hb (by omega));rw[e];(refine Ends.mk2 zqI [] ?_;simp-dsimp(disch:=try exact vD) only[push_cast,simprocAttr,Tryz.f110,ne12];try exact zqF);done)
  |skip
end Go.Proofs.YtcbginhpibfgaaaGreatDoor
namespace Go.Proofs.YtcbginhpibfgaaaGreatDoor
open Go Go.Sy Go.Dg
attribute [local irreducible] AO AL AC OpT ACall Ends DGo bK Thn Blk Nxt
variable {N N' N1 N2 T:Nat} {F F1 F2 G:List Fo} {L L':List Fk} {v lo hi n k k1 k2 k' i m s t a b r:Nat} {p q p' q':Int} {z z':Bool} {x y:Fk}
theorem mr:cB (lT F r s)++[AV.val (.bool (aG F s r))]=cB (lT F r (s+1)):=by rw[ahQ];simp[cB]
theorem WN:(cB (lT F r s)).take s=cB (lT F r s):=List.take_of_length_le (by rw[cB_len,gU];exact Nat.le_refl _)
theorem Bc(hn:n≤16):IntKind.wrap .i64 (1*2^min n (IntKind.bits .i64))=((2^n:Nat):Int):=by
 have hp:2^n≤2^16:=Nat.pow_le_pow_right (by omega) hn
 rw[show min n (IntKind.bits .i64)=n from Nat.min_eq_left (by show n≤64;omega),Int.one_mul]
 have e:(2:Int)^n=((2^n:Nat):Int):=by norm_cast
 rw[e]
 generalize 2^n=T at hp
 exact K8 (by omega)
def rtI(z:Bool)(n:Nat)(F:List Fo)(N r T:Nat)(s:{s:Nat // s≤T}):St:=
 ⟨22,0,[(1,.pt 0 0),(3,kC s.val 1 1),(4,.val (.int .i64 s.val))],[(0,some (.cells [.val (.int .i64 n),.isl z (cR F) N,.val (.int .i64 r)] 29))]++kD s.val 1 (cB (lT F r s.val)) 4⟩
theorem yB(hn:n≤16)(hb:Bnd F)(h16:∀k,k<F.length→(F.getD k default).v<16)(hN:F.length=N)(hN2:N<2^40)(hr:r<2^50)(hT:2^n=T):ACall Tryz.prog 78 [.agg [.val (.int .i64 n),.isl z (cR F) N,.val (.int .i64 r)]] [] 0 (.isl false (cB (lT F r T)) T) []:=by
 have hp:2^n≤2^16:=Nat.pow_le_pow_right (by omega) hn
 have hpp:=Nat.two_pow_pos n
 have zx2:=Bc hn
 rw[hT] at hp hpp zx2
 have hv:=fun(t:Nat) (h:t<65536)=>PLift.up (by
  have:=Lt (z:=z) (p:=n) (q:=r) (t:=t) hb h16 hN hN2 hr h
  rw[Lp h] at this;exact this)
 have htk:=fun s=>WN (F:=F) (r:=r) (s:=s)
 have hx:=ae;have zx1:=ae
 refine ak Tryz.func78 Tryz.ntmps78 rfl ?_
 have zx3:= @mr;have zx4:= @gU;have zx5:=aC;have zx6:=aC;repeat' (first|(refine ai ?_;refine au [0,9] ([0,9].length) (rtI z n F N r T) (fun s=>T-s.val) (⟨0,by omega⟩) rfl (by unfold rtI;exact gY) ?_;(rintro⟨s,hs⟩;rcases Nat.lt_or_eq_of_le hs with hsl|hsl<;>first|(have es:T=s:=hsl.symm;subst es;(simp-dsimp only[rtI];refine zqS ?_))|(rcases Nat.eq_zero_or_pos s with h0|h0<;>first|(have hx:[AV.val (.bool (aG F s r))]=cB (lT F r (s+1)):=(by subst h0;rfl);(simp-dsimp only[rtI];refine zqS ?_))|(simp-dsimp only[rtI];refine zqS ?_))))|(refine ax ?_;refine Nxt.mk [0,2] (⟨s+1,by omega⟩) rfl (by unfold rtI;(try simp only[List.cons_append,List.nil_append]);refine Sub.mk2 ?_;(simp-dsimp(disch:=try exact vD) only[push_cast,simprocAttr,zx1,zx2,mr,gU,hx]);(repeat refine aI ?_);first|done|exact vI) zqO)|(refine ax ?_;refine Nxt.mk [0,3] (⟨s+1,by omega⟩) rfl (by unfold rtI;(try simp only[List.cons_append,List.nil_append]);refine Sub.mk2 ?_;(simp-dsimp(disch:=try exact vD) only[push_cast,simprocAttr,zx1,zx2,mr,gU,hx]);(repeat refine aI ?_);first|done|exact vI) zqO)|(refine ax ?_;refine Nxt.mk [0,1] (⟨s+1,by omega⟩) rfl (by unfold rtI;(try simp only[List.cons_append,List.nil_append]);refine Sub.mk2 ?_;(simp-dsimp(disch:=try exact vD) only[push_cast,simprocAttr,zx1,zx2,mr,gU,hx]);(repeat refine aI ?_);first|done|exact vI) zqO)|refine zqN ?_|refine gG (hv s (by omega)).down ?_|refine kE ?_|refine AX ?_|refine AY ?_|refine AZ ?_|refine kF ?_|(refine kG ?_ ?_<;>intro hc<;>try exact zqM))
 all_goals first
  |(((refine Ends.frz 1 ?_;simp-dsimp(disch:=try exact vD) only[push_cast,simprocAttr,Tryz.f78,htk];(repeat refine aI ?_);intro K hK;refine hK _ _ ?_;clear hK K);refine Ends.mk2 zqI [] ?_;simp-dsimp(disch:=try exact vD) only[push_cast,simprocAttr,Tryz.f78,htk];try exact zqF);done)
  |skip
end Go.Proofs.YtcbginhpibfgaaaGreatDoor
namespace Go.Proofs.YtcbginhpibfgaaaGreatDoor
open Go Go.Sy Go.Dg
attribute [local irreducible] AO AL AC OpT ACall Ends DGo bK Thn Blk Nxt
variable {N N' N1 N2 T M:Nat} {F F1 F2 G:List Fo} {L L':List Fk} {v lo hi n k k1 k2 k' i m s t a b r nx n1 n2:Nat} {p q p' q':Int} {z z':Bool} {x y:Fk} {b1 b2:Bool}
theorem DOk.v16(h:DOk n F r):∀k,k<F.length→(F.getD k default).v<16:=fun k hk=>by have:=(h.good.ok k hk).v;have:=h.n12;omega
end Go.Proofs.YtcbginhpibfgaaaGreatDoor
namespace Go.Dg
variable {F G D e A B:List Fo} {f:Fo} {n m i j k s t r u v w nx n1 l:Nat} {tab φ φ0 φ1:Nat→Bool} {p q:Nat→Bool}
def cL(tab:Nat→Bool):Nat→Nat→Nat→List Nat
 |0,_,s=>[if tab s=true then 1 else 0]
 |m+1,i,s=>wJ (cL tab m (i+1) s++[0]) (0::cL tab m (i+1) (s|||2^i))
theorem EG:∀(m i s:Nat),(cL tab m i s).length=m+1
 |0,i,s=>rfl
 |m+1,i,s=>by rw[cL,rq (by simp[EG m]),List.length_append,EG m];rfl
theorem acy(hg:Good n F):∀(m i s r:Nat),i+m=n→s<2^i→Ay tab n i s F r→iT (aP n F r-i) (cAt n F r)=cL tab m i s:=by
 intro m
 induction m with
 |zero=>
  intro i s r hi hs hr
  have hin:i=n:=by omega
  subst hin
  have h2:r<2:=by
   rcases Nat.lt_or_ge r 2 with h|h
   ·exact h
   ·have:=hr.srv
    unfold aP at this
    rw[if_neg (by omega)] at this
    have ho:=hg.ok (r-2) (by have:=hr.lt;omega)
    have:=ho.v
    omega
  have hv:=hr.val s (wH hs (Nat.le_refl _))
  rw[mq h2] at hv
  have e0:aP i F r-i=0:=by unfold aP;rw[if_pos h2];omega
  rw[e0]
  show cAt i F r=[if tab s=true then 1 else 0]
  rw[←hv]
  have:r=0∨r=1:=by omega
  rcases this with rfl|rfl
  ·rw[aeH];rfl
  ·rw[aeI];rfl
 |succ m ih=>
  intro i s r hi hs hr
  by_cases h:aP n F r=i
  ·have h2:¬r<2:=fun h2=>by unfold aP at h;rw[if_pos h2] at h;omega
   have hv:(F.getD (r-2) default).v=i:=by unfold aP at h;rw[if_neg h2] at h;exact h
   have hlt:=hr.lt
   have ho:=hg.ok (r-2) (by omega)
   have e1:=ih (i+1) s (F.getD (r-2) default).lo (by omega) (u7 hs) ⟨by have:=ho.lo;omega,by have:=ho.sl;omega,fun t ht=>by
    rw[←hr.val t ht.of_low,jG hg h2 hlt,hv,ht.b0 hs];simp⟩
   have e2:=ih (i+1) (s|||2^i) (F.getD (r-2) default).hi (by omega) (kI hs) ⟨by have:=ho.hi;omega,by have:=ho.sh;omega,fun t ht=>by
    rw[←hr.val t (ht.of_high hs),jG hg h2 hlt,hv,ht.b1];simp⟩
   rw[h,Nat.sub_self]
   show cAt n F r=_
   rw[EH hg h2 hlt,hv,cL,←e1,←e2]
   rfl
  ·have hsv:=hr.srv
   have e1:=ih (i+1) s r (by omega) (u7 hs) ⟨hr.lt,by omega,fun t ht=>hr.val t ht.of_low⟩
   have e2:=ih (i+1) (s|||2^i) r (by omega) (kI hs) ⟨hr.lt,by omega,fun t ht=>hr.val t (ht.of_high hs)⟩
   rw[show aP n F r-i=(aP n F r-(i+1))+1 by omega,ve,cL,←e1,←e2]
   rfl
theorem Oa(hg:Good n F)(hr:r<F.length+2)(hv:∀t,t<2^n→aG F t r=tab t):iT (aP n F r) (cAt n F r)=cL tab n 0 0:=
 acy hg n 0 0 r (by omega) (by decide) ⟨hr,Nat.zero_le _,fun t h=>hv t h.1⟩
theorem lu(h:∀t,t<2^n→p t=q t):num n p=num n q:=by
 unfold num
 rw[List.filter_congr fun t ht=>h t (List.mem_range.1 ht)]
theorem Iu(q:Nat→Bool):num n p=num n (fun t=>p t&& !q t)+num n (fun t=>p t&&q t):=by
 unfold num
 induction List.range (2^n) with
 |nil=>rfl
 |cons a l ih=>
  simp only[List.filter_cons]
  cases p a<;>cases q a<;>simp[ih]<;>omega
theorem Lv(h:∀t,t<2^n→p t=false):num n p=0:=by
 unfold num
 rw[List.filter_eq_nil_iff.2 fun t ht=>by rw[h t (List.mem_range.1 ht)];simp]
 rfl
theorem acz(hs:s<2^n)(h:∀t,t<2^n→(p t=true↔t=s)):num n p=1:=by
 unfold num
 have e:(List.range (2^n)).filter p=(List.range (2^n)).filter (fun t=>decide (t=s)):=List.filter_congr fun t ht=>by
  rw[Bool.eq_iff_iff,h t (List.mem_range.1 ht),decide_eq_true_eq]
 rw[e]
 have key:∀N,s<N→((List.range N).filter fun t=>decide (t=s)).length=1:=by
  intro N
  induction N with
  |zero=>intro h;omega
  |succ N ih=>
   intro hN
   rw[List.range_succ,List.filter_append,List.length_append]
   by_cases e:s=N
   ·subst e
    rw[List.filter_eq_nil_iff.2 fun t ht=>by have:=List.mem_range.1 ht;simp;omega]
    simp
   ·rw[ih (by omega)];simp;omega
 exact key _ hs
def pc(n t:Nat):Nat:=((List.range n).filter fun i=>t.testBit i).length
theorem Bg{p:Nat→Bool} {N:Nat}:(List.filter p [N]).length=if p N=true then 1 else 0:=by
 cases h:p N<;>simp[List.filter,h]
theorem aeJ(hi:i<n)(hs:s<2^i):pc n (s|||2^i)=pc n s+1:=by
 unfold pc
 have e:∀N,((List.range N).filter fun j=>(s|||2^i).testBit j).length=((List.range N).filter fun j=>s.testBit j).length+if i<N then 1 else 0:=by
  intro N
  induction N with
  |zero=>rfl
  |succ N ih=>
   rw[List.range_succ,List.filter_append,List.filter_append,List.length_append,List.length_append,ih]
   have hb:(s|||2^i).testBit N=(s.testBit N||decide (i=N)):=by rw[Nat.testBit_or,Nat.testBit_two_pow]
   by_cases h:i=N
   ·have h0:s.testBit N=false:=by rw[←h];exact Nat.testBit_lt_two_pow hs
    rw[Bg,Bg,hb,h0];simp[h]
   ·rw[Bg,Bg,hb,decide_eq_false h,Bool.or_false]
    have h3:(i<N+1)=(i<N):=propext ⟨fun _=>by omega,fun _=>by omega⟩
    simp only[h3]
    rw[Nat.add_right_comm]
 rw[e,if_pos hi]
theorem acA(hs:s<2^i):(Ext n i s t∧t.testBit i=false)↔Ext n (i+1) s t:=⟨fun h=>h.1.low hs h.2,fun h=>⟨h.of_low,h.b0 hs⟩⟩
theorem LA(hs:s<2^i):(Ext n i s t∧t.testBit i=true)↔Ext n (i+1) (s|||2^i) t:=⟨fun h=>h.1.high hs h.2,fun h=>⟨h.of_high hs,h.b1⟩⟩
def exB(n i s:Nat)(tab:Nat→Bool)(c:Nat)(t:Nat):Bool:=decide (Ext n i s t)&&(tab t&&decide (pc n t=c))
theorem ahX:∀(m i s:Nat),i+m=n→s<2^i→∀k,(cL tab m i s).getD k 0=num n (exB n i s tab (pc n s+k)):=by
 intro m
 induction m with
 |zero=>
  intro i s hi hs k
  have hin:i=n:=by omega
  subst hin
  show [if tab s=true then 1 else 0].getD k 0=_
  by_cases hk:k=0∧tab s=true
  ·rw[hk.1,hk.2]
   refine(acz hs fun t ht=>?_).symm
   unfold exB
   rw[Bool.and_eq_true,Bool.and_eq_true,decide_eq_true_eq,decide_eq_true_eq]
   exact⟨fun h=>h.1.end_ hs,fun h=>by subst h;exact⟨wH hs (Nat.le_refl _),hk.2,rfl⟩⟩
  ·have e0:[if tab s=true then 1 else 0].getD k 0=0:=by
    cases k with
    |zero=>simp at hk;simp[hk]
    |succ k=>rfl
   rw[e0]
   refine(Lv fun t ht=>?_).symm
   rw[Bool.eq_false_iff]
   intro h
   unfold exB at h
   rw[Bool.and_eq_true,Bool.and_eq_true,decide_eq_true_eq,decide_eq_true_eq] at h
   have:=h.1.end_ hs
   subst this
   exact hk ⟨by omega,h.2.1⟩
 |succ m ih=>
  intro i s hi hs k
  have h0:=ih (i+1) s (by omega) (u7 hs)
  have h1:=ih (i+1) (s|||2^i) (by omega) (kI hs)
  rw[cL,tH (by simp[EG]),tJ,h0 k,Iu (p:=exB n i s tab (pc n s+k)) (fun t=>t.testBit i)]
  have e0:num n (fun t=>exB n i s tab (pc n s+k) t&& !t.testBit i)=num n (exB n (i+1) s tab (pc n s+k)):=lu fun t ht=>by
   unfold exB
   rw[Bool.eq_iff_iff]
   simp only[Bool.and_eq_true,decide_eq_true_eq,Bool.not_eq_true']
   rw[←acA hs]
   exact⟨fun h=>⟨⟨h.1.1,h.2⟩,h.1.2⟩,fun h=>⟨⟨h.1.1,h.2⟩,h.1.2⟩⟩
  rw[e0]
  congr 1
  cases k with
  |zero=>
   rw[List.getD_cons_zero]
   refine(Lv fun t ht=>?_).symm
   rw[Bool.eq_false_iff]
   intro h
   unfold exB at h
   simp only[Bool.and_eq_true,decide_eq_true_eq] at h
   -- s and server i lie within t: t has more
   have hx:=(LA hs).1 ⟨h.1.1,h.2⟩
   have hp:=aeJ (n:=n) (i:=i) (by omega) hs
   have hle:pc n (s|||2^i)≤pc n t:=by
    unfold pc
    have:∀N,((List.range N).filter fun j=>(s|||2^i).testBit j).length≤((List.range N).filter fun j=>t.testBit j).length:=by
     intro N
     induction N with
     |zero=>exact Nat.le_refl _
     |succ N ih=>
      rw[List.range_succ,List.filter_append,List.filter_append,List.length_append,List.length_append]
      have:(s|||2^i).testBit N=true→t.testBit N=true:=fun hb=>by
       by_cases hN:N<i+1
       ·rw[hx.2 N hN];exact hb
       ·rw[Nat.testBit_lt_two_pow (Nat.lt_of_lt_of_le (kI hs) (Nat.pow_le_pow_right (by omega) (by omega)))] at hb;cases hb
      rw[Bg,Bg]
      refine Nat.add_le_add ih ?_
      split
      ·rename_i hb;rw[if_pos (this hb)];exact Nat.le_refl _
      ·exact Nat.zero_le _
    exact this n
   omega
  |succ k=>
   rw[List.getD_cons_succ,h1 k,aeJ (n:=n) (i:=i) (by omega) hs]
   refine lu fun t ht=>?_
   unfold exB
   rw[Bool.eq_iff_iff]
   simp only[Bool.and_eq_true,decide_eq_true_eq]
   rw[←LA hs,show pc n s+1+k=pc n s+(k+1) by omega]
   exact⟨fun h=>⟨⟨h.1.1,h.2⟩,h.1.2⟩,fun h=>⟨⟨h.1.1,h.2⟩,h.1.2⟩⟩
theorem pc_0:pc n 0=0:=by unfold pc;rw[List.filter_eq_nil_iff.2 (fun i hi=>by simp)];rfl
theorem WS:(cL tab n 0 0).getD k 0=num n (fun t=>tab t&&decide (pc n t=k)):=by
 rw[ahX (n:=n) n 0 0 (by omega) (by decide),pc_0,Nat.zero_add]
 refine lu fun t ht=>?_
 unfold exB
 rw[decide_eq_true (ext0.2 ht),Bool.true_and]
end Go.Dg
namespace Go.Proofs.YtcbginhpibfgaaaGreatDoor
open Go Go.Sy Go.Bp Go.Dg
attribute [local irreducible] AO AL AC OpT ACall Ends DGo bK Thn Blk Nxt
variable {n N M T k i m r a b j w u v s q x y d:Nat} {z:Bool} {xs:List Nat} {e:Int} {p:Nat→Bool}
def fD(p:Nat→Bool)(T:Nat):List Bool:=(List.range T).map p
theorem bR:(fD p T).length=T:=by simp[fD]
theorem Qd(h:s<T):(fD p T).getD s false=p s:=by simp[fD,List.getD_eq_getElem?_getD,List.getElem?_range h]
end Go.Proofs.YtcbginhpibfgaaaGreatDoor
namespace Go.Proofs.YtcbginhpibfgaaaGreatDoor
open Go Go.Sy Go.Bp Go.Dg
theorem SI{m:Nat} {av:List AV}(h:dO Tryz.prog m 114 av):∃x:Fk,av=aa.cells x∧True:=by
 obtain⟨_,xs,rfl,hl,hx⟩:=jm Tryz.underlying114 h
 match xs,hl with
 |[a0,a1,a2],_=>
  obtain⟨b0,rfl,_⟩:=gT Tryz.underlying3 (hx 0 _ a0 rfl rfl)
  obtain⟨b1,rfl,_⟩:=gT Tryz.underlying3 (hx 1 _ a1 rfl rfl)
  obtain⟨b2,rfl,_⟩:=gT Tryz.underlying3 (hx 2 _ a2 rfl rfl)
  exact⟨⟨b0,b1,b2⟩,rfl,trivial⟩
theorem Og{m:Nat} {av:List AV}(h:dO Tryz.prog m 27 av):∃(z:Bool) (l:List Fk),av=[.isl z (cR l) l.length]∧l.length<2^44:=by
 obtain⟨n,rfl|⟨xs,rfl,h1,h2⟩⟩:=u6 Tryz.underlying27 h
 ·exact⟨true,[],rfl,by decide⟩
 ·obtain⟨l,k1,k2⟩:=JD (R:=fun x a=>x=aa.cells a∧True) xs (fun x hx'=>SI (h1 x hx').2)
  refine⟨false,l,?_,?_⟩
  ·rw[Dm (g:=aa.cells) xs l k1 (fun i x a hx ha=>(k2 i x a hx ha).1),k1];rfl
  ·have e:Tryz.prog.bytesOf 114=24:=by kernel_rfl
   rw[e] at h2
   rw[k1];unfold reachBytes at h2;omega
theorem lc{m:Nat} {av:List AV}(h:dO Tryz.prog m 29 av):∃(n:Int) (z:Bool) (l:List Fk) (r:Int),av=[.val (.int .i64 n),.isl z (cR l) l.length,.val (.int .i64 r)]∧l.length<2^44∧r<2^63:=by
 obtain⟨_,xs,rfl,hl,hx⟩:=jm Tryz.underlying29 h
 match xs,hl with
 |[a0,a1,a2],_=>
  obtain⟨b0,rfl,_⟩:=gT Tryz.underlying3 (hx 0 _ a0 rfl rfl)
  obtain⟨z,l,rfl,hl⟩:=Og (hx 1 _ a1 rfl rfl)
  obtain⟨b2,rfl,h2⟩:=gT Tryz.underlying3 (hx 2 _ a2 rfl rfl)
  have h2:=NU h2
  exact⟨b0,z,l,b2,rfl,hl,by omega⟩
end Go.Proofs.YtcbginhpibfgaaaGreatDoor
namespace Go.Rt
variable {p p' q:Nat→Rat} {g h:Nat→Rat} {n m k i j s t:Nat} {tab:Nat→Bool} {x y c:Rat}
theorem al_0:al p s 0=1:=rfl
end Go.Rt
namespace Go.Rt
variable {p p' q site:Nat→Rat} {g h:Nat→Rat} {n m k i j s t f:Nat} {tab:Nat→Bool} {x y c:Rat} {S:Nat→Nat→Bool}
theorem alg:tmF x c y k 0=x:=rfl
theorem adR(h:i≤k):tmF x c y k i=x*c^i:=by
 induction i with
 |zero=>rw[alg,Rat.pow_zero,Rat.mul_one]
 |succ i ih=>rw[YB (by omega),ih (by omega),Rat.pow_succ,Rat.mul_assoc]
theorem YD:tmF x c y k (k+i)=x*c^k*y^i:=by
 induction i with
 |zero=>rw[Nat.add_zero,adR (Nat.le_refl _),Rat.pow_zero,Rat.mul_one]
 |succ i ih=>rw[←Nat.add_assoc,YC (by omega),ih,Rat.pow_succ,Rat.mul_assoc]
theorem yP{l l':Nat→Int}(h:∀i,i<j→l i=l' i):atS l c n j=atS l' c n j:=by
 induction j with
 |zero=>rfl
 |succ j ih=>rw[IU,IU,ih fun i hi=>h i (by omega),h j (by omega)]
def fal(s:Nat):Nat→Nat
 |0=>0
 |i+1=>if s.testBit i=true then fal s i else fal s i+1
theorem Kg:fal s i≤i:=by
 induction i with
 |zero=>exact Nat.le_refl _
 |succ i ih=>unfold fal;split<;>omega
theorem ai1:al (fun _=>c) s i=c^fal s i*(1-c)^(i-fal s i):=by
 induction i with
 |zero=>rw[al_0];show(1:Rat)=c^0*(1-c)^0;rw[Rat.pow_zero,Rat.pow_zero,Rat.mul_one]
 |succ i ih=>
  have hle:=Kg (s:=s) (i:=i)
  by_cases h:s.testBit i=true
  ·rw[aiV h,ih]
   have e:fal s (i+1)=fal s i:=if_pos h
   rw[e,show i+1-fal s i=(i-fal s i)+1 by omega,Rat.pow_succ];grind
  ·have h2:s.testBit i=false:=by simpa using h
   rw[aiW h2,ih]
   have e:fal s (i+1)=fal s i+1:=if_neg h
   rw[e,show i+1-(fal s i+1)=i-fal s i by omega,Rat.pow_succ];grind
def cn(tab:Nat→Bool)(n j:Nat):Nat→Nat
 |0=>0
 |s+1=>if tab s=true∧fal s n=j then cn tab n j s+1 else cn tab n j s
theorem cn_1(h:tab s=true):cn tab n (fal s n) (s+1)=cn tab n (fal s n) s+1:=if_pos ⟨h,rfl⟩
theorem adS(h:¬(tab s=true∧fal s n=j)):cn tab n j (s+1)=cn tab n j s:=if_neg h
theorem YE{l l':Nat→Int}(hk:k<j)(hjn:j≤n+1)(h1:l' k=l k+1)(h2:∀i,¬i=k→l' i=l i):atS l' c n j=atS l c n j+c^k*(1-c)^(n-k):=by
 induction j with
 |zero=>omega
 |succ j ih=>
  rw[IU,IU]
  by_cases e:j=k
  ·subst e
   have t:∀x:Rat,tmF x c (1-c) j n=x*c^j*(1-c)^(n-j):=fun x=>by
    have:=YD (x:=x) (c:=c) (y:=1-c) (k:=j) (i:=n-j)
    rw[show j+(n-j)=n by omega] at this;exact this
   rw[yP (l:=l') (l':=l) (fun i hi=>h2 i (by omega)),t,t,h1,Rat.intCast_add]
   show _+((l j:Rat)+((1:Int):Rat))*_*_=_
   rw[show((1:Int):Rat)=1 from rfl];grind
  ·rw[ih (by omega) (by omega),h2 j e];grind
theorem ali:∀s,atS (fun j=>(cn tab n j s:Int)) c n (n+1)=sB (fun _=>c) n tab s:=by
 intro s
 induction s with
 |zero=>
  rw[sB_0]
  have:∀j,atS (fun j=>((cn tab n j 0:Nat):Int)) c n j=0:=by
   intro j
   induction j with
   |zero=>rfl
   |succ j ih=>
    rw[IU,ih]
    have z:∀i,tmF (((0:Nat):Int):Rat) c (1-c) j i=0:=by
     intro i
     induction i with
     |zero=>rfl
     |succ i ih=>unfold tmF;split<;>rw[ih,Rat.zero_mul]
    show 0+tmF (((0:Nat):Int):Rat) c (1-c) j n=0
    rw[z,Rat.add_zero]
  exact this _
 |succ s ih=>
  by_cases h:tab s=true
  ·rw[adN h,←ih,ai1]
   exact YE (k:=fal s n) (by have:=Kg (s:=s) (i:=n);omega) (Nat.le_refl _) (by show((cn tab n (fal s n) (s+1):Nat):Int)=_;rw[cn_1 h];rfl) fun i hi=>by show((cn tab n i (s+1):Nat):Int)=_;rw[adS (fun hc=>hi hc.2.symm)]
  ·rw[adO (by simpa using h),←ih]
   exact yP fun i _=>by show((cn tab n i (s+1):Nat):Int)=_;rw[adS (fun hc=>h hc.1)]
theorem alj:atS (fun j=>(cn tab n j (2^n):Int)) c n (n+1)=Pr (fun _=>c) n tab:=by rw[ali,Yw]
end Go.Rt
namespace Go.Proofs.YtcbginhpibfgaaaGreatDoor
open Go Go.Sy Go.Dg
attribute [local irreducible] AO AL AC OpT ACall Ends DGo bK Thn Blk Nxt
variable {N N' N1 N2 T:Nat} {F F1 F2 G:List Fo} {L L':List Fk} {k k1 k2 k' i m s t a j r:Nat} {p q n v lo hi:Int} {z b:Bool} {x y:Fk}
def GL(n:Int)(L:List Fk)(r:Int):Int:=if r<2 then n else(L.getD (r.toNat-2) default).v
theorem O4(h:r<2):ACall Tryz.prog 99 [.agg [.val (.int .i64 n),.isl z (cR L) N,.val (.int .i64 q)],.val (.int .i64 r)] [] 0 (.val (.int .i64 n)) []:=by
 refine ak Tryz.func99 Tryz.ntmps99 rfl ?_
 repeat' (first|refine zqN ?_|refine aK ?_|refine aL ?_|(refine aM ?_ ?_<;>intro hc<;>try exact zqM))
 all_goals((refine Ends.mk2 zqI [] ?_;simp-dsimp(disch:=try exact vD) only[push_cast,simprocAttr,Tryz.f99];try exact zqF))
theorem O5(hN:L.length=N)(hN2:N<2^40)(hk:k<N):ACall Tryz.prog 99 [.agg [.val (.int .i64 n),.isl z (cR L) N,.val (.int .i64 q)],.val (.int .i64 ((k:Int)+1+1))] [] 0 (.val (.int .i64 (L.getD k default).v)) []:=by
 have zx1:¬(k:Int)+1+1<2:=by omega
 refine ak Tryz.func99 Tryz.ntmps99 rfl ?_
 have zx2:= @uG;have zx3:= @lU;repeat' (first|refine zqN ?_|refine bM ?_|refine bO ?_|(refine bP ?_ ?_<;>intro hc<;>try exact zqM))
 all_goals((refine Ends.mk2 zqI [] ?_;simp-dsimp(disch:=try exact vD) only[push_cast,simprocAttr,Tryz.f99];try exact zqF))
theorem O6(hN:L.length=N)(hN2:N<2^40){r:Int}(h0:0≤r)(hr:r<N+2):ACall Tryz.prog 99 [.agg [.val (.int .i64 n),.isl z (cR L) N,.val (.int .i64 q)],.val (.int .i64 r)] [] 0 (.val (.int .i64 (GL n L r))) []:=by
 obtain⟨c,rfl⟩:=Int.eq_ofNat_of_zero_le h0
 unfold GL
 by_cases h:c<2
 ·rw[if_pos (by omega)];exact O4 h
 ·rw[if_neg (by omega)]
  obtain⟨k,rfl⟩:∃k,c=k+2:=⟨c-2,by omega⟩
  have:=O5 (z:=z) (n:=n) (q:=q) hN hN2 (show k<N by omega)
  have e:((k+2:Nat):Int)=(k:Int)+1+1:=by omega
  rw[show((k+2:Nat):Int).toNat-2=k by omega,e];exact this
structure OkI(n:Int)(L:List Fk)(i:Nat):Prop where
 v0:0≤(L.getD i default).v
 v1:(L.getD i default).v<n
 l0:0≤(L.getD i default).lo
 h0:0≤(L.getD i default).hi
 l1:(L.getD i default).lo<i+2
 h1:(L.getD i default).hi<i+2
 ne:¬(L.getD i default).lo=(L.getD i default).hi
 new:¬L.getD i default∈L.take i
 sl:(L.getD i default).v<GL n L (L.getD i default).lo
 sh:(L.getD i default).v<GL n L (L.getD i default).hi
def lZ(L:List Fk)(i:Nat):List (List Int×AV):=(L.take i).map fun f=>([f.v,f.lo,f.hi],.val (.bool true))
theorem seenL_pv:PV (lZ L i):=fun x hx=>by
 obtain⟨f,_,rfl⟩:=List.mem_map.1 hx
 exact⟨_,rfl⟩
theorem TL{τ:Nat→Nat}:((lZ L i).map fun x=>(x.1,ren τ x.2))=lZ L i:=seenL_pv.id fun v=>by simp[ren]
theorem TM{j:Nat}:(∀x∈lZ L i,bnd j x.2)=True:=seenL_pv.all fun v=>by simp[bnd]
attribute [push_cast] TL TM
theorem Bl:∀l:List Fk,cK (l.map fun f=>([f.v,f.lo,f.hi],AV.val (.bool true))) [x.v,x.lo,x.hi]=if x∈l then some (.val (.bool true)) else none:=by
 intro l
 induction l with
 |nil=>rfl
 |cons f l ih=>
  rw[List.map_cons]
  simp only[cK]
  by_cases e:f=x
  ·subst e;simp
  ·rw[if_neg (fun hc=>e (by cases f;cases x;simpa using hc)),ih]
   by_cases hm:x∈l
   ·rw[if_pos hm,if_pos (List.mem_cons_of_mem _ hm)]
   ·rw[if_neg hm,if_neg (fun h=>by
     rcases List.mem_cons.1 h with h|h
     ·exact e h.symm
     ·exact hm h)]
theorem adZ(h:i<L.length):L.take (i+1)=L.take i++[L.getD i default]:=by
 rw[List.take_add_one,List.getD_eq_getElem?_getD,List.getElem?_eq_getElem h];rfl
theorem TN(hi:i<L.length)(h:¬L.getD i default∈L.take i):mM (lZ L i) [(L.getD i default).v,(L.getD i default).lo,(L.getD i default).hi] (.val (.bool true))=lZ L (i+1):=by
 have e:cK (lZ L i) [(L.getD i default).v,(L.getD i default).lo,(L.getD i default).hi]=none:=by
  unfold lZ
  rw[Bl,if_neg h]
 rw[kU _ _ _ e]
 unfold lZ
 rw[adZ hi,List.map_append];rfl
theorem ad1:lZ L 0=[]:=rfl
def orJ(z:Bool)(n q:Int)(L:List Fk)(N:Nat)(i:{i:Nat // i≤N∧∀j,j<i→OkI n L j}):St:=
 ⟨80,0,[(1,.pt 0 0),(3,.mp 1),(8,.isl z (cR L) N),(9,.val (.int .i64 N)),(10,.val (.int .i64 i.val))],[(0,some (.cells [.val (.int .i64 n),.isl z (cR L) N,.val (.int .i64 q)] 29)),(1,some (.map true 3 (lZ L i.val)))]⟩
theorem Mr(hN:L.length=N)(hN2:N<2^40)(hn:n≤100)(hb:b=true↔∀j,j<N→OkI n L j):ACall Tryz.prog 107 [.agg [.val (.int .i64 n),.isl z (cR L) N,.val (.int .i64 q)]] [] 0 (.val (.bool b)) []:=by
 have hsv:=fun(r:Int) (h0:0≤r) (hr:r<N+2)=>PLift.up (O6 (z:=z) (n:=n) (q:=q) hN hN2 h0 hr)
 have hz:0≤N∧∀j,j<0→OkI n L j:=⟨Nat.zero_le _,fun j hj=>absurd hj (by omega)⟩
 have zx1:=ae;have zx2:=ae;have zx3:=ae
 have hput:=PLift.up (fun(i:Nat) (h:i<N)=>TN (L:=L) (i:=i) (by omega))
 refine ak Tryz.func107 Tryz.ntmps107 rfl ?_
 have zx4:= @lU;have zx5:= @ad1;have zx6:=aC;repeat' (first|(refine ai ?_;refine au [0,1] ([0,1].length) (orJ z n q L N) (fun i=>N-i.val) (⟨0,hz⟩) rfl (by unfold orJ;exact gY) ?_;(rintro⟨i,hi1,hok⟩;rcases Nat.lt_or_eq_of_le hi1 with hil|hil<;>first|(have ei:N=i:=hil.symm;subst ei;(simp-dsimp only[orJ];refine zqS ?_))|(obtain⟨x,zx3⟩:∃x,L.getD i default=x:=⟨_,rfl⟩;obtain⟨v,lo,hi⟩:=x;have hsa:=Bl (x:=⟨v,lo,hi⟩) (L.take i);rcases Decidable.em (⟨v,lo,hi⟩∈L.take i) with hm|hm<;>first|(rw[if_pos hm] at hsa;have zx1:cK (lZ L i) [v,lo,hi]=some (.val (.bool true)):=hsa;(simp-dsimp only[orJ];refine zqS ?_))|(rw[if_neg hm] at hsa;have zx1:cK (lZ L i) [v,lo,hi]=none:=hsa;have zx2:mM (lZ L i) [v,lo,hi] (.val (.bool true))=lZ L (i+1):=(by have:=hput.down i hil;rw[zx3] at this;exact this hm);(simp-dsimp only[orJ];refine zqS ?_)))))|(refine ax ?_;refine Nxt.mk [0,1] (⟨i+1,by omega,fun j hj=>by rcases Nat.lt_or_eq_of_le (Nat.le_of_lt_succ hj) with h|h;exact hok j h;rw[h];refine⟨?_,?_,?_,?_,?_,?_,?_,?_,?_,?_⟩<;>rw[zx3]<;>first|assumption|omega|(dsimp only;omega)⟩) rfl (by unfold orJ;exact gY) zqO)|refine zqN ?_|refine gG (hsv lo (by omega) (by omega)).down ?_|refine gG (hsv hi (by omega) (by omega)).down ?_|refine kE ?_|refine kF ?_|(refine kG ?_ ?_<;>intro hc<;>try exact zqM)|refine zqR 7 [⟨0,[],[62,63,65,66],[],[],0⟩,⟨1,[],[61,65,66],[],[],0⟩,⟨2,[1],[61,65,66],[],[],0⟩,⟨3,[0,1,2],[65,66],[],[],0⟩,⟨4,[],[61,62,63,64],[],[],0⟩,⟨5,[4],[61,62,63,64],[],[],0⟩,⟨6,[0,1,2,3,4,5],[],[],[],0⟩,⟨7,[0,1,2,3,4,5,6],[],[],[],0⟩,⟨8,[0,1,2,3,4,5,6,7],[70,71,73,74],[],[],0⟩,⟨9,[0,1,2,3,4,5,6,7],[69,73,74],[],[],0⟩,⟨10,[0,1,2,3,4,5,6,7,9],[69,73,74],[],[],0⟩,⟨11,[0,1,2,3,4,5,6,7,8,9,10],[73,74],[],[],0⟩,⟨12,[0,1,2,3,4,5,6,7],[69,70,71,72],[],[],0⟩,⟨13,[0,1,2,3,4,5,6,7,12],[69,70,71,72],[],[],0⟩,⟨14,[0,1,2,3,4,5,6,7,8,9,10,11,12,13],[],[],[],0⟩,⟨15,[0,1,2,3,4,5,6,7,8,9,10,11,12,13,14],[],[],[],0⟩] ?_|refine zqD ?_|fail)
 all_goals first
  |(have e:b=true:=hb.2 hok;rw[e];(refine Ends.mk2 zqI [] ?_;simp-dsimp(disch:=try exact vD) only[push_cast,simprocAttr,Tryz.f107];try exact zqF);done)
  |(have e:b=false:=(by rw[Bool.eq_false_iff];intro hc1;obtain⟨a1,a2,a3,a4,a5,a6,a7,a8,a9,a10⟩:=hb.1 hc1 i hil;rw[zx3] at a1 a2 a3 a4 a5 a6 a7 a8 a9 a10;dsimp only at a1 a2 a3 a4 a5 a6 a7 a9 a10;first|omega|exact a8 hm);rw[e];(refine Ends.mk2 zqI [] ?_;simp-dsimp(disch:=try exact vD) only[push_cast,simprocAttr,Tryz.f107];try exact zqF);done)
  |skip
def tof(x:Fk):Fo:=⟨x.v.toNat,x.lo.toNat,x.hi.toNat⟩
theorem ai2(h1:0≤x.v)(h2:0≤x.lo)(h3:0≤x.hi):fk (tof x)=x:=by
 cases x;simp only[fk,tof,Fk.mk.injEq] at*;omega
theorem YK(h:∀i,i<L.length→0≤(L.getD i default).v∧0≤(L.getD i default).lo∧0≤(L.getD i default).hi):(L.map tof).map fk=L:=by
 rw[List.map_map]
 conv=>rhs;rw[←List.map_id L]
 refine List.map_congr_left fun x hx=>?_
 obtain⟨i,hi,rfl⟩:=List.getElem_of_mem hx
 have:=h i hi
 rw[List.getD_eq_getElem?_getD,List.getElem?_eq_getElem hi] at this
 exact ai2 this.1 this.2.1 this.2.2
theorem fkL(h:k<F.length):(F.map fk).getD k default=fk (F.getD k default):=by
 simp[List.getD_eq_getElem?_getD,List.getElem?_eq_getElem h]
theorem O7{m:Nat}(h:r<F.length+2):GL m (F.map fk) r=(aP m F r:Nat):=by
 unfold GL aP
 by_cases h2:r<2
 ·rw[if_pos (by omega),if_pos h2]
 ·rw[if_neg (by omega),if_neg h2,show((r:Int).toNat-2)=r-2 by omega,fkL (by omega)];rfl
theorem YL{f:Fo} {l:List Fo}:fk f∈l.map fk↔f∈l:=by
 refine⟨fun h=>?_,fun h=>List.mem_map_of_mem h⟩
 obtain⟨g,hg,e⟩:=List.mem_map.1 h
 have:g=f:=by cases g;cases f;simp only[fk,Fk.mk.injEq] at e;simp only[Fo.mk.injEq];omega
 rw[←this];exact hg
theorem YM{m:Nat}(hg:Go.Dg.Good m F)(hi:i<F.length):OkI m (F.map fk) i:=by
 have ho:=hg.ok i hi
 have h1:=ho.lo;have h2:=ho.hi;have h3:=ho.v;have h4:=ho.ne;have h5:=ho.sl;have h6:=ho.sh
 have e:=fkL (F:=F) hi
 have e1:=O7 (F:=F) (m:=m) (r:=(F.getD i default).lo) (by omega)
 have e2:=O7 (F:=F) (m:=m) (r:=(F.getD i default).hi) (by omega)
 refine⟨?_,?_,?_,?_,?_,?_,?_,?_,?_,?_⟩<;>rw[e]
 ·show 0≤((F.getD i default).v:Int);omega
 ·show((F.getD i default).v:Int)<m;omega
 ·show 0≤((F.getD i default).lo:Int);omega
 ·show 0≤((F.getD i default).hi:Int);omega
 ·show((F.getD i default).lo:Int)<_;omega
 ·show((F.getD i default).hi:Int)<_;omega
 ·show¬((F.getD i default).lo:Int)=((F.getD i default).hi:Int);omega
 ·rw[←List.map_take,YL]
  intro hm
  obtain⟨j,hj,ej⟩:=List.getElem_of_mem hm
  have hj2:j<i∧j<F.length:=by rw[List.length_take] at hj;omega
  rw[List.getElem_take] at ej
  have e3:F.getD i default=F[i]:=by simp[List.getD_eq_getElem?_getD,hi]
  rw[e3] at ej
  have u1:=hg.nd.idxOf_getElem j hj2.2
  have u2:=hg.nd.idxOf_getElem i hi
  rw[ej,u2] at u1;omega
 ·show((F.getD i default).v:Int)<GL m (F.map fk) ((F.getD i default).lo:Int);rw[e1];omega
 ·show((F.getD i default).v:Int)<GL m (F.map fk) ((F.getD i default).hi:Int);rw[e2];omega
theorem YN{m:Nat}(h:∀i,i<F.length→OkI m (F.map fk) i):Go.Dg.Good m F:=by
 refine⟨fun k hk=>?_,?_⟩
 ·have o:=h k hk
  have e:=fkL (F:=F) hk
  have a1:=o.v1;have a2:=o.l1;have a3:=o.h1;have a4:=o.ne;have a5:=o.sl;have a6:=o.sh
  rw[e] at a1 a2 a3 a4 a5 a6
  have b1:((F.getD k default).v:Int)<m:=a1
  have b2:((F.getD k default).lo:Int)<k+2:=a2
  have b3:((F.getD k default).hi:Int)<k+2:=a3
  have b4:¬((F.getD k default).lo:Int)=((F.getD k default).hi:Int):=a4
  have b5:((F.getD k default).v:Int)<GL m (F.map fk) ((F.getD k default).lo:Int):=a5
  have b6:((F.getD k default).v:Int)<GL m (F.map fk) ((F.getD k default).hi:Int):=a6
  rw[O7 (by omega)] at b5 b6
  exact⟨by omega,by omega,by omega,by omega,by omega,by omega⟩
 ·rw[List.nodup_iff_pairwise_ne,List.pairwise_iff_getElem]
  intro i j hi hj hij e
  have o:=(h j hj).new
  rw[fkL hj,←List.map_take,YL] at o
  refine o ?_
  have e3:F.getD j default=F[j]:=by simp[List.getD_eq_getElem?_getD,hj]
  rw[e3,←e]
  have:F[i]=(F.take j)[i]'(by rw[List.length_take];omega):=by rw[List.getElem_take]
  rw[this];exact List.getElem_mem _
end Go.Proofs.YtcbginhpibfgaaaGreatDoor
namespace Go.Proofs.YtcbginhpibfgaaaGreatDoor
open Go Go.Sy Go.Dg
attribute [local irreducible] AO AL AC OpT ACall Ends DGo bK Thn Blk Nxt
variable {N N' M T:Nat} {F G:List Fo} {L L':List Fk} {k i m s t a j R:Nat} {p q n r e n' r' o:Int} {z z' b nb:Bool} {x y:Fk}
theorem Kh(h:n<0∨12<n):ACall Tryz.prog 72 [dI z n L N r] [] 0 (.val (.int .i64 7)) []:=by
 unfold dI
 rcases h with h|h
 all_goals(refine ak Tryz.func72 Tryz.ntmps72 rfl ?_)
 all_goals repeat' (first|refine zqN ?_|refine aK ?_|refine aL ?_|(refine aM ?_ ?_<;>intro hc<;>try exact zqM))
 all_goals first
  |((refine Ends.mk2 zqI [] ?_;simp-dsimp(disch:=try exact vD) only[push_cast,simprocAttr,Tryz.f72];try exact zqF);done)
  |skip
theorem Ms(h0:0≤n)(h12:n≤12)(hN:N≤765)(h:r<0∨1+(N:Int)<r∨(0<N∧0≤r∧r<1+(N:Int))):ACall Tryz.prog 72 [dI z n L N r] [] 0 (.val (.int .i64 1)) []:=by
 unfold dI
 rcases h with h|h|⟨h1,h2,h3⟩
 all_goals(refine ak Tryz.func72 Tryz.ntmps72 rfl ?_)
 all_goals repeat' (first|refine zqN ?_|refine aK ?_|refine aL ?_|(refine aM ?_ ?_<;>intro hc<;>try exact zqM))
 all_goals first
  |((refine Ends.mk2 zqI [] ?_;simp-dsimp(disch:=try exact vD) only[push_cast,simprocAttr,Tryz.f72];try exact zqF);done)
  |(exfalso;omega)
  |skip
theorem Mt(h0:0≤n)(h12:n≤12)(hN:N≤765)(hr:0≤r)(hr2:(N=0∧r≤1)∨(0<N∧r=1+(N:Int)))(ho:ACall Tryz.prog 107 [dI z n L N r] [] 0 (.val (.bool b)) [])
 (hnm:b=true→ACall Tryz.prog 108 [dI z n L N r] [] 0 (.val (.bool nb)) []):ACall Tryz.prog 72 [dI z n L N r] [] 0 (.val (.int .i64 (if b=true∧nb=true then 0 else 1))) []:=by
 have ho:=PLift.up ho
 unfold dI at*
 have hx:=ae;have hy:=ae
 cases b with
 |false=>
  clear hnm
  rcases hr2 with⟨hx1,hx2⟩|⟨hx1,hx2⟩
  ·subst hx1
   refine ak Tryz.func72 Tryz.ntmps72 rfl ?_
   repeat' (first|refine zqN ?_|refine az ho.down ?_|refine aK ?_|refine aL ?_|(refine aM ?_ ?_<;>intro hc<;>try exact zqM))
   all_goals first
    |((refine Ends.mk2 zqI [] ?_;simp-dsimp(disch:=try exact vD) only[push_cast,simprocAttr,Tryz.f72];try exact zqF);done)
    |(exfalso;omega)
    |skip
  ·subst hx2
   refine ak Tryz.func72 Tryz.ntmps72 rfl ?_
   repeat' (first|refine zqN ?_|refine az ho.down ?_|refine aK ?_|refine aL ?_|(refine aM ?_ ?_<;>intro hc<;>try exact zqM))
   all_goals first
    |((refine Ends.mk2 zqI [] ?_;simp-dsimp(disch:=try exact vD) only[push_cast,simprocAttr,Tryz.f72];try exact zqF);done)
    |(exfalso;omega)
    |skip
 |true=>
  have hnm:=PLift.up (hnm rfl)
  cases nb
  all_goals rcases hr2 with⟨hx1,hx2⟩|⟨hx1,hx2⟩
  all_goals first
   |(subst hx1)
   |(subst hx2)
  all_goals(refine ak Tryz.func72 Tryz.ntmps72 rfl ?_)
  all_goals repeat' (first|refine zqN ?_|refine az ho.down ?_|refine az hnm.down ?_|refine aK ?_|refine aL ?_|(refine aM ?_ ?_<;>intro hc<;>try exact zqM))
  all_goals first
   |((refine Ends.mk2 zqI [] ?_;simp-dsimp(disch:=try exact vD) only[push_cast,simprocAttr,Tryz.f72];try exact zqF);done)
   |(exfalso;omega)
   |skip
theorem YO(h:¬VOk m L r)(hN:L.length=N)(hm:m≤12)(hN2:N≤765):ACall Tryz.prog 72 [dI z m L N r] [] 0 (.val (.int .i64 1)) []:=by
 by_cases hr:r<0∨1+(N:Int)<r∨(0<N∧0≤r∧r<1+(N:Int))
 ·exact Ms (by omega) (by omega) hN2 hr
 ·have hr0:0≤r:=by omega
  obtain⟨R,rfl⟩:=Int.eq_ofNat_of_zero_le hr0
  have hr2:(N=0∧(R:Int)≤1)∨(0<N∧(R:Int)=1+(N:Int)):=by omega
  by_cases ho:∀j,j<N→OkI m L j
  ·have hL:(L.map tof).map fk=L:=YK fun i hi=>⟨(ho i (by omega)).v0,(ho i (by omega)).l0,(ho i (by omega)).h0⟩
   obtain⟨F,hF⟩:∃F,L.map tof=F:=⟨_,rfl⟩
   rw[hF] at hL
   have hFN:F.length=N:=by rw[←hF,List.length_map,hN]
   have hg:Go.Dg.Good m F:=YN fun i hi=>by rw[hL];exact ho i (by omega)
   have hb:=Mr (z:=z) (n:=m) (q:=R) (b:=true) hN (by omega) (by omega) ⟨fun _=>ho,fun _=>rfl⟩
   have hnm:=Be (z:=z) (n:=m) (r:=R) hg.bnd hFN (by omega) (by omega)
   have hw:=Mt (z:=z) (L:=L) (b:=true) (nb:=((fe F R R 2).1&&decide ((fe F R R 2).2=N+2))) (show(0:Int)≤m by omega) (by omega) hN2 hr0 hr2 hb (fun _=>by
    unfold dI;rw[←hL,gV];exact hnm)
   rw[if_neg] at hw
   ·exact hw
   ·rintro⟨_,hc⟩
    refine h ⟨F,R,hL.symm,rfl,⟨hg,by omega,?_,hm,by omega⟩⟩
    rw[Bool.and_eq_true,decide_eq_true_eq] at hc
    rw[Wt,if_pos hc.1,hc.2,hFN]
  ·have hb:=Mr (z:=z) (n:=m) (q:=R) (b:=false) hN (by omega) (by omega) ⟨fun h=>(by cases h),fun h=>absurd h ho⟩
   have hw:=Mt (z:=z) (L:=L) (b:=false) (nb:=false) (show(0:Int)≤m by omega) (by omega) hN2 hr0 hr2 hb (fun h=>by cases h)
   rw[if_neg (fun h=>by cases h.1)] at hw
   exact hw
theorem TP(hv:ACall Tryz.prog 72 [dI z n L N r] [] 0 (.val (.int .i64 e)) [])(hne:¬e=0):ACall Tryz.prog 62 [dI z n L N r] [] 0 (.tup [.isl true [] 0,.val (.int .i64 e)]) []:=by
 have hv:=PLift.up hv
 unfold dI at*
 refine ak Tryz.func62 Tryz.ntmps62 rfl ?_
 have zx1:= @hne;have zx2:=aC;have zx3:=aC;repeat' (first|refine zqN ?_|refine bE hv.down ?_|refine bM ?_|refine jT ?_|refine jU ?_|refine jV ?_|refine bO ?_|(refine bP ?_ ?_<;>intro hc<;>try exact zqM)|refine zqR 8 [⟨0,[],[31,32,35,36,37,38,39,40,41,42],[],[],0⟩,⟨1,[],[30,35,36,37,38,39,40,41,42],[],[],0⟩,⟨2,[1],[30,35,36,37,38,39,40,41,42],[],[],0⟩,⟨3,[0,1,2],[35,36,37,38,39,40,41,42],[],[],0⟩,⟨4,[0,1,2,3],[35,36,37,38,39,40,41,42],[],[],0⟩,⟨5,[],[30,31,32,33,34,36,37,39,40],[],[],0⟩,⟨6,[],[30,31,32,33,34,35,39,40],[],[],0⟩,⟨7,[6],[30,31,32,33,34,35,39,40],[],[],0⟩,⟨8,[5,6,7],[30,31,32,33,34,39,40],[],[],0⟩,⟨9,[],[30,31,32,33,34,35,36,37,38],[],[],0⟩,⟨10,[9],[30,31,32,33,34,35,36,37,38],[],[],0⟩,⟨11,[5,6,7,8,9,10],[30,31,32,33,34],[],[],0⟩,⟨12,[5,6,7,8,9,10,11],[30,31,32,33,34],[],[],0⟩,⟨13,[0,1,2,3,4,5,6,7,8,9,10,11,12],[],[],[],0⟩,⟨14,[0,1,2,3,4,5,6,7,8,9,10,11,12,13],[],[],[],0⟩] ?_|refine zqR 9 [⟨0,[],[45,46,49,50,51,52,53,54,55,56],[],[],0⟩,⟨1,[],[44,49,50,51,52,53,54,55,56],[],[],0⟩,⟨2,[1],[44,49,50,51,52,53,54,55,56],[],[],0⟩,⟨3,[0,1,2],[49,50,51,52,53,54,55,56],[],[],0⟩,⟨4,[0,1,2,3],[49,50,51,52,53,54,55,56],[],[],0⟩,⟨5,[],[44,45,46,47,48,50,51,53,54],[],[],0⟩,⟨6,[],[44,45,46,47,48,49,53,54],[],[],0⟩,⟨7,[6],[44,45,46,47,48,49,53,54],[],[],0⟩,⟨8,[5,6,7],[44,45,46,47,48,53,54],[],[],0⟩,⟨9,[],[44,45,46,47,48,49,50,51,52],[],[],0⟩,⟨10,[9],[44,45,46,47,48,49,50,51,52],[],[],0⟩,⟨11,[5,6,7,8,9,10],[44,45,46,47,48],[],[],0⟩,⟨12,[5,6,7,8,9,10,11],[44,45,46,47,48],[],[],0⟩,⟨13,[0,1,2,3,4,5,6,7,8,9,10,11,12],[],[],[],0⟩,⟨14,[0,1,2,3,4,5,6,7,8,9,10,11,12,13],[],[],[],0⟩] ?_|refine zqR 23 [⟨0,[],[102,103,106,107,108,109],[],[],0⟩,⟨1,[],[101,106,107,108,109],[],[],0⟩,⟨2,[1],[101,106,107,108,109],[],[],0⟩,⟨3,[0,1,2],[106,107,108,109],[],[],0⟩,⟨4,[0,1,2,3],[106,107,108,109],[],[],0⟩,⟨5,[],[101,102,103,104,105,107,108],[],[],0⟩,⟨6,[],[101,102,103,104,105,106],[],[],0⟩,⟨7,[6],[101,102,103,104,105,106],[],[],0⟩,⟨8,[5,6,7],[101,102,103,104,105],[],[],0⟩,⟨9,[0,1,2,3,4,5,6,7,8],[],[],[],0⟩,⟨10,[0,1,2,3,4,5,6,7,8,9],[],[],[],0⟩,⟨11,[0,1,2,3,4,5,6,7,8,9,10],[],[],[],0⟩] ?_|refine zqD ?_|fail)
 all_goals first
  |((refine Ends.mk2 zqI [] ?_;simp-dsimp(disch:=try exact vD) only[push_cast,simprocAttr,Tryz.f62];try exact zqF);done)
  |skip
