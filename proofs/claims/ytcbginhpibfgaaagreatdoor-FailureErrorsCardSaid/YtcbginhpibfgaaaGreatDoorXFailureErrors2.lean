/- Fb1 Di24 Fb2 Fa5 Fb3 Fb5 Fc1 Fc4 LawEC FailArgs. No condition. -/
import Derived.Test.YtcbginhpibfgaaaGreatDoorXFailureErrors1
import Derived.Test.YtcbginhpibfgaaaGreatDoorFDoor
import Derived.Test.YtcbginhpibfgaaaGreatDoorFcG1
import Derived.Test.YtcbginhpibfgaaaGreatDoorLawD1
set_option linter.all false
set_option maxHeartbeats 4000000
set_option maxRecDepth 20000
namespace Go.Proofs.YtcbginhpibfgaaaGreatDoor
section
open Go Go.Sy Go.Lm Go.Rt Go.Dg
attribute [local irreducible] AO AL AC OpT ACall Ends DGo bK Thn Blk Nxt
variable {n N np k i m j r T:Nat} {z z' zp:Bool} {ps xs:List RV} {L:List Fk} {X Y W:RV} {v c e e2 rt:Int} {p q:Rat}
def fpI(z:Bool)(xs:List RV)(n:Nat)(T:Nat)(j:{j:Nat // j≤T}):St:=
 ⟨19,0,[(0,.isl z (cR xs) n),(3,.val (.int .i64 j.val))],[]⟩
theorem Mx(hl:xs.length=n)(hn:n<2^40)(hX:∀i,i<n→RIn (xs.getD i default))(h0:∀i,i<n→pE (xs.getD i default)=0):ACall Tryz.prog 76 [.isl z (cR xs) n] [] 0 (.val (.int .i64 0)) []:=by
 have hp:=fun(i:Nat) (hi:i<n)=>PLift.up (by have:=rH (hX i hi);rw[h0 i hi] at this;exact this)
 clear h0 hX
 refine ak Tryz.func76 Tryz.ntmps76 rfl ?_
 repeat' (first|(refine ai ?_;refine au [] ([].length) (fpI z xs n n) (fun j=>n-j.val) (⟨0,Nat.zero_le _⟩) rfl (by unfold fpI;exact mO) ?_;(rintro⟨j,hj⟩;rcases Nat.lt_or_eq_of_le hj with hjl|hjl<;>first|(subst hjl;(simp-dsimp only[fpI];refine zqS ?_))|(simp-dsimp only[fpI];refine zqS ?_)))|(refine ax ?_;refine Nxt.mk [] (⟨j+1,by omega⟩) rfl (by unfold fpI;exact mO) zqO)|refine zqN ?_|refine az (hp j hjl).down ?_|refine aK ?_|refine aL ?_|(refine aM ?_ ?_<;>intro hc<;>try exact zqM))
 all_goals first
  |((refine Ends.mk2 zqI [] ?_;simp-dsimp(disch:=try exact vD) only[push_cast,simprocAttr,Tryz.f76];try exact zqF);done)
  |skip
theorem YR(hl:xs.length=n)(hn:n<2^40)(hT:T<n)(hX:∀i,i<n→RIn (xs.getD i default))(h0:∀i,i<T→pE (xs.getD i default)=0)(he:pE (xs.getD T default)=e)(hne:¬e=0):ACall Tryz.prog 76 [.isl z (cR xs) n] [] 0 (.val (.int .i64 e)) []:=by
 have hp:=fun(i:Nat) (hi:i<T)=>PLift.up (by have:=rH (hX i (by omega));rw[h0 i hi] at this;exact this)
 have hp2:=PLift.up (by have:=rH (hX T hT);rw[he] at this;exact this)
 clear h0 hX he
 refine ak Tryz.func76 Tryz.ntmps76 rfl ?_
 have zx1:= @hne;have zx2:=aC;have zx3:=aC;repeat' (first|(refine ai ?_;refine au [] ([].length) (fpI z xs n T) (fun j=>n-j.val) (⟨0,Nat.zero_le _⟩) rfl (by unfold fpI;exact eQ) ?_;(rintro⟨j,hj⟩;rcases Nat.lt_or_eq_of_le hj with hjl|hjl<;>first|(subst hjl;have hpj:=hp2;(simp-dsimp only[fpI];refine zqS ?_))|(have hpj:=hp j hjl;(simp-dsimp only[fpI];refine zqS ?_))))|(refine ax ?_;refine Nxt.mk [] (⟨j+1,by omega⟩) rfl (by unfold fpI;exact eQ) zqO)|refine zqN ?_|refine bE hpj.down ?_|refine bM ?_|refine bO ?_|(refine bP ?_ ?_<;>intro hc<;>try exact zqM))
 all_goals first
  |((refine Ends.mk2 zqI [] ?_;simp-dsimp(disch:=try exact vD) only[push_cast,simprocAttr,Tryz.f76];try exact zqF);done)
  |skip
theorem IY(hl:xs.length=n)(hn:n<2^40)(hX:∀i,i<n→RIn (xs.getD i default)):ACall Tryz.prog 76 [.isl z (cR xs) n] [] 0 (.val (.int .i64 (psE xs))) []:=by
 rcases Mm (xs:=xs) with h|⟨j,h1,h2,h3⟩
 ·rw[Yt h]
  exact Mx hl hn hX (by rw[←hl];exact h)
 ·rw[Yu h1 h2 h3]
  exact YR hl hn (by omega) hX h2 rfl h3
theorem ai6(hv:ACall Tryz.prog 50 [dI z rt L N e2] [] 0 (.val (.int .i64 e)) [])(hne:¬e=0):ACall Tryz.prog 46 [dI z rt L N e2,.isl zp (cR ps) np] [] 0 (.val (.int .i64 e)) []:=by
 have hv:=PLift.up hv
 unfold dI at*
 refine ak Tryz.func46 Tryz.ntmps46 rfl ?_
 have zx1:= @hne;have zx2:=aC;have zx3:=aC;repeat' (first|refine zqN ?_|refine bE hv.down ?_|refine bM ?_|refine bO ?_|(refine bP ?_ ?_<;>intro hc<;>try exact zqM))
 all_goals first
  |((refine Ends.mk2 zqI [] ?_;simp-dsimp(disch:=try exact vD) only[push_cast,simprocAttr,Tryz.f46];try exact zqF);done)
  |skip
theorem QX(hv:ACall Tryz.prog 50 [dI z rt L N e2] [] 0 (.val (.int .i64 0)) [])(hne:¬(np:Int)=rt):ACall Tryz.prog 46 [dI z rt L N e2,.isl zp (cR ps) np] [] 0 (.val (.int .i64 6)) []:=by
 have hv:=PLift.up hv
 unfold dI at*
 refine ak Tryz.func46 Tryz.ntmps46 rfl ?_
 have zx1:= @hne;have zx2:=aC;have zx3:=aC;repeat' (first|refine zqN ?_|refine bE hv.down ?_|refine bM ?_|refine bO ?_|(refine bP ?_ ?_<;>intro hc<;>try exact zqM))
 all_goals first
  |((refine Ends.mk2 zqI [] ?_;simp-dsimp(disch:=try exact vD) only[push_cast,simprocAttr,Tryz.f46];try exact zqF);done)
  |skip
theorem Pd(hv:ACall Tryz.prog 50 [dI z np L N e2] [] 0 (.val (.int .i64 0)) [])(hp:ACall Tryz.prog 76 [.isl zp (cR ps) np] [] 0 (.val (.int .i64 e)) []):ACall Tryz.prog 46 [dI z np L N e2,.isl zp (cR ps) np] [] 0 (.val (.int .i64 e)) []:=by
 have hv:=PLift.up hv;have hp:=PLift.up hp
 unfold dI at*
 refine ak Tryz.func46 Tryz.ntmps46 rfl ?_
 repeat' (first|refine zqN ?_|refine az hv.down ?_|refine az hp.down ?_|refine aK ?_|refine aL ?_|(refine aM ?_ ?_<;>intro hc<;>try exact zqM))
 all_goals first
  |((refine Ends.mk2 zqI [] ?_;simp-dsimp(disch:=try exact vD) only[push_cast,simprocAttr,Tryz.f46];try exact zqF);done)
  |skip
end
section
open Go Go.Sy Go.Bp Go.Dg
attribute [local irreducible] AO AL AC OpT ACall Ends DGo bK Thn Blk Nxt
variable {n N M T k i m r a b j w u v s q x y d:Nat} {z:Bool} {F:List Fo} {p f g:Nat→Bool}
theorem vE(h:s<T):(fD p T).getD s default=p s:=Qd h
theorem Pe:fD p s++[p s]=fD p (s+1):=by unfold fD;rw[List.range_succ];simp
end
section
open Go Go.Sy Go.Lm Go.Rt Go.Dg
attribute [local irreducible] AO AL AC OpT ACall Ends DGo bK Thn Blk Nxt
section
variable {n N np k i m j r s T sv:Nat} {z z' zp zt:Bool} {ps xs:List RV} {L:List Fk} {F:List Fo} {X Y W ONE:RV} {A D S:Nat→RV} {v c e e2 rt:Int} {p:Nat→Rat} {tb:List Bool} {tab:Nat→Bool} {d:Nat→Nat}
theorem YS(h:i≤16):Int.fdiv (s:Int) (2^min i (IntKind.bits .i64))=sN s i:=by
 rw[show IntKind.bits .i64=64 from rfl,Nat.min_eq_left (by omega),Int.fdiv_eq_ediv_of_nonneg _ (Int.le_of_lt (Int.pow_pos (by decide)))]
 unfold sN
 rw[Nat.shiftRight_eq_div_pow,Int.natCast_ediv,Int.natCast_pow];rfl
theorem YT(hs:s<65536):IntKind.wrap .i64 ((BitVec.ofInt (IntKind.bits .i64) (sN s i)&&&BitVec.ofInt (IntKind.bits .i64) (1:Int)).toNat:Int)=bN s i:=by
 have hl:=VW (i:=i) hs
 unfold sN bN
 generalize s>>>i=w at*
 have e1:(BitVec.ofInt (IntKind.bits .i64) ((w:Nat):Int)).toNat=w:=by
  show(BitVec.ofInt 64 _).toNat=_
  rw[BitVec.toNat_ofInt];omega
 have e2:(BitVec.ofInt (IntKind.bits .i64) (1:Int)).toNat=1:=rfl
 rw[BitVec.toNat_and,e1,e2]
 have:w&&&1≤1:=Nat.and_le_right
 exact K8 (by omega)
abbrev zQ:List AV:=[.val (.bool false),.isl true [] 0,.val (.bool false),.isl true [] 0]
def alI(zp:Bool)(ps:List RV)(n s:Nat)(A:Nat→RV)(i:{i:Nat // i≤n}):St:=
 ⟨34,0,[(0,.val (.int .i64 s)),(1,.isl zp (cR ps) n),(4,.pt 0 0),(5,.pt 1 0),(6,.val (.int .i64 i.val))],[(0,some (.cells zQ 37)),(1,some (.cells (aa.cells (A i.val)) 37))]⟩
theorem ad6(hl:ps.length=n)(hn:n≤16)(hs:s<65536)(h0:ACall Tryz.prog 69 [.val (.int .i64 1)] [] 0 (.agg (aa.cells (A 0))) [])
 (hs1:∀i,i<n→ACall Tryz.prog 55 [.agg (aa.cells (A 0)),.agg (aa.cells (ps.getD i default))] [] 0 (.agg (aa.cells (D i))) [])
 (hm1:∀i,i<n→s.testBit i=true→ACall Tryz.prog 70 [.agg (aa.cells (A i)),.agg (aa.cells (D i))] [] 0 (.agg (aa.cells (A (i+1)))) [])
 (hm0:∀i,i<n→s.testBit i=false→ACall Tryz.prog 70 [.agg (aa.cells (A i)),.agg (aa.cells (ps.getD i default))] [] 0 (.agg (aa.cells (A (i+1)))) []):
 ACall Tryz.prog 77 [.val (.int .i64 s),.isl zp (cR ps) n] [] 0 (.agg (aa.cells (A n))) []:=by
 have g0:=PLift.up h0;have hs1:=PLift.up hs1;have hm1:=PLift.up hm1;have hm0:=PLift.up hm0
 clear h0
 have zx1:=ae;have zx2:=ae
 have zx3:=fun(i:Nat)=>YT (i:=i) hs
 refine ak Tryz.func77 Tryz.ntmps77 rfl ?_
 repeat' (first|(refine ai ?_;refine au [0,1] ([0,1].length) (alI zp ps n s A) (fun i=>n-i.val) (⟨0,Nat.zero_le _⟩) rfl (by unfold alI;exact eQ) ?_;(rintro⟨i,hi⟩;rcases Nat.lt_or_eq_of_le hi with hil|hil<;>first|(subst hil;(simp-dsimp only[alI];refine zqS ?_))|(have zx2:=YS (s:=s) (i:=i) (by omega);rcases Bool.eq_false_or_eq_true (s.testBit i) with zx1|zx1<;>(simp-dsimp only[alI];refine zqS ?_))))|(refine ax ?_;refine Nxt.mk [0,1] (⟨i+1,by omega⟩) rfl (by unfold alI;exact eQ) zqO)|refine zqN ?_|refine bE g0.down ?_|refine bE (hs1.down i hil) ?_|refine bE (hm1.down i hil zx1) ?_|refine bE (hm0.down i hil zx1) ?_|refine bM ?_|refine bO ?_|(refine bP ?_ ?_<;>intro hc<;>try exact zqM)|refine zqR 6 [⟨0,[],[20,21,22,23,24,25],[],[],0⟩,⟨1,[],[19,21,22,23,24],[],[],0⟩,⟨2,[],[19,20,22],[],[],0⟩,⟨3,[],[19,20,21],[],[],0⟩,⟨4,[2,3],[19,20],[],[],0⟩,⟨5,[2,3,4],[19,20],[],[],0⟩,⟨6,[1,2,3,4,5],[19],[],[],0⟩,⟨7,[0,1,2,3,4,5,6],[],[],[],0⟩,⟨8,[0,1,2,3,4,5,6,7],[],[],[4],0⟩] ?_|refine zqR 7 [⟨0,[],[28,29,30,31],[],[],0⟩,⟨1,[],[27,29],[],[],0⟩,⟨2,[],[27,28],[],[],0⟩,⟨3,[1,2],[27],[],[],0⟩,⟨4,[1,2,3],[27],[],[],0⟩,⟨5,[0,1,2,3,4],[],[],[],0⟩,⟨6,[0,1,2,3,4,5],[],[],[4],0⟩] ?_|refine zqD ?_|fail)
 all_goals first
  |((refine Ends.mk2 zqI [] ?_;simp-dsimp(disch:=try exact vD) only[push_cast,simprocAttr,Tryz.f77];try exact zqF);done)
  |skip
theorem QY(h:Cs p d n)(hn:n≤12)(hi:i≤n):Sm (al p s i):=by
 have hb:=YF (s:=s) h hi
 have e:2^i≤2^12:=Nat.pow_le_pow_right (by omega) (by omega)
 exact h.sm hn (i:=0) (k:=i) (by omega) hb (by have:(2:Nat)^12≤10^60:=by decide
                                               omega)
theorem MB(hl:ps.length=n)(hn:n≤12)(hs:s<65536)(hC:Cs p d n)(hP:Ps ps p n):ACall Tryz.prog 77 [.val (.int .i64 s),.isl zp (cR ps) n] [] 0 (.agg (aa.cells (rC (al p s n)))) []:=by
 refine ad6 (A:=fun i=>rC (al p s i)) (D:=fun i=>rC (1-p i)) hl (by omega) hs ?_ (fun i hi=>?_) (fun i hi hb=>?_) (fun i hi hb=>?_)
 ·exact IX
 ·obtain⟨zi,ei,hsi⟩:=hP i hi
  rw[ei];exact DK IM hsi
 ·have a:=QY (s:=s) hC hn (show i≤n by omega)
  have b:=O9 hC hi
  show ACall _ _ _ _ _ (.agg (aa.cells (rC (al p s (i+1))))) _
  rw[aiV hb]
  have:=w9 (cu a) (cu b)
  rw[←eF,←eF] at this;exact this
 ·obtain⟨zi,ei,hsi⟩:=hP i hi
  have a:=QY (s:=s) hC hn (show i≤n by omega)
  show ACall _ _ _ _ _ (.agg (aa.cells (rC (al p s (i+1))))) _
  rw[aiW hb,ei]
  have:=w9 (cu a) hsi
  rw[←eF] at this;exact this
def smI(zt zp:Bool)(tb:List Bool)(T:Nat)(ps:List RV)(n:Nat)(S:Nat→RV)(s:{s:Nat // s≤T}):St:=
 ⟨24,0,[(0,.isl zt (cB tb) T),(1,.isl zp (cR ps) n),(4,.pt 0 0),(5,.pt 1 0),(6,.val (.int .i64 s.val))],[(0,some (.cells zQ 37)),(1,some (.cells (aa.cells (S s.val)) 37))]⟩
theorem aln(hl:tb.length=T)(hT:T<2^40)(h0:ACall Tryz.prog 69 [.val (.int .i64 0)] [] 0 (.agg (aa.cells (S 0))) [])
 (ha:∀s,s<T→ACall Tryz.prog 77 [.val (.int .i64 s),.isl zp (cR ps) n] [] 0 (.agg (aa.cells (A s))) [])
 (hd:∀s,s<T→tb.getD s default=true→ACall Tryz.prog 71 [.agg (aa.cells (S s)),.agg (aa.cells (A s))] [] 0 (.agg (aa.cells (S (s+1)))) [])
 (hz:∀s,s<T→tb.getD s default=false→S (s+1)=S s):
 ACall Tryz.prog 47 [.isl zt (cB tb) T,.isl zp (cR ps) n] [] 0 (.agg (aa.cells (S T))) []:=by
 have g0:=PLift.up h0;have ha:=PLift.up ha;have hd:=PLift.up hd
 clear h0
 have zx1:=ae;have zx2:=ae
 refine ak Tryz.func47 Tryz.ntmps47 rfl ?_
 have zx3:=aC;repeat' (first|(refine ai ?_;refine au [0,1] ([0,1].length) (smI zt zp tb T ps n S) (fun s=>T-s.val) (⟨0,Nat.zero_le _⟩) rfl (by unfold smI;exact eQ) ?_;(rintro⟨s,hs⟩;rcases Nat.lt_or_eq_of_le hs with hsl|hsl<;>first|(subst hsl;(simp-dsimp only[smI];refine zqS ?_))|(rcases Bool.eq_false_or_eq_true (tb.getD s default) with zx1|zx1<;>first|(have zx2:=hz s hsl zx1;(simp-dsimp only[smI];refine zqS ?_))|(simp-dsimp only[smI];refine zqS ?_))))|(refine ax ?_;refine Nxt.mk [0,1] (⟨s+1,by omega⟩) rfl (by unfold smI;exact eQ) zqO)|refine zqN ?_|refine bE g0.down ?_|refine bE (ha.down s hsl) ?_|refine bE (hd.down s hsl zx1) ?_|refine bM ?_|refine bO ?_|(refine bP ?_ ?_<;>intro hc<;>try exact zqM)|refine zqR 6 [⟨0,[],[19,20,21],[],[],0⟩,⟨1,[],[18,20],[],[],0⟩,⟨2,[],[18,19],[],[],0⟩,⟨3,[1,2],[18],[],[],0⟩,⟨4,[0,1,2,3],[],[],[],0⟩,⟨5,[0,1,2,3,4],[],[],[4],0⟩] ?_|refine zqD ?_|fail)
 all_goals first
  |((refine Ends.mk2 zqI [] ?_;simp-dsimp(disch:=try exact vD) only[push_cast,simprocAttr,Tryz.f47];try exact zqF);done)
  |skip
theorem vF(hps:ps.length=n)(hn:n≤12)(hC:Cs p d n)(hP:Ps ps p n):ACall Tryz.prog 47 [.isl zt (cB (fD tab (2^n))) (2^n),.isl zp (cR ps) n] [] 0 (.agg (aa.cells (rC (Pr p n tab)))) []:=by
 have e:2^n≤2^12:=Nat.pow_le_pow_right (by omega) hn
 rw[←Yw]
 refine aln (S:=fun s=>rC (sB p n tab s)) (A:=fun s=>rC (al p s n)) bR (by omega) Mw (fun s hs=>MB hps hn (by omega) hC hP) (fun s hs hb=>?_) (fun s hs hb=>?_)
 ·have a:=ae5 (tab:=tab) (s:=s) hC hn (by omega)
  have b:=QY (s:=s) hC hn (Nat.le_refl n)
  rw[vE hs] at hb
  show ACall _ _ _ _ _ (.agg (aa.cells (rC (sB p n tab (s+1))))) _
  rw[adN hb]
  have:=Kj (cu a) (cu b)
  rw[←eF,←eF] at this;exact this
 ·rw[vE hs] at hb
  show rC (sB p n tab (s+1))=rC (sB p n tab s)
  rw[adO hb]
end
section
variable {n N np k i m j r q lo hi sv:Nat} {z zp:Bool} {ps:List RV} {F:List Fo} {L:List Fk} {p:Nat→Rat} {W H M1 M2 M3 X V:RV} {rt e e2 v:Int} {d:Nat→Nat} {x:Rat}
theorem YV(hg:ACall Tryz.prog 43 [dI z rt L N e2,.isl zp (cR ps) np] [] 0 (.val (.int .i64 e)) [])(hne:¬e=0):ACall Tryz.prog 21 [dI z rt L N e2,.isl zp (cR ps) np,.val (.int .i64 v)] [] 0 (.tup [.agg (aa.cells rZ),.val (.int .i64 e)]) []:=by
 have hg:=PLift.up hg
 unfold dI at*
 have ez:aa.cells rZ=[.val (.bool false),.isl true [] 0,.val (.bool false),.isl true [] 0]:=rfl
 rw[ez]
 refine ak Tryz.func21 Tryz.ntmps21 rfl ?_
 have zx1:= @hne;have zx2:=aC;have zx3:=aC;repeat' (first|refine zqN ?_|refine bE hg.down ?_|refine bM ?_|refine bO ?_|(refine bP ?_ ?_<;>intro hc<;>try exact zqM)|refine zqR 9 [⟨0,[],[34,35,36,37,38],[2],[],0⟩,⟨1,[],[33,35,36,37],[2],[],0⟩,⟨2,[],[33,34,36,37],[2],[],0⟩,⟨3,[],[33,34,35],[],[],0⟩,⟨4,[3],[33,34,35],[],[2],0⟩,⟨5,[1,2,3,4],[33],[],[],0⟩,⟨6,[0,1,2,3,4,5],[],[],[],0⟩,⟨7,[0,1,2,3,4,5,6],[41],[],[],0⟩,⟨8,[0,1,2,3,4,5,6],[40],[],[],0⟩,⟨9,[0,1,2,3,4,5,6,7,8],[],[],[2],0⟩,⟨10,[0,1,2,3,4,5,6,7,8,9],[],[],[],0⟩] ?_|refine zqD ?_|fail)
 all_goals first
  |((refine Ends.mk2 zqI [] ?_;simp-dsimp(disch:=try exact vD) only[push_cast,simprocAttr,Tryz.f21];try exact zqF);done)
  |skip
theorem ai7(hg:ACall Tryz.prog 43 [dI z rt L N e2,.isl zp (cR ps) np] [] 0 (.val (.int .i64 0)) [])(hv:v<0∨rt≤v):ACall Tryz.prog 21 [dI z rt L N e2,.isl zp (cR ps) np,.val (.int .i64 v)] [] 0 (.tup [.agg (aa.cells rZ),.val (.int .i64 7)]) []:=by
 have hg:=PLift.up hg
 unfold dI at*
 have ez:aa.cells rZ=[.val (.bool false),.isl true [] 0,.val (.bool false),.isl true [] 0]:=rfl
 rw[ez]
 rcases Int.lt_or_le v 0 with hv0|hv0
 ·refine ak Tryz.func21 Tryz.ntmps21 rfl ?_
  repeat' (first|refine zqN ?_|refine az hg.down ?_|refine aK ?_|refine aL ?_|(refine aM ?_ ?_<;>intro hc<;>try exact zqM)|refine zqR 9 [⟨0,[],[34,35,36,37,38],[2],[],0⟩,⟨1,[],[33,35,36,37],[2],[],0⟩,⟨2,[],[33,34,36,37],[2],[],0⟩,⟨3,[],[33,34,35],[],[],0⟩,⟨4,[3],[33,34,35],[],[2],0⟩,⟨5,[1,2,3,4],[33],[],[],0⟩,⟨6,[0,1,2,3,4,5],[],[],[],0⟩,⟨7,[0,1,2,3,4,5,6],[41],[],[],0⟩,⟨8,[0,1,2,3,4,5,6],[40],[],[],0⟩,⟨9,[0,1,2,3,4,5,6,7,8],[],[],[2],0⟩,⟨10,[0,1,2,3,4,5,6,7,8,9],[],[],[],0⟩] ?_|refine zqD ?_|fail)
  all_goals first
   |((refine Ends.mk2 zqI [] ?_;simp-dsimp(disch:=try exact vD) only[push_cast,simprocAttr,Tryz.f21];try exact zqF);done)
   |skip
 ·have hv1:rt≤v:=by omega
  clear hv
  refine ak Tryz.func21 Tryz.ntmps21 rfl ?_
  repeat' (first|refine zqN ?_|refine az hg.down ?_|refine aK ?_|refine aL ?_|(refine aM ?_ ?_<;>intro hc<;>try exact zqM)|refine zqR 9 [⟨0,[],[34,35,36,37,38],[2],[],0⟩,⟨1,[],[33,35,36,37],[2],[],0⟩,⟨2,[],[33,34,36,37],[2],[],0⟩,⟨3,[],[33,34,35],[],[],0⟩,⟨4,[3],[33,34,35],[],[2],0⟩,⟨5,[1,2,3,4],[33],[],[],0⟩,⟨6,[0,1,2,3,4,5],[],[],[],0⟩,⟨7,[0,1,2,3,4,5,6],[41],[],[],0⟩,⟨8,[0,1,2,3,4,5,6],[40],[],[],0⟩,⟨9,[0,1,2,3,4,5,6,7,8],[],[],[2],0⟩,⟨10,[0,1,2,3,4,5,6,7,8,9],[],[],[],0⟩] ?_|refine zqD ?_|fail)
  all_goals first
   |((refine Ends.mk2 zqI [] ?_;simp-dsimp(disch:=try exact vD) only[push_cast,simprocAttr,Tryz.f21];try exact zqF);done)
   |skip
end
section
variable {n N np k i m j r s T sv:Nat} {z z' zp zt:Bool} {ps xs:List RV} {L:List Fk} {F:List Fo} {X Y W A B V:RV} {v c e e2 rt:Int} {p:Nat→Rat} {tab f:Nat→Bool}
def deI(T:Nat)(f:Nat→Bool)(s:{s:Nat // s≤T}):St:=
 ⟨23,0,[(3,kC s.val 0 1),(4,.isl false (cB (fD f T)) T),(5,.val (.int .i64 s.val))],kD s.val 0 (cB (fD (fun t=> !f t) s.val)) 4⟩
theorem MC:(cB (fD f T)).take T=cB (fD f T):=List.take_of_length_le (by rw[cB_len,bR];exact Nat.le_refl _)
theorem ai8(hT:0<T)(hT2:T<2^30)(h:ACall Tryz.prog 78 [dI z n L N rt] [] 0 (.isl false (cB (fD f T)) T) []):ACall Tryz.prog 48 [dI z n L N rt] [] 0 (.isl false (cB (fD (fun t=> !f t) T)) T) []:=by
 have hq:=PLift.up h
 clear h
 have zx3:=MC (f:=fun t=> !f t) (T:=T)
 have hlt:=bR (p:=f) (T:=T)
 have hlen:=fun(s:Nat)=>bR (p:=fun t=> !f t) (T:=s)
 have zx1:=ae;have hsn:=ae;have zx2:=ae
 unfold dI at*
 refine ak Tryz.func48 Tryz.ntmps48 rfl ?_
 have zx4:= @bR;have zx5:=aC;have zx6:=aC;repeat' (first|(refine ai ?_;refine au [9] ([9].length) (deI T f) (fun s=>T-s.val) (⟨0,Nat.zero_le _⟩) rfl (by unfold deI;exact gY) ?_;(rintro⟨s,hs⟩;rcases Nat.lt_or_eq_of_le hs with hsl|hsl<;>first|(subst hsl;(simp-dsimp only[deI];refine zqS ?_))|(have zx1:=vE (p:=f) hsl;have hsn:=Pe (p:=fun t=> !f t) (s:=s);have hls:=hlen s;(try dsimp only at hsn);rcases Bool.eq_false_or_eq_true (f s) with zx2|zx2<;>rw[zx2] at zx1 hsn<;>(try simp only[Bool.not_true,Bool.not_false] at hsn)<;>rcases Nat.eq_zero_or_pos s with j0|j0<;>first|(subst j0;have hsn:=congrArg cB hsn;have hsn:[AV.val (.bool _)]=cB (fD (fun t=> !f t) 1):=hsn;(simp-dsimp only[deI];refine zqS ?_))|(simp-dsimp only[deI];refine zqS ?_))))|(refine ax ?_;refine Nxt.mk [2] (⟨s+1,by omega⟩) rfl (by unfold deI;(try simp only[List.cons_append,List.nil_append]);refine Sub.mk2 ?_;(simp-dsimp(disch:=try exact vD) only[push_cast,simprocAttr,zx1,zx2,zx3,bR,hsn]);(repeat refine aI ?_);first|done|exact vI) zqO)|(refine ax ?_;refine Nxt.mk [1] (⟨s+1,by omega⟩) rfl (by unfold deI;(try simp only[List.cons_append,List.nil_append]);refine Sub.mk2 ?_;(simp-dsimp(disch:=try exact vD) only[push_cast,simprocAttr,zx1,zx2,zx3,bR,hsn]);(repeat refine aI ?_);first|done|exact vI) zqO)|(refine ax ?_;refine Nxt.mk [0] (⟨s+1,by omega⟩) rfl (by unfold deI;(try simp only[List.cons_append,List.nil_append]);refine Sub.mk2 ?_;(simp-dsimp(disch:=try exact vD) only[push_cast,simprocAttr,zx1,zx2,zx3,bR,hsn]);(repeat refine aI ?_);first|done|exact vI) zqO)|(refine ax ?_;refine Nxt.mk [2] (⟨1,by omega⟩) rfl (by unfold deI;(try simp only[List.cons_append,List.nil_append]);refine Sub.mk2 ?_;(simp-dsimp(disch:=try exact vD) only[push_cast,simprocAttr,zx1,zx2,zx3,bR,hsn]);(repeat refine aI ?_);first|done|exact vI) zqO)|(refine ax ?_;refine Nxt.mk [1] (⟨1,by omega⟩) rfl (by unfold deI;(try simp only[List.cons_append,List.nil_append]);refine Sub.mk2 ?_;(simp-dsimp(disch:=try exact vD) only[push_cast,simprocAttr,zx1,zx2,zx3,bR,hsn]);(repeat refine aI ?_);first|done|exact vI) zqO)|(refine ax ?_;refine Nxt.mk [0] (⟨1,by omega⟩) rfl (by unfold deI;(try simp only[List.cons_append,List.nil_append]);refine Sub.mk2 ?_;(simp-dsimp(disch:=try exact vD) only[push_cast,simprocAttr,zx1,zx2,zx3,bR,hsn]);(repeat refine aI ?_);first|done|exact vI) zqO)|refine zqN ?_|refine gG hq.down ?_|refine kE ?_|refine AX ?_|refine AY ?_|refine AZ ?_|refine kF ?_|(refine kG ?_ ?_<;>intro hc<;>try exact zqM))
 all_goals first
  |(((refine Ends.frz 0 ?_;simp-dsimp(disch:=try exact vD) only[push_cast,simprocAttr,Tryz.f48,zx3];(repeat refine aI ?_);intro K hK;refine hK _ _ ?_;clear hK K);refine Ends.mk2 zqI [] ?_;simp-dsimp(disch:=try exact vD) only[push_cast,simprocAttr,Tryz.f48,zx3];try exact zqF);done)
  |skip
theorem DL(hD:DOk n F r)(hN:F.length=N):ACall Tryz.prog 48 [dI z n (F.map fk) N r] [] 0 (.isl false (cB (fD (fun t=> !aG F t r) (2^n))) (2^n)) []:=by
 have h12:=hD.n12;have hf:=hD.few;have hlt:=hD.lt
 have e:2^n≤2^12:=Nat.pow_le_pow_right (by omega) h12
 have h:=yB (z:=z) (r:=r) (by omega) hD.bnd hD.v16 hN (by omega) (by omega) (rfl:2^n=2^n)
 rw[show lT F r (2^n)=fD (fun t=>aG F t r) (2^n) from rfl,←gV] at h
 exact ai8 (Nat.two_pow_pos n) (by omega) h
theorem Pf(hl:ps.length=n)(hn:n≤1000)(hs:sv<n)(hnm:ACall Tryz.prog 69 [.val (.int .i64 v)] [] 0 (.agg (aa.cells X)) []):ACall Tryz.prog 56 [.isl zp (cR ps) n,.val (.int .i64 sv),.val (.int .i64 v)] [] 0 (.isl false (cR (ps.set sv X)) n) []:=by
 have hnm:=PLift.up hnm
 have zx1:=QZ (X:=X) (ps:=ps) (sv:=sv) (by omega)
 have hln:(ps.set sv X).length=n:=by rw[List.length_set];exact hl
 have zx2:(cR (ps.set sv X)).take (n*4)=cR (ps.set sv X):=List.take_of_length_le (by rw[lM,hln];exact Nat.le_refl _)
 refine ak Tryz.func56 Tryz.ntmps56 rfl ?_
 have zx3:=aC;repeat' (first|refine zqN ?_|refine bE hnm.down ?_|refine bM ?_|refine jT ?_|refine jU ?_|refine jV ?_|refine bO ?_|(refine bP ?_ ?_<;>intro hc<;>try exact zqM))
 all_goals first
  |(((refine Ends.frz 1 ?_;simp-dsimp(disch:=try exact vD) only[push_cast,simprocAttr,Tryz.f56,zx2];(repeat refine aI ?_);intro K hK;refine hK _ _ ?_;clear hK K);refine Ends.mk2 zqI [] ?_;simp-dsimp(disch:=try exact vD) only[push_cast,simprocAttr,Tryz.f56,zx2];try exact zqF);done)
  |skip
theorem YY(hg:ACall Tryz.prog 46 [dI z rt L N e2,.isl zp (cR ps) np] [] 0 (.val (.int .i64 e)) [])(hne:¬e=0):ACall Tryz.prog 16 [dI z rt L N e2,.isl zp (cR ps) np] [] 0 (.tup [.agg (aa.cells rZ),.val (.int .i64 e)]) []:=by
 have hg:=PLift.up hg
 unfold dI at*
 have ez:aa.cells rZ=[.val (.bool false),.isl true [] 0,.val (.bool false),.isl true [] 0]:=rfl
 rw[ez]
 refine ak Tryz.func16 Tryz.ntmps16 rfl ?_
 have zx1:= @hne;have zx2:=aC;have zx3:=aC;repeat' (first|refine zqN ?_|refine bE hg.down ?_|refine bM ?_|refine bO ?_|(refine bP ?_ ?_<;>intro hc<;>try exact zqM))
 all_goals first
  |((refine Ends.mk2 zqI [] ?_;simp-dsimp(disch:=try exact vD) only[push_cast,simprocAttr,Tryz.f16];try exact zqF);done)
  |skip
theorem alp(hg:ACall Tryz.prog 46 [dI z rt L N e2,.isl zp (cR ps) np] [] 0 (.val (.int .i64 0)) [])(hd:ACall Tryz.prog 48 [dI z rt L N e2] [] 0 (.isl false (cB (fD f T)) T) [])(hs:ACall Tryz.prog 47 [.isl false (cB (fD f T)) T,.isl zp (cR ps) np] [] 0 (.agg (aa.cells W)) []):ACall Tryz.prog 16 [dI z rt L N e2,.isl zp (cR ps) np] [] 0 (.tup [.agg (aa.cells W),.val (.int .i64 0)]) []:=by
 have hg:=PLift.up hg;have hd:=PLift.up hd;have hs:=PLift.up hs
 unfold dI at*
 refine ak Tryz.func16 Tryz.ntmps16 rfl ?_
 repeat' (first|refine zqN ?_|refine az hg.down ?_|refine az hd.down ?_|refine az hs.down ?_|refine aK ?_|refine aL ?_|(refine aM ?_ ?_<;>intro hc<;>try exact zqM))
 all_goals first
  |((refine Ends.mk2 zqI [] ?_;simp-dsimp(disch:=try exact vD) only[push_cast,simprocAttr,Tryz.f16];try exact zqF);done)
  |skip
theorem Pg(hg:ACall Tryz.prog 46 [dI z rt L N e2,.isl zp (cR ps) np] [] 0 (.val (.int .i64 e)) [])(hne:¬e=0):ACall Tryz.prog 22 [dI z rt L N e2,.isl zp (cR ps) np,.val (.int .i64 v)] [] 0 (.tup [.agg (aa.cells rZ),.val (.int .i64 e)]) []:=by
 have hg:=PLift.up hg
 unfold dI at*
 have ez:aa.cells rZ=[.val (.bool false),.isl true [] 0,.val (.bool false),.isl true [] 0]:=rfl
 rw[ez]
 refine ak Tryz.func22 Tryz.ntmps22 rfl ?_
 have zx1:= @hne;have zx2:=aC;have zx3:=aC;repeat' (first|refine zqN ?_|refine bE hg.down ?_|refine bM ?_|refine bO ?_|(refine bP ?_ ?_<;>intro hc<;>try exact zqM)|refine zqR 6 [⟨0,[],[27,28,31,33,34],[],[],0⟩,⟨1,[0],[27,28,31,33,34],[],[],0⟩,⟨2,[],[25,26,28,31,33,34],[],[],0⟩,⟨3,[],[25,26,27,31,33,34],[],[],0⟩,⟨4,[0,1,2,3],[31,33,34],[],[],0⟩,⟨5,[0,1,2,3,4],[31,33,34],[],[],0⟩,⟨6,[],[25,26,27,28,29,30,33,34],[],[],0⟩,⟨7,[0,1,2,3,4,5,6],[33,34],[],[],0⟩,⟨8,[],[25,26,27,28,29,30,31,32,34],[],[],0⟩,⟨9,[],[25,26,27,28,29,30,31,32,33],[],[],0⟩,⟨10,[0,1,2,3,4,5,6,7,8,9],[],[],[],0⟩,⟨11,[0,1,2,3,4,5,6,7,8,9,10],[],[],[],0⟩,⟨12,[0,1,2,3,4,5,6,7,8,9,10,11],[],[],[],0⟩,⟨13,[0,1,2,3,4,5,6,7,8,9,10,11,12],[],[],[2],0⟩,⟨14,[0,1,2,3,4,5,6,7,8,9,10,11,12,13],[],[],[],0⟩] ?_|refine zqD ?_|fail)
 all_goals first
  |((refine Ends.mk2 zqI [] ?_;simp-dsimp(disch:=try exact vD) only[push_cast,simprocAttr,Tryz.f22];try exact zqF);done)
  |skip
theorem ad7(hg:ACall Tryz.prog 46 [dI z rt L N e2,.isl zp (cR ps) np] [] 0 (.val (.int .i64 0)) [])(hv:v<0∨rt≤v):ACall Tryz.prog 22 [dI z rt L N e2,.isl zp (cR ps) np,.val (.int .i64 v)] [] 0 (.tup [.agg (aa.cells rZ),.val (.int .i64 7)]) []:=by
 have hg:=PLift.up hg
 unfold dI at*
 have ez:aa.cells rZ=[.val (.bool false),.isl true [] 0,.val (.bool false),.isl true [] 0]:=rfl
 rw[ez]
 rcases Int.lt_or_le v 0 with hv0|hv0
 ·refine ak Tryz.func22 Tryz.ntmps22 rfl ?_
  repeat' (first|refine zqN ?_|refine az hg.down ?_|refine aK ?_|refine aL ?_|(refine aM ?_ ?_<;>intro hc<;>try exact zqM)|refine zqR 6 [⟨0,[],[27,28,31,33,34],[],[],0⟩,⟨1,[0],[27,28,31,33,34],[],[],0⟩,⟨2,[],[25,26,28,31,33,34],[],[],0⟩,⟨3,[],[25,26,27,31,33,34],[],[],0⟩,⟨4,[0,1,2,3],[31,33,34],[],[],0⟩,⟨5,[0,1,2,3,4],[31,33,34],[],[],0⟩,⟨6,[],[25,26,27,28,29,30,33,34],[],[],0⟩,⟨7,[0,1,2,3,4,5,6],[33,34],[],[],0⟩,⟨8,[],[25,26,27,28,29,30,31,32,34],[],[],0⟩,⟨9,[],[25,26,27,28,29,30,31,32,33],[],[],0⟩,⟨10,[0,1,2,3,4,5,6,7,8,9],[],[],[],0⟩,⟨11,[0,1,2,3,4,5,6,7,8,9,10],[],[],[],0⟩,⟨12,[0,1,2,3,4,5,6,7,8,9,10,11],[],[],[],0⟩,⟨13,[0,1,2,3,4,5,6,7,8,9,10,11,12],[],[],[2],0⟩,⟨14,[0,1,2,3,4,5,6,7,8,9,10,11,12,13],[],[],[],0⟩] ?_|refine zqD ?_|fail)
  all_goals first
   |((refine Ends.mk2 zqI [] ?_;simp-dsimp(disch:=try exact vD) only[push_cast,simprocAttr,Tryz.f22];try exact zqF);done)
   |skip
 ·have hv1:rt≤v:=by omega
  clear hv
  refine ak Tryz.func22 Tryz.ntmps22 rfl ?_
  repeat' (first|refine zqN ?_|refine az hg.down ?_|refine aK ?_|refine aL ?_|(refine aM ?_ ?_<;>intro hc<;>try exact zqM)|refine zqR 6 [⟨0,[],[27,28,31,33,34],[],[],0⟩,⟨1,[0],[27,28,31,33,34],[],[],0⟩,⟨2,[],[25,26,28,31,33,34],[],[],0⟩,⟨3,[],[25,26,27,31,33,34],[],[],0⟩,⟨4,[0,1,2,3],[31,33,34],[],[],0⟩,⟨5,[0,1,2,3,4],[31,33,34],[],[],0⟩,⟨6,[],[25,26,27,28,29,30,33,34],[],[],0⟩,⟨7,[0,1,2,3,4,5,6],[33,34],[],[],0⟩,⟨8,[],[25,26,27,28,29,30,31,32,34],[],[],0⟩,⟨9,[],[25,26,27,28,29,30,31,32,33],[],[],0⟩,⟨10,[0,1,2,3,4,5,6,7,8,9],[],[],[],0⟩,⟨11,[0,1,2,3,4,5,6,7,8,9,10],[],[],[],0⟩,⟨12,[0,1,2,3,4,5,6,7,8,9,10,11],[],[],[],0⟩,⟨13,[0,1,2,3,4,5,6,7,8,9,10,11,12],[],[],[2],0⟩,⟨14,[0,1,2,3,4,5,6,7,8,9,10,11,12,13],[],[],[],0⟩] ?_|refine zqD ?_|fail)
  all_goals first
   |((refine Ends.mk2 zqI [] ?_;simp-dsimp(disch:=try exact vD) only[push_cast,simprocAttr,Tryz.f22];try exact zqF);done)
   |skip
theorem ai9{P1 P0:List RV}(hs:(sv:Int)<rt)(hg:ACall Tryz.prog 46 [dI z rt L N e2,.isl zp (cR ps) np] [] 0 (.val (.int .i64 0)) [])(hd:ACall Tryz.prog 48 [dI z rt L N e2] [] 0 (.isl false (cB (fD f T)) T) [])
 (w1:ACall Tryz.prog 56 [.isl zp (cR ps) np,.val (.int .i64 sv),.val (.int .i64 1)] [] 0 (.isl false (cR P1) np) []) (w0:ACall Tryz.prog 56 [.isl zp (cR ps) np,.val (.int .i64 sv),.val (.int .i64 0)] [] 0 (.isl false (cR P0) np) [])
 (s1:ACall Tryz.prog 47 [.isl false (cB (fD f T)) T,.isl false (cR P1) np] [] 0 (.agg (aa.cells A)) []) (s0:ACall Tryz.prog 47 [.isl false (cB (fD f T)) T,.isl false (cR P0) np] [] 0 (.agg (aa.cells B)) [])
 (hsb:ACall Tryz.prog 55 [.agg (aa.cells A),.agg (aa.cells B)] [] 0 (.agg (aa.cells W)) []):ACall Tryz.prog 22 [dI z rt L N e2,.isl zp (cR ps) np,.val (.int .i64 sv)] [] 0 (.tup [.agg (aa.cells W),.val (.int .i64 0)]) []:=by
 have hg:=PLift.up hg;have hd:=PLift.up hd;have w1:=PLift.up w1;have w0:=PLift.up w0;have s1:=PLift.up s1;have s0:=PLift.up s0;have hsb:=PLift.up hsb
 unfold dI at*
 refine ak Tryz.func22 Tryz.ntmps22 rfl ?_
 repeat' (first|refine zqN ?_|refine az hg.down ?_|refine az hd.down ?_|refine az w1.down ?_|refine az w0.down ?_|refine az s1.down ?_|refine az s0.down ?_|refine az hsb.down ?_|refine aK ?_|refine aL ?_|(refine aM ?_ ?_<;>intro hc<;>try exact zqM)|refine zqR 6 [⟨0,[],[27,28,31,33,34],[],[],0⟩,⟨1,[0],[27,28,31,33,34],[],[],0⟩,⟨2,[],[25,26,28,31,33,34],[],[],0⟩,⟨3,[],[25,26,27,31,33,34],[],[],0⟩,⟨4,[0,1,2,3],[31,33,34],[],[],0⟩,⟨5,[0,1,2,3,4],[31,33,34],[],[],0⟩,⟨6,[],[25,26,27,28,29,30,33,34],[],[],0⟩,⟨7,[0,1,2,3,4,5,6],[33,34],[],[],0⟩,⟨8,[],[25,26,27,28,29,30,31,32,34],[],[],0⟩,⟨9,[],[25,26,27,28,29,30,31,32,33],[],[],0⟩,⟨10,[0,1,2,3,4,5,6,7,8,9],[],[],[],0⟩,⟨11,[0,1,2,3,4,5,6,7,8,9,10],[],[],[],0⟩,⟨12,[0,1,2,3,4,5,6,7,8,9,10,11],[],[],[],0⟩,⟨13,[0,1,2,3,4,5,6,7,8,9,10,11,12],[],[],[2],0⟩,⟨14,[0,1,2,3,4,5,6,7,8,9,10,11,12,13],[],[],[],0⟩] ?_|refine zqD ?_|fail)
 all_goals first
  |((refine Ends.mk2 zqI [] ?_;simp-dsimp(disch:=try exact vD) only[push_cast,simprocAttr,Tryz.f22];try exact zqF);done)
  |skip
end
section
variable {n N k i m j r a b:Nat} {z z' zp:Bool} {ps xs:List RV} {L:List Fk} {X Y W ONE:RV} {D:Nat→RV} {B:Nat→Bool} {v c e rt nn:Int} {p:Nat→Rat}
def fwI(zp:Bool)(ps:List RV)(n T:Nat)(i:{i:Nat // i≤T}):St:=
 ⟨19,0,[(0,.isl zp (cR ps) n),(3,.val (.int .i64 i.val))],[]⟩
theorem als(hl:ps.length=n)(hn:n<2^47)(h:∀i,i<n→ACall Tryz.prog 51 [.agg (aa.cells (ps.getD i default)),.val (.int .i64 40)] [] 0 (.val (.bool true)) []):
 ACall Tryz.prog 19 [.isl zp (cR ps) n] [] 0 (.val (.bool (decide (n≤14)))) []:=by
 have h:=PLift.up h
 have zx1:((n:Int)≤14)=(n≤14):=propext (by omega)
 refine ak Tryz.func19 Tryz.ntmps19 rfl ?_
 have zx2:=aC;have zx3:=aC;repeat' (first|(refine ai ?_;refine au [] ([].length) (fwI zp ps n n) (fun i=>n-i.val) (⟨0,Nat.zero_le _⟩) rfl (by unfold fwI;exact eQ) ?_;(rintro⟨i,hi⟩;rcases Nat.lt_or_eq_of_le hi with hil|hil<;>first|(subst hil;(simp-dsimp only[fwI];refine zqS ?_))|(simp-dsimp only[fwI];refine zqS ?_)))|(refine ax ?_;refine Nxt.mk [] (⟨i+1,by omega⟩) rfl (by unfold fwI;exact eQ) zqO)|refine zqN ?_|refine bE (h.down i hil) ?_|refine bM ?_|refine bO ?_|(refine bP ?_ ?_<;>intro hc<;>try exact zqM))
 all_goals first
  |((refine Ends.mk2 zqI [] ?_;simp-dsimp(disch:=try exact vD) only[push_cast,simprocAttr,Tryz.f19,zx1];try exact zqF);done)
  |skip
theorem alu(hl:ps.length=n)(hn:n<2^47)(hk:k<n)(h:∀i,i<k→ACall Tryz.prog 51 [.agg (aa.cells (ps.getD i default)),.val (.int .i64 40)] [] 0 (.val (.bool true)) [])(hb:ACall Tryz.prog 51 [.agg (aa.cells (ps.getD k default)),.val (.int .i64 40)] [] 0 (.val (.bool false)) []):
 ACall Tryz.prog 19 [.isl zp (cR ps) n] [] 0 (.val (.bool false)) []:=by
 have h:=PLift.up h;have hb:=PLift.up hb
 have hfw:=ae
 refine ak Tryz.func19 Tryz.ntmps19 rfl ?_
 repeat' (first|(refine ai ?_;refine au [] ([].length) (fwI zp ps n k) (fun i=>k-i.val) (⟨0,Nat.zero_le _⟩) rfl (by unfold fwI;exact mO) ?_;(rintro⟨i,hi⟩;rcases Nat.lt_or_eq_of_le hi with hil|hil<;>first|(subst hil;have hfw:=hb;(simp-dsimp only[fwI];refine zqS ?_))|(have hfw:=PLift.up (h.down i hil);(simp-dsimp only[fwI];refine zqS ?_))))|(refine ax ?_;refine Nxt.mk [] (⟨i+1,by omega⟩) rfl (by unfold fwI;exact mO) zqO)|refine zqN ?_|refine az hfw.down ?_|refine aK ?_|refine aL ?_|(refine aM ?_ ?_<;>intro hc<;>try exact zqM))
 all_goals first
  |((refine Ends.mk2 zqI [] ?_;simp-dsimp(disch:=try exact vD) only[push_cast,simprocAttr,Tryz.f19];try exact zqF);done)
  |skip
theorem Pj(hl:ps.length=n)(hn:n<2^47)(hx:∀i,i<n→MP (ps.getD i default)):∃r:Bool,(r=true→n≤14)∧ACall Tryz.prog 19 [.isl zp (cR ps) n] [] 0 (.val (.bool r)) []:=by
 have hf:=fun i hi=>Mf (k:=40) (hx i hi) (by decide)
 generalize hB:(fun i:Nat=>decide ((ps.getD i default).num.l.length≤40)&&decide ((ps.getD i default).den.l.length≤40))=B at hf
 have hf:∀i,i<n→ACall Tryz.prog 51 [.agg (aa.cells (ps.getD i default)),.val (.int .i64 40)] [] 0 (.val (.bool (B i))) []:=fun i hi=>by rw[←hB];exact Mf (k:=40) (hx i hi) (by decide)
 have key:∀k,k≤n→(∀i,i<k→B i=true)∨∃j,j<n∧B j=false∧∀i,i<j→B i=true:=by
  intro k
  induction k with
  |zero=>exact fun _=> .inl fun i h=>absurd h (Nat.not_lt_zero i)
  |succ k ih=>
   intro hk
   rcases ih (by omega) with h|h
   ·rcases Bool.eq_false_or_eq_true (B k) with hb|hb
    ·exact .inl fun i hi=>by
      rcases Nat.lt_or_eq_of_le (Nat.le_of_lt_succ hi) with h1|h1
      ·exact h i h1
      ·rw[h1];exact hb
    ·exact .inr ⟨k,by omega,hb,h⟩
   ·exact .inr h
 rcases key n (Nat.le_refl n) with h|⟨j,hj,hb,h⟩
 ·exact⟨_,fun hd=>of_decide_eq_true hd,als hl hn fun i hi=>by have:=hf i hi;rw[h i hi] at this;exact this⟩
 ·exact⟨false,fun hd=>(by cases hd),alu hl hn hj (fun i hi=>by have:=hf i (by omega);rw[h i hi] at this;exact this) (by have:=hf j hj;rw[hb] at this;exact this)⟩
theorem TY(hN:1010<N)(hN2:N<2^47):ACall Tryz.prog 18 [dI z nn L N rt] [] 0 (.val (.bool false)) []:=by
 unfold dI
 refine ak Tryz.func18 Tryz.ntmps18 rfl ?_
 repeat' (first|refine zqN ?_|refine aK ?_|refine aL ?_|(refine aM ?_ ?_<;>intro hc<;>try exact zqM))
 all_goals first
  |((refine Ends.mk2 zqI [] ?_;simp-dsimp(disch:=try exact vD) only[push_cast,simprocAttr,Tryz.f18];try exact zqF);done)
  |skip
theorem Q4(hN:N≤1010)(h:nn≤6):ACall Tryz.prog 18 [dI z nn L N rt] [] 0 (.val (.bool true)) []:=by
 unfold dI
 refine ak Tryz.func18 Tryz.ntmps18 rfl ?_
 repeat' (first|refine zqN ?_|refine aK ?_|refine aL ?_|(refine aM ?_ ?_<;>intro hc<;>try exact zqM))
 all_goals first
  |((refine Ends.mk2 zqI [] ?_;simp-dsimp(disch:=try exact vD) only[push_cast,simprocAttr,Tryz.f18];try exact zqF);done)
  |skip
theorem Kk(hN:N≤1010)(h:6<nn)(hv:ACall Tryz.prog 50 [dI z nn L N rt] [] 0 (.val (.int .i64 e)) []):ACall Tryz.prog 18 [dI z nn L N rt] [] 0 (.val (.bool (!decide (e=0)))) []:=by
 unfold dI at*
 have hv:=PLift.up hv
 refine ak Tryz.func18 Tryz.ntmps18 rfl ?_
 repeat' (first|refine zqN ?_|refine az hv.down ?_|refine aK ?_|refine aL ?_|(refine aM ?_ ?_<;>intro hc<;>try exact zqM))
 all_goals first
  |((refine Ends.mk2 zqI [] ?_;simp-dsimp(disch:=try exact vD) only[push_cast,simprocAttr,Tryz.f18];try exact zqF);done)
  |skip
end
section
variable {n N K k i m j r s:Nat} {z zs zt zp:Bool} {ss:List Nat} {ps ts:List RV} {l:List Int} {F:List Fo} {X:RV} {p site:Nat→Rat} {d dt:Nat→Nat} {c x:Rat} {e:Int} {tab:Nat→Bool}
theorem Gd.rprobs(g:Gd ps p d n)(hn:n≤100):ACall Tryz.prog 76 [.isl zp (cR ps) n] [] 0 (.val (.int .i64 0)) []:=Mx g.len (by omega) g.rin g.e
theorem Kn(hv:ACall Tryz.prog 50 [dI z n (F.map fk) N r] [] 0 (.val (.int .i64 0)) [])(hn:n≤100)(g:Gd ps p d n):ACall Tryz.prog 46 [dI z n (F.map fk) N r,.isl zp (cR ps) n] [] 0 (.val (.int .i64 0)) []:=
 Pd hv (g.rprobs hn)
theorem Zn(hv:ACall Tryz.prog 50 [dI z n (F.map fk) N r] [] 0 (.val (.int .i64 0)) [])(hD:DOk n F r)(hN:F.length=N)(g:Gd ps p d n):ACall Tryz.prog 16 [dI z n (F.map fk) N r,.isl zp (cR ps) n] [] 0 (.tup [.agg (aa.cells (rC (Pr p n fun t=> !aG F t r))),.val (.int .i64 0)]) []:=
 alp (Kn hv (by have:=hD.n12;omega) g) (DL hD hN) (vF g.len hD.n12 g.cs g.pq)
theorem aek(hv:ACall Tryz.prog 50 [dI z n (F.map fk) N r] [] 0 (.val (.int .i64 0)) [])(hD:DOk n F r)(hN:F.length=N)(g:Gd ps p d n)(hs:s<n):ACall Tryz.prog 22 [dI z n (F.map fk) N r,.isl zp (cR ps) n,.val (.int .i64 s)] [] 0 (.tup [.agg (aa.cells (rC ((Pr (upd p s 1) n fun t=> !aG F t r)-Pr (upd p s 0) n fun t=> !aG F t r))),.val (.int .i64 0)]) []:=by
 have h12:=hD.n12
 have a:=jo (tab:=fun t=> !aG F t r) (jO (sv:=s) g.cs Bd.one) h12
 have b:=jo (tab:=fun t=> !aG F t r) (jO (sv:=s) g.cs Pm) h12
 have hsb:=DK (cu a) (cu b)
 rw[←eF,←eF] at hsb
 exact ai9 (by omega) (Kn hv (by omega) g) (DL hD hN) (Pf g.len (by omega) hs IX) (Pf g.len (by omega) hs Mw)
  (vF (by rw[List.length_set];exact g.len) h12 (jO g.cs Bd.one) (Ps.set1 g.len hs g.pq))
  (vF (by rw[List.length_set];exact g.len) h12 (jO g.cs Pm) (Ps.set0 g.len hs g.pq)) hsb
end
section
variable {N m R:Nat} {F:List Fo} {L:List Fk} {n r e:Int} {z:Bool}
theorem MI(h0:0≤n)(h12:n≤12)(hN:765<N)(hN2:N<2^47):ACall Tryz.prog 72 [dI z n L N r] [] 0 (.val (.int .i64 1)) []:=by
 unfold dI
 refine ak Tryz.func72 Tryz.ntmps72 rfl ?_
 repeat' (first|refine zqN ?_|refine aK ?_|refine aL ?_|(refine aM ?_ ?_<;>intro hc<;>try exact zqM))
 all_goals first
  |((refine Ends.mk2 zqI [] ?_;simp-dsimp(disch:=try exact vD) only[push_cast,simprocAttr,Tryz.f72];try exact zqF);done)
  |skip
def rvM(z:Bool)(n q:Int)(L:List Fk)(N:Nat)(_:Unit):St:=
 ⟨78,0,[(1,.pt 0 0),(3,.val (.int .i64 0))],[(0,some (.cells [.val (.int .i64 n),.isl z (cR L) N,.val (.int .i64 q)] 29))]⟩
theorem xg(h0:0≤n)(h12:n≤12)(hN:L.length=N)(hN2:1000<N)(hN3:N<2^47):ACall Tryz.prog 50 [dI z n L N r] [] 0 (.val (.int .i64 1)) []:=by
 obtain⟨x,zx1⟩:∃x,L.getD 0 default=x:=⟨_,rfl⟩
 obtain⟨v,lo,hi⟩:=x
 unfold dI
 refine ak Tryz.func50 Tryz.ntmps50 rfl ?_
 have zx2:= @lU;have zx3:=aC;repeat' (first|(refine ai ?_;refine au [0] ([0].length) (rvM z n r L N) (fun _=>0) (()) rfl (by unfold rvM;exact eQ) ?_;(rintro⟨⟩;(simp-dsimp only[rvM];refine zqS ?_)))|refine zqN ?_|refine bM ?_|refine bO ?_|(refine bP ?_ ?_<;>intro hc<;>try exact zqM)|refine zqR 9 [⟨0,[],[],[],[],0⟩,⟨1,[0],[],[],[],0⟩,⟨2,[0,1],[],[],[],0⟩,⟨3,[0,1,2],[],[],[],0⟩,⟨4,[0,1,2,3],[70,71,72,73,74],[],[],0⟩,⟨5,[0,1,2,3],[69,72,73],[],[],0⟩,⟨6,[0,1,2,3,5],[69,72,73],[],[],0⟩,⟨7,[0,1,2,3],[69,70,71],[],[],0⟩,⟨8,[0,1,2,3,7],[69,70,71],[],[],0⟩,⟨9,[0,1,2,3,5,6,7,8],[69],[],[],0⟩,⟨10,[0,1,2,3,4,5,6,7,8,9],[],[],[],0⟩,⟨11,[0,1,2,3,4,5,6,7,8,9,10],[],[],[],0⟩,⟨12,[0,1,2,3,4,5,6,7,8,9,10,11],[],[],[],0⟩] ?_|refine zqD ?_|fail)
 all_goals first
  |((refine Ends.mk2 zqI [] ?_;simp-dsimp(disch:=try exact vD) only[push_cast,simprocAttr,Tryz.f50];try exact zqF);done)
  |skip
theorem MJ(h:¬VOk m L r)(hN:L.length=N)(hm:m≤12)(hN2:N<2^47):ACall Tryz.prog 72 [dI z m L N r] [] 0 (.val (.int .i64 1)) []:=by
 by_cases hk:N≤765
 ·exact YO h hN hm hk
 ·exact MI (by omega) (by omega) (by omega) hN2
theorem Pq(h:¬VOk m L r)(hN:L.length=N)(hm:m≤9)(hN2:N<2^47)(hr63:r<2^63):ACall Tryz.prog 50 [dI z m L N r] [] 0 (.val (.int .i64 1)) []:=by
 by_cases hk:1000<N
 ·exact xg (by omega) (by omega) hN hk hN2
 ·exact TR h hN hm (by omega) hr63
theorem Pt(hN:L.length=N)(hm:m≤12)(hN2:N<2^47)(hr63:r<2^63):∃e:Int,(e=0∨e=1)∧ACall Tryz.prog 50 [dI z m L N r] [] 0 (.val (.int .i64 e)) []:=by
 by_cases hk:1000<N
 ·exact⟨1,.inr rfl,xg (by omega) (by omega) hN hk hN2⟩
 by_cases hb:∀j,j<N→RfI m L j
 ·by_cases hr:r<0
  ·exact⟨1,.inr rfl,wZ (by omega) (by omega) hN (by omega) hb hr⟩
  ·obtain⟨R,rfl⟩:=Int.eq_ofNat_of_zero_le (show 0≤r by omega)
   have hL:(L.map tof).map fk=L:=YK fun i hi=>⟨(hb i (by omega)).v0,(hb i (by omega)).l0,(hb i (by omega)).h0⟩
   obtain⟨F,hF⟩:∃F,L.map tof=F:=⟨_,rfl⟩
   rw[hF] at hL
   have hFN:F.length=N:=by rw[←hF,List.length_map,hN]
   have hbd:Bnd F:=fun k hk=>by
    have o:=hb k (by omega)
    have o1:=o.l1;have o2:=o.h1
    rw[←hL,fkL hk] at o1 o2
    have b1:((F.getD k default).lo:Int)<k+2:=o1
    have b2:((F.getD k default).hi:Int)<k+2:=o2
    omega
   have h16:∀k,k<F.length→(F.getD k default).v<16:=fun k hk=>by
    have o:=(hb k (by omega)).v1
    rw[←hL,fkL hk] at o
    have b1:((F.getD k default).v:Int)<m:=o
    omega
   have ht:=vz (z:=z) (R:=R) (by omega) hbd h16 hFN (by omega) (by omega) (rfl:2^m=2^m)
   have hf:=lV (n:=m) (tb:=lT F R (2^m)) (M:=2^m) (by omega) gU rfl
   rw[yA rfl] at hf
   obtain⟨⟨D,w⟩,hD⟩:∃X,(fC m fun t=>aG F t R)=X:=⟨_,rfl⟩
   rw[hD] at hf
   have heq:=EF (z:=z) (z':=(D.length==0)) (p:=(m:Int)) (p':=(m:Int)) (q:=(R:Int)) (q':=(w:Int)) (L:=F.map fk) (L':=D.map fk) (by rw[List.length_map];omega)
   obtain⟨b,hbe⟩:∃b,decide ((m:Int)=m∧(R:Int)=w∧F.map fk=D.map fk)=b:=⟨_,rfl⟩
   rw[hbe,←mP,←mP] at heq
   unfold dgV at heq hf
   have hx:=vC (z:=z) (L:=L) (b:=b) (show(0:Int)≤m by omega) (by omega) hN (by omega) hb (show(0:Int)≤(R:Int) by omega) (by unfold dI;rw[←hL,gV];exact ht) hf (by unfold dI;rw[←hL,gV,←hFN];exact heq)
   refine⟨_,?_,hx⟩
   cases b
   ·right;rfl
   ·left;rfl
 ·exact⟨1,.inr rfl,Bn (by omega) (by omega) hN (by omega) hb⟩
inductive Sml (z:Bool) (n:Int) (L:List Fk) (N:Nat) (r:Int):Prop
 |no (h:ACall Tryz.prog 18 [dI z n L N r] [] 0 (.val (.bool false)) [])
 |bad (e:Int) (hne:¬e=0) (h:ACall Tryz.prog 18 [dI z n L N r] [] 0 (.val (.bool true)) []) (hv:ACall Tryz.prog 72 [dI z n L N r] [] 0 (.val (.int .i64 e)) []) (hw:ACall Tryz.prog 50 [dI z n L N r] [] 0 (.val (.int .i64 e)) [])
 |good (m:Nat) (hm:m≤6) (F:List Fo) (R:Nat) (hn:n=m) (hL:L=F.map fk) (hr:r=R) (hD:DOk m F R) (hN:F.length=N) (h:ACall Tryz.prog 18 [dI z m (F.map fk) N R] [] 0 (.val (.bool true)) []) (hw:ACall Tryz.prog 50 [dI z m (F.map fk) N R] [] 0 (.val (.int .i64 0)) [])
theorem DR(hN:L.length=N)(hN2:N<2^47)(hr63:r<2^63):Sml z n L N r:=by
 by_cases hb:1010<N
 ·exact .no (TY hb hN2)
 ·by_cases hr:n<0∨12<n
  ·refine .bad 7 (by decide) ?_ (Kh hr) (uL hr)
   rcases hr with hr|hr
   ·exact Q4 (by omega) (by omega)
   ·have:=Kk (z:=z) (L:=L) (N:=N) (rt:=r) (by omega) (show 6<n by omega) (uL (.inr hr))
    exact this
  ·obtain⟨m,rfl⟩:=Int.eq_ofNat_of_zero_le (show 0≤n by omega)
   by_cases h6:m≤6
   ·have hs:=Q4 (z:=z) (L:=L) (rt:=r) (show N≤1010 by omega) (show(m:Int)≤6 by omega)
    by_cases hv:VOk m L r
    ·have hw:=yQ (z:=z) hv hN (by omega)
     obtain⟨F,R,rfl,rfl,hD⟩:=hv
     exact .good m h6 F R rfl rfl rfl hD (by rw[←hN,List.length_map]) hs hw
    ·exact .bad 1 (by decide) hs (MJ hv hN (by omega) hN2) (Pq hv hN (by omega) hN2 hr63)
   ·obtain⟨e,he,hw⟩:=Pt (z:=z) hN (show m≤12 by omega) (by omega) hr63
    have hs:=Kk (z:=z) (L:=L) (N:=N) (rt:=r) (by omega) (show(6:Int)<m by omega) hw
    by_cases hv:VOk m L r
    ·have hs:=Kk (z:=z) (L:=L) (N:=N) (rt:=r) (by omega) (show(6:Int)<m by omega) (yQ (z:=z) hv hN (by omega))
     exact .no hs
    ·rcases he with he|he
     ·subst he;exact .no hs
     ·subst he;exact .bad 1 (by decide) hs (MJ hv hN (by omega) hN2) hw
end
section
variable {N M L k i m np:Nat} {z zp:Bool} {ps:List RV} {L:List Fk} {X Y:RV} {n r e g s:Int} {F:List Fo}
structure ZP(zp:Bool)(ps:List RV)(np:Nat):Prop where
 len:ps.length=np
 lt:np<2^43
 z:zp=true→ps=[]
 x:∀i,i<np→RIn (ps.getD i default)
theorem ZP.rlen(h:ZP zp ps np):∀i,i<np→MP (ps.getD i default):=fun i hi=>⟨(h.x i hi).ln,(h.x i hi).ld⟩
theorem fT:ACall Tryz.prog 17 [.agg (aa.cells rZ),.agg (aa.cells rZ)] [] 0 (.val (.bool true)) []:=by
 have:=QI Yg Yg
 rw[yL] at this;exact this
theorem Uh(hs:ACall Tryz.prog 18 [dI z n L N r] [] 0 (.val (.bool false)) []):ACall Tryz.prog 4 [dI z n L N r,.isl zp (cR ps) np,.val (.int .i64 s)] [] 0 (.val (.bool true)) []:=by
 have hs:=PLift.up hs;have haw:=PLift.up bQ
 unfold dI at*
 refine ak Tryz.func4 Tryz.ntmps4 rfl ?_
 repeat' (first|refine zqN ?_|refine az haw.down ?_|refine az hs.down ?_|refine aK ?_|refine aL ?_|(refine aM ?_ ?_<;>intro hc<;>try exact zqM)|refine zqR 3 [⟨0,[],[7,30,31],[],[],0⟩,⟨1,[],[7,29],[],[],0⟩,⟨2,[1],[7,29],[],[],0⟩,⟨3,[0,1,2],[7],[],[],0⟩,⟨4,[0,1,2,3],[7],[],[],0⟩,⟨5,[0,1,2,3,4],[7,34],[],[],0⟩,⟨6,[0,1,2,3,4],[7,33],[2],[],0⟩,⟨7,[],[28,29,30,31,32,33,34],[],[],1⟩,⟨8,[0,1,2,3,4,5,7],[34],[],[2],0⟩,⟨9,[0,1,2,3,4,5,6,7,8],[],[],[],0⟩] ?_|refine zqR 5 [⟨0,[],[11,43,44,45],[],[],0⟩,⟨1,[],[11,42,45],[],[],0⟩,⟨2,[1],[11,42,45],[],[],0⟩,⟨3,[],[11,42,43,44],[],[],0⟩,⟨4,[0,1,2,3],[11],[],[],0⟩,⟨5,[0,1,2,3,4],[11],[],[],0⟩,⟨6,[0,1,2,3,4,5],[11,48],[],[],0⟩,⟨7,[0,1,2,3,4,5],[11,47],[2],[],0⟩,⟨8,[],[41,42,43,44,45,46,47,48],[],[],1⟩,⟨9,[0,1,2,3,4,5,6,8],[48],[],[2],0⟩,⟨10,[0,1,2,3,4,5,6,7,8,9],[],[],[],0⟩] ?_|refine zqD ?_|fail)
 all_goals first
  |((refine Ends.mk2 zqI [] ?_;simp-dsimp(disch:=try exact vD) only[push_cast,simprocAttr,Tryz.f4];try exact zqF);done)
  |skip
theorem I1(hs:ACall Tryz.prog 18 [dI z n L N r] [] 0 (.val (.bool true)) [])(hf:ACall Tryz.prog 19 [.isl zp (cR ps) np] [] 0 (.val (.bool false)) []):ACall Tryz.prog 4 [dI z n L N r,.isl zp (cR ps) np,.val (.int .i64 s)] [] 0 (.val (.bool true)) []:=by
 have hs:=PLift.up hs;have hf:=PLift.up hf;have haw:=PLift.up bQ
 unfold dI at*
 refine ak Tryz.func4 Tryz.ntmps4 rfl ?_
 repeat' (first|refine zqN ?_|refine az haw.down ?_|refine az hs.down ?_|refine az hf.down ?_|refine aK ?_|refine aL ?_|(refine aM ?_ ?_<;>intro hc<;>try exact zqM)|refine zqR 3 [⟨0,[],[7,30,31],[],[],0⟩,⟨1,[],[7,29],[],[],0⟩,⟨2,[1],[7,29],[],[],0⟩,⟨3,[0,1,2],[7],[],[],0⟩,⟨4,[0,1,2,3],[7],[],[],0⟩,⟨5,[0,1,2,3,4],[7,34],[],[],0⟩,⟨6,[0,1,2,3,4],[7,33],[2],[],0⟩,⟨7,[],[28,29,30,31,32,33,34],[],[],1⟩,⟨8,[0,1,2,3,4,5,7],[34],[],[2],0⟩,⟨9,[0,1,2,3,4,5,6,7,8],[],[],[],0⟩] ?_|refine zqR 5 [⟨0,[],[11,43,44,45],[],[],0⟩,⟨1,[],[11,42,45],[],[],0⟩,⟨2,[1],[11,42,45],[],[],0⟩,⟨3,[],[11,42,43,44],[],[],0⟩,⟨4,[0,1,2,3],[11],[],[],0⟩,⟨5,[0,1,2,3,4],[11],[],[],0⟩,⟨6,[0,1,2,3,4,5],[11,48],[],[],0⟩,⟨7,[0,1,2,3,4,5],[11,47],[2],[],0⟩,⟨8,[],[41,42,43,44,45,46,47,48],[],[],1⟩,⟨9,[0,1,2,3,4,5,6,8],[48],[],[2],0⟩,⟨10,[0,1,2,3,4,5,6,7,8,9],[],[],[],0⟩] ?_|refine zqD ?_|fail)
 all_goals first
  |((refine Ends.mk2 zqI [] ?_;simp-dsimp(disch:=try exact vD) only[push_cast,simprocAttr,Tryz.f4];try exact zqF);done)
  |skip
theorem rJ(hs:ACall Tryz.prog 18 [dI z n L N r] [] 0 (.val (.bool true)) [])(hf:ACall Tryz.prog 19 [.isl zp (cR ps) np] [] 0 (.val (.bool true)) [])(hc:ACall Tryz.prog 20 [.isl zp (cR ps) np] [] 0 (.isl zp (cR ps) np) [])
 (o1:ACall Tryz.prog 15 [dI z n L N r,.isl zp (cR ps) np] [] 0 (.tup [.agg (aa.cells X),.val (.int .i64 e)]) []) (o2:ACall Tryz.prog 16 [dI z n L N r,.isl zp (cR ps) np] [] 0 (.tup [.agg (aa.cells X),.val (.int .i64 e)]) [])
 (i1:ACall Tryz.prog 21 [dI z n L N r,.isl zp (cR ps) np,.val (.int .i64 s)] [] 0 (.tup [.agg (aa.cells Y),.val (.int .i64 g)]) []) (i2:ACall Tryz.prog 22 [dI z n L N r,.isl zp (cR ps) np,.val (.int .i64 s)] [] 0 (.tup [.agg (aa.cells Y),.val (.int .i64 g)]) [])
 (e1:ACall Tryz.prog 17 [.agg (aa.cells X),.agg (aa.cells X)] [] 0 (.val (.bool true)) []) (e2:ACall Tryz.prog 17 [.agg (aa.cells Y),.agg (aa.cells Y)] [] 0 (.val (.bool true)) []):
 ACall Tryz.prog 4 [dI z n L N r,.isl zp (cR ps) np,.val (.int .i64 s)] [] 0 (.val (.bool true)) []:=by
 have hs:=PLift.up hs;have hf:=PLift.up hf;have hcl:=PLift.up hc;have o1:=PLift.up o1;have o2:=PLift.up o2;have i1:=PLift.up i1;have i2:=PLift.up i2;have e1:=PLift.up e1;have e2:=PLift.up e2;have haw:=PLift.up bQ
 clear hc
 unfold dI at*
 refine ak Tryz.func4 Tryz.ntmps4 rfl ?_
 repeat' (first|refine zqN ?_|refine az haw.down ?_|refine az hs.down ?_|refine az hf.down ?_|refine az hcl.down ?_|refine az o1.down ?_|refine az o2.down ?_|refine az i1.down ?_|refine az i2.down ?_|refine az e1.down ?_|refine az e2.down ?_|refine aK ?_|refine aL ?_|(refine aM ?_ ?_<;>intro hc<;>try exact zqM)|refine zqR 3 [⟨0,[],[7,30,31],[],[],0⟩,⟨1,[],[7,29],[],[],0⟩,⟨2,[1],[7,29],[],[],0⟩,⟨3,[0,1,2],[7],[],[],0⟩,⟨4,[0,1,2,3],[7],[],[],0⟩,⟨5,[0,1,2,3,4],[7,34],[],[],0⟩,⟨6,[0,1,2,3,4],[7,33],[4],[],0⟩,⟨7,[],[28,29,30,31,32,33,34],[],[],1⟩,⟨8,[0,1,2,3,4,5,7],[34],[],[4],0⟩,⟨9,[0,1,2,3,4,5,6,7,8],[],[],[],0⟩] ?_|refine zqR 5 [⟨0,[],[11,43,44,45],[],[],0⟩,⟨1,[],[11,42,45],[],[],0⟩,⟨2,[1],[11,42,45],[],[],0⟩,⟨3,[],[11,42,43,44],[],[],0⟩,⟨4,[0,1,2,3],[11],[],[],0⟩,⟨5,[0,1,2,3,4],[11],[],[],0⟩,⟨6,[0,1,2,3,4,5],[11,48],[],[],0⟩,⟨7,[0,1,2,3,4,5],[11,47],[6],[],0⟩,⟨8,[],[41,42,43,44,45,46,47,48],[],[],1⟩,⟨9,[0,1,2,3,4,5,6,8],[48],[],[6],0⟩,⟨10,[0,1,2,3,4,5,6,7,8,9],[],[],[],0⟩] ?_|refine zqD ?_|fail)
 all_goals first
  |((refine Ends.mk2 zqI [] ?_;simp-dsimp(disch:=try exact vD) only[push_cast,simprocAttr,Tryz.f4];try exact zqF);done)
  |skip
theorem Rb{p:Nat→Rat} {d:Nat→Nat} {R n sv:Nat}(hD:DOk n F R)(g:Gd ps p d n):Sm ((Pr (upd p sv 1) n fun t=> !aG F t R)-Pr (upd p sv 0) n fun t=> !aG F t R):=by
 have h12:=hD.n12
 have b:=(Bo hD (jO (sv:=sv) g.cs Bd.one)).sub (Bo hD (jO (sv:=sv) g.cs Pm))
 have hp:=uK (d:=d) (i:=0) (k:=n) fun j _ hj=>⟨(g.cs j (by omega)).2.1,(g.cs j (by omega)).2.2⟩
 have e3:3^n≤3^12:=Nat.pow_le_pow_right (by omega) h12
 have e2:1000000^n≤1000000^12:=Nat.pow_le_pow_right (by omega) h12
 have e4:(3^12+3^12)*1000000^12<10^140:=by decide
 have e5:1000000^12<10^140:=by decide
 have e6:=Nat.mul_le_mul (Nat.add_le_add e3 e3) (Nat.le_trans hp.2 e2)
 exact b.sm hp.1 (by omega) (by omega)
theorem Ui(hN:L.length=N)(hN2:N<2^44)(hr:r<2^63)(hp:ZP zp ps np):ACall Tryz.prog 4 [dI z n L N r,.isl zp (cR ps) np,.val (.int .i64 s)] [] 0 (.val (.bool true)) []:=by
 obtain⟨fw,hf14,hfw⟩:=Pj (zp:=zp) hp.len (by have:=hp.lt;omega) hp.rlen
 cases DR (z:=z) (n:=n) (r:=r) hN (by omega) hr with
 |no h=>exact Uh h
 |bad e hne h hv hw=>
  cases fw with
  |false=>exact I1 h hfw
  |true=>
   have h14:=hf14 rfl
   have hc:=lY (z:=zp) hp.len (by omega) hp.z
   have g1:=ad3 (zp:=zp) (ps:=ps) (np:=np) hv hne
   have g2:=ai6 (zp:=zp) (ps:=ps) (np:=np) hw hne
   exact rJ h hfw hc (ai5 g1 hne) (YY g2 hne) (YV g1 hne) (Pg g2 hne) fT fT
 |good m hm F R hn hL hr hD hFN h hw=>
  subst hn;subst hL;subst hr
  cases fw with
  |false=>exact I1 h hfw
  |true=>
   have h14:=hf14 rfl
   have hc:=lY (z:=zp) hp.len (by omega) hp.z
   have hv:=iN (z:=z) hD hFN
   by_cases hnp:np=m
   ·subst hnp
    have p1:=yO (z:=zp) (xs:=ps) (by rw[hp.len];omega) (by rw[hp.len];exact hp.x)
    rw[hp.len] at p1
    have p2:=IY (z:=zp) hp.len (by omega) hp.x
    have g1:=QW hv p1
    have g2:=Pd hw p2
    by_cases he:psE ps=0
    ·obtain⟨p,d,g⟩:=Gd.of hp.len hp.x (fun i hi=>QP he i (by rw[hp.len];exact hi))
     rw[he] at g1 g2
     have sm:=jo (tab:=fun t=> !aG F t R) g.cs hD.n12
     have o1:=uO (z:=z) (zp:=zp) hD hFN g
     have o2:=Zn (z:=z) (zp:=zp) hw hD hFN g
     by_cases hs:s<0∨(np:Int)≤s
     ·exact rJ h hfw hc o1 o2 (ai7 g1 hs) (ad7 g2 hs) (eq_self _ sm) fT
     ·obtain⟨sv,rfl⟩:=Int.eq_ofNat_of_zero_le (show 0≤s by omega)
      have hzf:zp=false:=by
       cases hzz:zp with
       |false=>rfl
       |true=>have:=hp.z hzz;subst this;have:=hp.len;simp at this;omega
      subst hzf
      have i1:=Pn (z:=z) (s:=sv) hD hFN g (by omega)
      have i2:=aek (z:=z) (zp:=false) (s:=sv) hw hD hFN g (by omega)
      have a:=jo (tab:=fun t=> !aG F t R) (jO (sv:=sv) g.cs Bd.one) hD.n12
      have b:=jo (tab:=fun t=> !aG F t R) (jO (sv:=sv) g.cs Pm) hD.n12
      exact rJ h hfw hc o1 o2 i1 i2 (eq_self _ sm) (eq_self _ (Rb hD g))
    ·exact rJ h hfw hc (ai5 g1 he) (YY g2 he) (YV g1 he) (Pg g2 he) fT fT
   ·have g1:=YQ (zp:=zp) (ps:=ps) (np:=np) hv (by omega)
    have g2:=QX (zp:=zp) (ps:=ps) (np:=np) hw (by omega)
    exact rJ h hfw hc (ai5 g1 (by decide)) (YY g2 (by decide)) (YV g1 (by decide)) (Pg g2 (by decide)) fT fT
end
end
section
open Go Go.Sy Go.Bp Go.Dg Go.Lm
theorem ajy{m:Int}(h:(Lit.int .u32 m).wf=true):0≤m∧m≤4294967295:=by
 simp only[Lit.wf,Bool.and_eq_true,decide_eq_true_eq,IntKind.min,IntKind.max] at h
 simpa[IntKind.bits,IntKind.signed] using h
theorem Uj{m:Nat} {av:List AV}(h:dO Tryz.prog m 33 av):∃(z:Bool) (l:List Int),av=[.isl z (cI .u32 l) l.length]∧R32 l∧l.length<2^47∧(z=true→l=[]):=by
 obtain⟨z,l,e,ho,hl,hz⟩:=lN (g:=fun(x:Int)=>[AV.val (.int .u32 x)]) (Q:=fun x=>0≤x∧x≤4294967295) (bn:=4) Tryz.underlying33 h (by kernel_rfl) (by decide) (fun n x hx=>by
  obtain⟨k,rfl,hk⟩:=gT Tryz.underlying115 hx
  exact⟨k,rfl,ajy hk⟩)
 rw[show l.flatMap (fun(x:Int)=>[AV.val (.int .u32 x)])=cI .u32 l from mo _ l] at e
 exact⟨z,l,e,ho,hl,hz⟩
theorem I4{m:Nat} {av:List AV}(h:dO Tryz.prog m 35 av):∃X:IV,av=aa.cells X∧R32 X.l∧(X.z=true→X.l=[])∧X.l.length<2^47:=by
 obtain⟨_,xs,rfl,hl,hx⟩:=jm Tryz.underlying35 h
 match xs,hl with
 |[a0,a1],_=>
  obtain⟨b0,rfl⟩:=Ii Tryz.underlying4 (hx 0 _ a0 rfl rfl)
  obtain⟨z,l,rfl,h1,h2,h3⟩:=Uj (hx 1 _ a1 rfl rfl)
  exact⟨⟨z,b0,l⟩,rfl,h1,h3,h2⟩
theorem Fw{m:Nat} {av:List AV}(h:dO Tryz.prog m 37 av):∃X:RV,av=aa.cells X∧RIn X:=by
 obtain⟨_,xs,rfl,hl,hx⟩:=jm Tryz.underlying37 h
 match xs,hl with
 |[a0,a1],_=>
  obtain⟨X,rfl,p1,p2,p3⟩:=I4 (hx 0 _ a0 rfl rfl)
  obtain⟨Y,rfl,q1,q2,q3⟩:=I4 (hx 1 _ a1 rfl rfl)
  exact⟨⟨X,Y⟩,rfl,p1,q1,p2,q2,p3,q3⟩
theorem Br{m:Nat} {av:List AV}(h:dO Tryz.prog m 31 av):∃(z:Bool) (l:List RV),av=[.isl z (cR l) l.length]∧ZP z l l.length:=by
 obtain⟨n,rfl|⟨xs,rfl,h1,h2⟩⟩:=u6 Tryz.underlying31 h
 ·exact⟨true,[],rfl,rfl,by decide,fun _=>rfl,fun i hi=>absurd hi (Nat.not_lt_zero i)⟩
 ·obtain⟨l,k1,k2⟩:=JD (R:=fun x a=>x=aa.cells a∧RIn a) xs (fun x hx'=>Fw (h1 x hx').2)
  refine⟨false,l,?_,rfl,?_,fun h=>(by cases h),fun i hi=>?_⟩
  ·rw[Dm (g:=aa.cells) xs l k1 (fun i x a hx ha=>(k2 i x a hx ha).1),k1];rfl
  ·have e:Tryz.prog.bytesOf 37=64:=by kernel_rfl
   rw[e] at h2
   rw[k1];unfold reachBytes at h2;omega
  ·rw[List.getD_eq_getElem?_getD,List.getElem?_eq_getElem hi]
   exact(k2 i _ _ (List.getElem?_eq_getElem (by omega)) (List.getElem?_eq_getElem hi)).2
end
