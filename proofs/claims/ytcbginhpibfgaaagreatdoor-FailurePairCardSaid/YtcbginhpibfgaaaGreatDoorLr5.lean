/- Lr5. No condition. -/
import Derived.Test.YtcbginhpibfgaaaGreatDoorLr4
import Derived.Test.YtcbginhpibfgaaaGreatDoorLqG1
set_option linter.all false
set_option maxHeartbeats 4000000
set_option maxRecDepth 20000
namespace Go.Proofs.YtcbginhpibfgaaaGreatDoor
open Go Go.Sy Go.Bp Go.Lm Go.Rt
attribute [local irreducible] AO AL AC OpT ACall Ends DGo bK Thn Blk Nxt
variable {n N M k i m j:Nat} {z z' neg:Bool} {l:List Int} {a b v x y e s c:Int} {A B A1 B1 G G2 P Q R1 R2 Z1 X1 Y1:IV} {p q:Rat} {X Y W:RV}
def nG(z neg:Bool)(l:List Int)(n:Nat)(i:{i:Nat // i≤n∧∀j,j<i→l.getD j default<1000000000}):St:=
 ⟨39,0,[(1,.pt 0 0),(3,.val (.int .i64 i.val))],[(0,some (.cells [.val (.bool neg),.isl z (cI .u32 l) n] 35))]⟩
theorem OJ(hl:l.length=n)(hn:n<2^47)(h:¬∀j,j<n→l.getD j default<1000000000):ACall Tryz.prog 89 [.agg [.val (.bool neg),.isl z (cI .u32 l) n]] [] 0 (.val (.bool false)) []:=by
 have h0:0≤n∧∀j,j<0→l.getD j default<1000000000:=⟨Nat.zero_le _,fun j hj=>absurd hj (by omega)⟩
 have zx1:=ae
 refine ak Tryz.func89 Tryz.ntmps89 rfl ?_
 have zx2:=aC;have zx3:=aC;repeat' (first|(refine ai ?_;refine au [0] ([0].length) (nG z neg l n) (fun i=>n-i.val) (⟨0,h0⟩) rfl (by unfold nG;exact eQ) ?_;(rintro⟨i,hi,hok⟩;rcases Nat.lt_or_eq_of_le hi with hil|hil<;>first|(exfalso;subst hil;exact h hok)|(rcases Decidable.em (1000000000≤l.getD i default) with zx1|zx1<;>(simp-dsimp only[nG];refine zqS ?_))))|(refine ax ?_;refine Nxt.mk [0] (⟨i+1,by omega,fun j hj=>by rcases Nat.lt_or_eq_of_le (Nat.le_of_lt_succ hj) with h|h;exact hok j h;rw[h];omega⟩) rfl (by unfold nG;exact eQ) zqO)|refine zqN ?_|refine bM ?_|refine bO ?_|(refine bP ?_ ?_<;>intro hc<;>try exact zqM))
 all_goals first
  |((refine Ends.mk2 zqI [] ?_;simp-dsimp(disch:=try exact vD) only[push_cast,simprocAttr,Tryz.f89];try exact zqF);done)
  |skip
theorem Yb(h:∀j,j<n→l.getD j default<1000000000)(hl:l.length=n)(h0:n=0):ACall Tryz.prog 89 [.agg [.val (.bool neg),.isl z (cI .u32 l) n]] [] 0 (.val (.bool (!neg))) []:=by
 subst h0
 have hz:0≤0∧∀j,j<0→l.getD j default<1000000000:=⟨Nat.zero_le _,h⟩
 rcases Bool.eq_false_or_eq_true neg with hneg|hneg
 all_goals subst hneg
 all_goals(refine ak Tryz.func89 Tryz.ntmps89 rfl ?_)
 all_goals repeat' (first|(refine ai ?_;refine au [0] ([0].length) (nG z true l 0) (fun i=>0) (⟨0,hz⟩) rfl (by unfold nG;exact mO) ?_;(rintro⟨i,hi,hok⟩;have hi0:i=0:=(by omega);subst hi0;(simp-dsimp only[nG];refine zqS ?_)))|(refine ai ?_;refine au [0] ([0].length) (nG z false l 0) (fun i=>0) (⟨0,hz⟩) rfl (by unfold nG;exact mO) ?_;(rintro⟨i,hi,hok⟩;have hi0:i=0:=(by omega);subst hi0;(simp-dsimp only[nG];refine zqS ?_)))|refine zqN ?_|refine aK ?_|refine aL ?_|(refine aM ?_ ?_<;>intro hc<;>try exact zqM))
 all_goals first
  |((refine Ends.mk2 zqI [] ?_;simp-dsimp(disch:=try exact vD) only[push_cast,simprocAttr,Tryz.f89];try exact zqF);done)
  |skip
theorem Yc{dd:Nat} {w:Int}(h:∀j,j<n+1→l.getD j default<1000000000)(hl:l.length=n+1)(hn:n<2^47)(hw:l.getD n default=w)(hw0:¬w=0)(hd:ACall Tryz.prog 121 [.isl z (cI .u32 l) (n+1)] [] 0 (.val (.int .i64 (dd:Int))) []):ACall Tryz.prog 89 [.agg [.val (.bool neg),.isl z (cI .u32 l) (n+1)]] [] 0 (.val (.bool (decide ((dd:Int)≤300)))) []:=by
 have hz:0≤n+1∧∀j,j<0→l.getD j default<1000000000:=⟨Nat.zero_le _,fun j hj=>absurd hj (by omega)⟩
 have hd:=PLift.up hd
 have zx1:=ae
 refine ak Tryz.func89 Tryz.ntmps89 rfl ?_
 have zx2:= @hw;have zx3:= @hw0;have zx4:= @a1s;have zx5:=aC;have zx6:=aC;repeat' (first|(refine ai ?_;refine au [0] ([0].length) (nG z neg l (n+1)) (fun i=>n+1-i.val) (⟨0,hz⟩) rfl (by unfold nG;exact gY) ?_;(rintro⟨i,hi,hok⟩;rcases Nat.lt_or_eq_of_le hi with hil|hil<;>first|(subst hil;(simp-dsimp only[nG];refine zqS ?_))|(have zx1:¬1000000000≤l.getD i default:=(by have:=h i hil;omega);(simp-dsimp only[nG];refine zqS ?_))))|(refine ax ?_;refine Nxt.mk [0] (⟨i+1,by omega,fun j hj=>h j (by omega)⟩) rfl (by unfold nG;exact gY) zqO)|refine zqN ?_|refine gG hd.down ?_|refine kE ?_|refine kF ?_|(refine kG ?_ ?_<;>intro hc<;>try exact zqM))
 all_goals first
  |((refine Ends.mk2 zqI [] ?_;simp-dsimp(disch:=try exact vD) only[push_cast,simprocAttr,Tryz.f89];try exact zqF);done)
  |skip
theorem Yd(h:∀j,j<n+1→l.getD j default<1000000000)(hl:l.length=n+1)(hn:n<2^47)(hw:l.getD n default=0):ACall Tryz.prog 89 [.agg [.val (.bool neg),.isl z (cI .u32 l) (n+1)]] [] 0 (.val (.bool false)) []:=by
 have hz:0≤n+1∧∀j,j<0→l.getD j default<1000000000:=⟨Nat.zero_le _,fun j hj=>absurd hj (by omega)⟩
 have zx1:=ae
 refine ak Tryz.func89 Tryz.ntmps89 rfl ?_
 have zx2:= @hw;have zx3:= @a1s;repeat' (first|(refine ai ?_;refine au [0] ([0].length) (nG z neg l (n+1)) (fun i=>n+1-i.val) (⟨0,hz⟩) rfl (by unfold nG;exact eQ) ?_;(rintro⟨i,hi,hok⟩;rcases Nat.lt_or_eq_of_le hi with hil|hil<;>first|(subst hil;(simp-dsimp only[nG];refine zqS ?_))|(have zx1:¬1000000000≤l.getD i default:=(by have:=h i hil;omega);(simp-dsimp only[nG];refine zqS ?_))))|(refine ax ?_;refine Nxt.mk [0] (⟨i+1,by omega,fun j hj=>h j (by omega)⟩) rfl (by unfold nG;exact eQ) zqO)|refine zqN ?_|refine bM ?_|refine bO ?_|(refine bP ?_ ?_<;>intro hc<;>try exact zqM))
 all_goals first
  |((refine Ends.mk2 zqI [] ?_;simp-dsimp(disch:=try exact vD) only[push_cast,simprocAttr,Tryz.f89];try exact zqF);done)
  |skip
theorem adA(hl:l.length=n):l.any (fun y=>decide (1000000000≤y))=true↔¬∀j,j<n→l.getD j default<1000000000:=by
 rw[List.any_eq_true]
 constructor
 ·rintro⟨y,h1,h2⟩ h
  obtain⟨j,hj,rfl⟩:=List.getElem_of_mem h1
  have:=h j (by omega)
  rw[gd0,iK hj] at this
  have:=of_decide_eq_true h2
  omega
 ·intro h
  refine Decidable.not_not.1 fun hc=>h fun j hj=>Decidable.not_not.1 fun h2=>hc ⟨l.getD j 0,?_,?_⟩
  ·rw[iK (by omega)];exact List.getElem_mem _
  ·exact decide_eq_true (by rw[gd0] at h2;omega)
theorem vo{X:IV}(hl:X.l.length=n)(hn:n<2^47)(hr:R32 X.l):ACall Tryz.prog 89 [.agg (aa.cells X)] [] 0 (.val (.bool (vB X))) []:=by
 have h0:=ac3 (X:=X);have h1:=aip (X:=X);have h2:=aiq (X:=X);have h3:=ac4 (X:=X)
 have ha:=adA hl
 have hdg:=fun h=>E5 (z:=X.z) hl hn (JR hr h)
 obtain⟨z,neg,l⟩:=X
 rw[bC]
 dsimp only at*
 rw[hl] at h0 h1 h2 h3⊢
 generalize vB ⟨z,neg,l⟩=r at*
 by_cases hall:∀j,j<n→l.getD j default<1000000000
 ·have hna:¬l.any (fun y=>decide (1000000000≤y))=true:=fun hc=>ha.1 hc hall
  rcases Nat.eq_zero_or_pos n with hz|hz
  ·rw[h0 hz];exact Yb hall hl hz
  ·obtain⟨n,rfl⟩:∃m,n=m+1:=⟨_,(Nat.succ_pred_eq_of_pos hz).symm⟩
   rw[Nat.add_sub_cancel] at h1 h2 h3
   by_cases hw:l.getD n default=0
   ·rw[h1 (by omega) (.inl hw)]
    exact Yd hall hl (by omega) hw
   ·have hv:=Yc (z:=z) (neg:=neg) hall hl (by omega) rfl hw (hdg hna)
    by_cases h34:34<n+1
    ·rw[h1 (by omega) (.inr h34)]
     have e:decide (((dg9 l:Nat):Int)≤300)=false:=decide_eq_false (by
      rw[LY (by omega),hl];omega)
     rw[e] at hv;exact hv
    ·rw[h3 (by omega) (fun hc=>hc.elim hw h34) hna]
     have e:decide (dg9 l≤300)=decide (((dg9 l:Nat):Int)≤300):=decide_eq_decide.2 (by omega)
     rw[e];exact hv
 ·have hb:=OJ (z:=z) (neg:=neg) hl hn hall
  have hany:=ha.2 hall
  have hn0:¬n=0:=fun e=>hall fun j hj=>absurd hj (by omega)
  by_cases hc:l.getD (n-1) 0=0∨34<n
  ·rw[h1 hn0 hc];exact hb
  ·rw[h2 hn0 hc hany];exact hb
theorem wU(h:D300 v):ACall Tryz.prog 89 [.agg (aa.cells (iV z v))] [] 0 (.val (.bool true)) []:=by
 have:=vo (X:=iV z v) rfl (by show(lb v.natAbs).length<_;have:=h.few;omega) JS
 rw[IG h] at this;exact this
theorem OL(h1:ACall Tryz.prog 89 [.agg (aa.cells A)] [] 0 (.val (.bool true)) [])(h2:ACall Tryz.prog 89 [.agg (aa.cells B)] [] 0 (.val (.bool true)) [])(hs0:0<s)
 (hs:ACall Tryz.prog 90 [.agg (aa.cells B)] [] 0 (.val (.int .i64 s)) []) (hg:ACall Tryz.prog 91 [.agg (aa.cells A),.agg (aa.cells B)] [] 0 (.agg (aa.cells G)) [])
 (h3:ACall Tryz.prog 95 [.agg (aa.cells A),.agg (aa.cells G)] [] 0 (.tup [.agg (aa.cells P),.agg (aa.cells R1),.val (.int .i64 0)]) []) (h4:ACall Tryz.prog 95 [.agg (aa.cells B),.agg (aa.cells G)] [] 0 (.tup [.agg (aa.cells Q),.agg (aa.cells R2),.val (.int .i64 0)]) []):
 ACall Tryz.prog 60 [.agg (aa.cells A),.agg (aa.cells B)] [] 0 (.tup [.agg (aa.cells (⟨P,Q⟩:RV)),.val (.int .i64 0)]) []:=by
 have h1:=PLift.up h1;have h2:=PLift.up h2;have hs:=PLift.up hs;have hg:=PLift.up hg;have h3:=PLift.up h3;have h4:=PLift.up h4
 rw[bC A,bC B]
 refine ak Tryz.func60 Tryz.ntmps60 rfl ?_
 repeat' (first|refine zqN ?_|refine az h1.down ?_|refine az h2.down ?_|refine az hs.down ?_|refine az hg.down ?_|refine az h3.down ?_|refine az h4.down ?_|refine aK ?_|refine aL ?_|(refine aM ?_ ?_<;>intro hc<;>try exact zqM)|refine zqR 6 [⟨0,[],[31],[],[],0⟩,⟨1,[0],[31],[],[],0⟩,⟨2,[],[29,30],[],[],0⟩,⟨3,[0,1,2],[],[],[],0⟩,⟨4,[0,1,2,3],[],[],[2],0⟩,⟨5,[0,1,2,3,4],[],[],[2],0⟩] ?_|refine zqD ?_|fail)
 all_goals first
  |((refine Ends.mk2 zqI [] ?_;simp-dsimp(disch:=try exact vD) only[push_cast,simprocAttr,Tryz.f60];try exact zqF);done)
  |skip
theorem Fe(h1:ACall Tryz.prog 89 [.agg (aa.cells A)] [] 0 (.val (.bool true)) [])(h2:ACall Tryz.prog 89 [.agg (aa.cells B)] [] 0 (.val (.bool true)) [])(hs0:s<0)
 (hs:ACall Tryz.prog 90 [.agg (aa.cells B)] [] 0 (.val (.int .i64 s)) []) (hn1:ACall Tryz.prog 94 [.agg (aa.cells A)] [] 0 (.agg (aa.cells A1)) []) (hn2:ACall Tryz.prog 94 [.agg (aa.cells B)] [] 0 (.agg (aa.cells B1)) [])
 (hg:ACall Tryz.prog 91 [.agg (aa.cells A1),.agg (aa.cells B1)] [] 0 (.agg (aa.cells G)) [])
 (h3:ACall Tryz.prog 95 [.agg (aa.cells A1),.agg (aa.cells G)] [] 0 (.tup [.agg (aa.cells P),.agg (aa.cells R1),.val (.int .i64 0)]) []) (h4:ACall Tryz.prog 95 [.agg (aa.cells B1),.agg (aa.cells G)] [] 0 (.tup [.agg (aa.cells Q),.agg (aa.cells R2),.val (.int .i64 0)]) []):
 ACall Tryz.prog 60 [.agg (aa.cells A),.agg (aa.cells B)] [] 0 (.tup [.agg (aa.cells (⟨P,Q⟩:RV)),.val (.int .i64 0)]) []:=by
 have h1:=PLift.up h1;have h2:=PLift.up h2;have hs:=PLift.up hs;have hg:=PLift.up hg;have h3:=PLift.up h3;have h4:=PLift.up h4;have hn1:=PLift.up hn1;have hn2:=PLift.up hn2
 rw[bC A,bC B]
 refine ak Tryz.func60 Tryz.ntmps60 rfl ?_
 repeat' (first|refine zqN ?_|refine az h1.down ?_|refine az h2.down ?_|refine az hs.down ?_|refine az hn1.down ?_|refine az hn2.down ?_|refine az hg.down ?_|refine az h3.down ?_|refine az h4.down ?_|refine aK ?_|refine aL ?_|(refine aM ?_ ?_<;>intro hc<;>try exact zqM)|refine zqR 6 [⟨0,[],[31],[],[],0⟩,⟨1,[0],[31],[],[],0⟩,⟨2,[],[29,30],[],[],0⟩,⟨3,[0,1,2],[],[],[],0⟩,⟨4,[0,1,2,3],[],[],[3],0⟩,⟨5,[0,1,2,3,4],[],[],[4],0⟩] ?_|refine zqD ?_|fail)
 all_goals first
  |((refine Ends.mk2 zqI [] ?_;simp-dsimp(disch:=try exact vD) only[push_cast,simprocAttr,Tryz.f60];try exact zqF);done)
  |skip
theorem ug(ha:D300 a)(hb:D300 b)(h0:¬b=0):ACall Tryz.prog 60 [.agg (aa.cells (iV z a)),.agg (aa.cells (iV z' b))] [] 0 (.tup [.agg (aa.cells (rC (Rat.divInt a b))),.val (.int .i64 0)]) []:=by
 unfold rC
 by_cases hn:b<0
 ·have ha2:D300 (-a):=by unfold D300;rw[Int.natAbs_neg];exact ha
  have hb2:D300 (-b):=by unfold D300;rw[Int.natAbs_neg];exact hb
  have hgd:=EX ha2 hb2
  have hg0:¬((Int.gcd (-a) (-b):Nat):Int)=0:=by have:=DF (a:= -a) (b:= -b) (by omega);omega
  have hn1:=J2 (z:=z) ha
  have hn2:=J2 (z:=z') hb
  rw[wN] at hn1 hn2
  have hg:=J7 (z:= -a==0) (z':= -b==0) ha2 hb2
  rw[wN] at hg
  have h3:=wQ (z:= -a==0) (z':=((Int.gcd (-a) (-b):Nat):Int)==0) ha2 hgd hg0
  have h4:=wQ (z:= -b==0) (z':=((Int.gcd (-a) (-b):Nat):Int)==0) hb2 hgd hg0
  have e1:(Rat.divInt a b).num=(-a).tdiv ((Int.gcd (-a) (-b):Nat):Int):=by
   rw[wR hn,Int.gcd_neg,Int.neg_gcd,Int.neg_tdiv,Int.tdiv_neg]
  have e2:((Rat.divInt a b).den:Int)=(-b).tdiv ((Int.gcd (-a) (-b):Nat):Int):=by
   rw[wS hn,Int.gcd_neg,Int.neg_gcd,Int.neg_tdiv,Int.tdiv_neg]
  rw[e1,e2]
  refine Fe (s:=sgn b) (wU ha) (wU hb) ?_ jN hn1 hn2 hg h3 h4
  unfold sgn;rw[if_neg h0,if_pos hn];decide
 ·have hp:0<b:=by omega
  have hgd:=EX ha hb
  have hg0:¬((Int.gcd a b:Nat):Int)=0:=by have:=DF (a:=a) h0;omega
  have hg:=J7 (z:=z) (z':=z') ha hb
  rw[wN] at hg
  have h3:=wQ (z:=z) (z':=((Int.gcd a b:Nat):Int)==0) ha hgd hg0
  have h4:=wQ (z:=z') (z':=((Int.gcd a b:Nat):Int)==0) hb hgd hg0
  rw[E8 hp,E9 hp]
  refine OL (s:=sgn b) (wU ha) (wU hb) ?_ jN hg h3 h4
  unfold sgn;rw[if_neg h0,if_neg hn];decide
theorem Ye(h1:ACall Tryz.prog 88 [.val (.int .i64 a)] [] 0 (.agg (aa.cells A)) [])(h2:ACall Tryz.prog 88 [.val (.int .i64 b)] [] 0 (.agg (aa.cells B)) [])(hr:ACall Tryz.prog 60 [.agg (aa.cells A),.agg (aa.cells B)] [] 0 (.tup [.agg (aa.cells X),.val (.int .i64 e)]) []):
 ACall Tryz.prog 57 [.val (.int .i64 a),.val (.int .i64 b)] [] 0 (.tup [.agg (aa.cells X),.val (.int .i64 e)]) []:=by
 have h1:=PLift.up h1;have h2:=PLift.up h2;have hr:=PLift.up hr
 refine ak Tryz.func57 Tryz.ntmps57 rfl ?_
 repeat' (first|refine zqN ?_|refine az h1.down ?_|refine az h2.down ?_|refine az hr.down ?_|refine aK ?_|refine aL ?_|(refine aM ?_ ?_<;>intro hc<;>try exact zqM))
 all_goals first
  |((refine Ends.mk2 zqI [] ?_;simp-dsimp(disch:=try exact vD) only[push_cast,simprocAttr,Tryz.f57];try exact zqF);done)
  |skip
theorem OM(ha:I64 a)(hb:I64 b)(h0:¬b=0):ACall Tryz.prog 57 [.val (.int .i64 a),.val (.int .i64 b)] [] 0 (.tup [.agg (aa.cells (rC (Rat.divInt a b))),.val (.int .i64 0)]) []:=
 Ye (JZ ha.1 ha.2) (JZ hb.1 hb.2) (ug (z:=a==0) (z':=b==0) (Fa ha) (Fa hb) h0)
theorem Tt(h1:ACall Tryz.prog 89 [.agg (aa.cells X.num)] [] 0 (.val (.bool false)) []):ACall Tryz.prog 58 [.agg (aa.cells X)] [] 0 (.val (.bool false)) []:=by
 have h1:=PLift.up h1
 rw[aB X]
 refine ak Tryz.func58 Tryz.ntmps58 rfl ?_
 repeat' (first|refine zqN ?_|refine az h1.down ?_|refine aK ?_|refine aL ?_|(refine aM ?_ ?_<;>intro hc<;>try exact zqM))
 all_goals first
  |((refine Ends.mk2 zqI [] ?_;simp-dsimp(disch:=try exact vD) only[push_cast,simprocAttr,Tryz.f58];try exact zqF);done)
  |skip
theorem Tu(h1:ACall Tryz.prog 89 [.agg (aa.cells X.num)] [] 0 (.val (.bool true)) [])(h2:ACall Tryz.prog 89 [.agg (aa.cells X.den)] [] 0 (.val (.bool false)) []):ACall Tryz.prog 58 [.agg (aa.cells X)] [] 0 (.val (.bool false)) []:=by
 have h1:=PLift.up h1;have h2:=PLift.up h2
 rw[aB X]
 refine ak Tryz.func58 Tryz.ntmps58 rfl ?_
 repeat' (first|refine zqN ?_|refine az h1.down ?_|refine az h2.down ?_|refine aK ?_|refine aL ?_|(refine aM ?_ ?_<;>intro hc<;>try exact zqM))
 all_goals first
  |((refine Ends.mk2 zqI [] ?_;simp-dsimp(disch:=try exact vD) only[push_cast,simprocAttr,Tryz.f58];try exact zqF);done)
  |skip
theorem Tv(h1:ACall Tryz.prog 89 [.agg (aa.cells X.num)] [] 0 (.val (.bool true)) [])(h2:ACall Tryz.prog 89 [.agg (aa.cells X.den)] [] 0 (.val (.bool true)) [])(hs0:s≤0)
 (hs:ACall Tryz.prog 90 [.agg (aa.cells X.den)] [] 0 (.val (.int .i64 s)) []):ACall Tryz.prog 58 [.agg (aa.cells X)] [] 0 (.val (.bool false)) []:=by
 have h1:=PLift.up h1;have h2:=PLift.up h2;have hs:=PLift.up hs
 rw[aB X]
 refine ak Tryz.func58 Tryz.ntmps58 rfl ?_
 repeat' (first|refine zqN ?_|refine az h1.down ?_|refine az h2.down ?_|refine az hs.down ?_|refine aK ?_|refine aL ?_|(refine aM ?_ ?_<;>intro hc<;>try exact zqM))
 all_goals first
  |((refine Ends.mk2 zqI [] ?_;simp-dsimp(disch:=try exact vD) only[push_cast,simprocAttr,Tryz.f58];try exact zqF);done)
  |skip
theorem Tw{r:Bool}(h1:ACall Tryz.prog 89 [.agg (aa.cells X.num)] [] 0 (.val (.bool true)) [])(h2:ACall Tryz.prog 89 [.agg (aa.cells X.den)] [] 0 (.val (.bool true)) [])(hs0:¬s≤0)
 (hs:ACall Tryz.prog 90 [.agg (aa.cells X.den)] [] 0 (.val (.int .i64 s)) []) (hg:ACall Tryz.prog 91 [.agg (aa.cells X.num),.agg (aa.cells X.den)] [] 0 (.agg (aa.cells G)) [])
 (h3:ACall Tryz.prog 88 [.val (.int .i64 1)] [] 0 (.agg (aa.cells Z1)) []) (hcq:ACall Tryz.prog 49 [.agg (aa.cells G),.agg (aa.cells Z1)] [] 0 (.val (.bool r)) []):ACall Tryz.prog 58 [.agg (aa.cells X)] [] 0 (.val (.bool r)) []:=by
 have h1:=PLift.up h1;have h2:=PLift.up h2;have hs:=PLift.up hs;have hg:=PLift.up hg;have h3:=PLift.up h3;have hcq:=PLift.up hcq
 rw[aB X]
 refine ak Tryz.func58 Tryz.ntmps58 rfl ?_
 repeat' (first|refine zqN ?_|refine az h1.down ?_|refine az h2.down ?_|refine az hs.down ?_|refine az hg.down ?_|refine az h3.down ?_|refine az hcq.down ?_|refine aK ?_|refine aL ?_|(refine aM ?_ ?_<;>intro hc<;>try exact zqM))
 all_goals first
  |((refine Ends.mk2 zqI [] ?_;simp-dsimp(disch:=try exact vD) only[push_cast,simprocAttr,Tryz.f58];try exact zqF);done)
  |skip
theorem Ff(hX:RIn X):∃r:Bool,(r=true↔∃q,RIs X q)∧ACall Tryz.prog 58 [.agg (aa.cells X)] [] 0 (.val (.bool r)) []:=by
 have v1:=vo (X:=X.num) rfl hX.ln hX.rn
 have v2:=vo (X:=X.den) rfl hX.ld hX.rd
 rw[QG hX]
 by_cases c1:vB X.num=true
 ·rw[c1] at v1
  obtain⟨a,ea,ia⟩:=QH hX.rn hX.zn c1
  by_cases c2:vB X.den=true
  ·rw[c2] at v2
   obtain⟨b,eb,ib⟩:=QH hX.rd hX.zd c2
   have hs:=jN (z:=X.den.z) (v:=b)
   rw[←eb] at hs
   by_cases c3:sgn b≤0
   ·refine⟨false,⟨fun h=>by(cases h),?_⟩,Tv v1 v2 c3 hs⟩
    rintro⟨z,a',z',b',e,_,_,h3,_⟩
    have e2:X.den=iV z' b':=by rw[e]
    rw[eb] at e2
    have:=rF e2
    exfalso
    unfold sgn at c3
    rw[if_neg (by omega),if_neg (by omega)] at c3
    omega
   ·have hg:=J7 (z:=X.num.z) (z':=X.den.z) ia.d ib.d
    rw[←ea,←eb] at hg
    have hgd:=EX ia.d ib.d
    have h1:=JZ (v:=1) (by decide) (by decide)
    rw[wN] at hg h1
    have hc:=X0 (z:=((Int.gcd a b:Nat):Int)==0) (z':=(1:Int)==0) hgd rD
    have hb0:0<b:=by
     unfold sgn at c3
     by_cases h1:b=0
     ·rw[if_pos h1] at c3;omega
     ·by_cases h2:b<0
      ·rw[if_neg h1,if_pos h2] at c3;omega
      ·omega
    refine⟨_,?_,Tw v1 v2 c3 hs hg h1 hc⟩
    rw[decide_eq_true_eq]
    constructor
    ·intro h
     refine⟨X.num.z,a,X.den.z,b,?_,ia.d,ib.d,hb0,by omega⟩
     rw[←ea,←eb]
    ·rintro⟨z,a',z',b',e,_,_,_,h4⟩
     have e1:X.num=iV z a':=by rw[e]
     have e2:X.den=iV z' b':=by rw[e]
     rw[ea] at e1;rw[eb] at e2
     rw[←rF e1,←rF e2] at h4
     rw[h4];rfl
  ·rw[Bool.not_eq_true _ |>.mp c2] at v2
   refine⟨false,⟨fun h=>by(cases h),?_⟩,Tu v1 v2⟩
   rintro⟨z,a',z',b',e,_,h2,_⟩
   have e2:X.den=iV z' b':=by rw[e]
   exact absurd (by rw[e2];exact IG h2) c2
 ·rw[Bool.not_eq_true _ |>.mp c1] at v1
  refine⟨false,⟨fun h=>by(cases h),?_⟩,Tt v1⟩
  rintro⟨z,a',z',b',e,h1,_⟩
  have e1:X.num=iV z a':=by rw[e]
  exact absurd (by rw[e1];exact IG h1) c1
theorem wV(h:ROk z q):ACall Tryz.prog 58 [.agg (aa.cells (rQ z q))] [] 0 (.val (.bool true)) []:=by
 obtain⟨r,h1,h2⟩:=Ff h.in_
 rw[h1.2 ⟨q,h.is⟩] at h2;exact h2
