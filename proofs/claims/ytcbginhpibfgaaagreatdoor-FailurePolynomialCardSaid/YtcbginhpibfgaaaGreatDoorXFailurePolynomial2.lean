/- Dv3 Di24 Fb2 Fb3 Fb4 Fb5 Fb6 Fa6 Fc4 FailArgs FacFailurePolynomial Dg9 LawEP. No condition. -/
import Derived.Test.YtcbginhpibfgaaaGreatDoorXFailurePolynomial1
import Derived.Test.YtcbginhpibfgaaaGreatDoorFacAll
import Derived.Test.YtcbginhpibfgaaaGreatDoorFDoor
import Derived.Test.YtcbginhpibfgaaaGreatDoorFcG1
import Derived.Test.YtcbginhpibfgaaaGreatDoorLawD1
import Derived.Test.YtcbginhpibfgaaaGreatDoorCards
import Derived.SevenTiedAt
set_option linter.all false
set_option maxHeartbeats 4000000
set_option maxRecDepth 20000
namespace Go.Proofs.YtcbginhpibfgaaaGreatDoor
section
open Go Go.Sy Go.Dg
attribute [local irreducible] AO AL AC OpT ACall Ends DGo bK Thn Blk Nxt
variable {N N' M T:Nat} {F G:List Fo} {L L':List Fk} {k i m s t a j R:Nat} {p q n r e n' r' o v lo hi:Int} {z z' b nb:Bool} {x y:Fk}
def vbI(z:Bool)(n:Int)(L:List Fk)(N c t:Nat)(x:{x:Nat // x=0}):St:=
 ⟨34,0,[(1,.val (.int .i64 ((c:Int)+1+1))),(2,.val (.int .u16 (U t))),(3,.pt 0 0)],[(0,some (.cells [.val (.int .i64 n),.isl z (cR L) N,.val (.int .i64 ((c:Int)+1+1))] 29))]⟩
theorem TQ(hN2:N<2^40)(hr:N+2≤R)(hr2:R<2^63)(ht:t<65536):ACall Tryz.prog 110 [dI z n L N R,.val (.int .i64 R),.val (.int .u16 (U t))] [] 0 (.val (.bool false)) []:=by
 unfold dI
 obtain⟨c,rfl⟩:∃c,R=c+2:=⟨R-2,by omega⟩
 have zx1:((c:Int)+1+1=1)=False:=eq_false (by omega)
 refine ak Tryz.func110 Tryz.ntmps110 rfl ?_
 have zx2:= @uG;have zx3:=aC;repeat' (first|(refine ai ?_;refine au [0] ([0].length) (vbI z n L N c t) (fun _=>0) (⟨0,rfl⟩) rfl (by unfold vbI;exact eQ) ?_;(rintro⟨x,rfl⟩;(simp-dsimp only[vbI];refine zqS ?_)))|refine zqN ?_|refine bM ?_|refine bO ?_|(refine bP ?_ ?_<;>intro hc<;>try exact zqM))
 all_goals first
  |((refine Ends.mk2 zqI [] ?_;simp-dsimp(disch:=try exact vD) only[push_cast,simprocAttr,Tryz.f110,zx1];try exact zqF);done)
  |skip
theorem vz(hm:m≤12)(hb:Bnd F)(h16:∀k,k<F.length→(F.getD k default).v<16)(hN:F.length=N)(hN2:N<2^40)(hr:R<2^63)(hT:2^m=T):ACall Tryz.prog 78 [.agg [.val (.int .i64 m),.isl z (cR F) N,.val (.int .i64 R)]] [] 0 (.isl false (cB (lT F R T)) T) []:=by
 have hp:2^m≤2^12:=Nat.pow_le_pow_right (by omega) hm
 have hpp:=Nat.two_pow_pos m
 have zx2:=Bc (n:=m) (by omega)
 rw[hT] at hp hpp zx2
 have hv:=fun(t:Nat) (h:t<65536)=>PLift.up (by
  have:ACall Tryz.prog 110 [.agg [.val (.int .i64 m),.isl z (cR F) N,.val (.int .i64 R)],.val (.int .i64 R),.val (.int .u16 (U t))] [] 0 (.val (.bool (aG F t R))) []:=by
   by_cases hR:R<N+2
   ·exact Lt (z:=z) (p:=m) (q:=R) (t:=t) hb h16 hN hN2 (by omega) h
   ·rw[Ls hb (by omega),←gV]
    exact TQ (z:=z) (n:=m) (L:=F.map fk) hN2 (by omega) hr h
  rw[Lp h] at this;exact this)
 have htk:=fun s=>WN (F:=F) (r:=R) (s:=s)
 have hx:=ae;have zx1:=ae
 refine ak Tryz.func78 Tryz.ntmps78 rfl ?_
 have zx3:= @mr;have zx4:= @gU;have zx5:=aC;have zx6:=aC;repeat' (first|(refine ai ?_;refine au [0,9] ([0,9].length) (rtI z m F N R T) (fun s=>T-s.val) (⟨0,by omega⟩) rfl (by unfold rtI;exact gY) ?_;(rintro⟨s,hs⟩;rcases Nat.lt_or_eq_of_le hs with hsl|hsl<;>first|(have es:T=s:=hsl.symm;subst es;(simp-dsimp only[rtI];refine zqS ?_))|(rcases Nat.eq_zero_or_pos s with h0|h0<;>first|(have hx:[AV.val (.bool (aG F s R))]=cB (lT F R (s+1)):=(by subst h0;rfl);(simp-dsimp only[rtI];refine zqS ?_))|(simp-dsimp only[rtI];refine zqS ?_))))|(refine ax ?_;refine Nxt.mk [0,2] (⟨s+1,by omega⟩) rfl (by unfold rtI;(try simp only[List.cons_append,List.nil_append]);refine Sub.mk2 ?_;(simp-dsimp(disch:=try exact vD) only[push_cast,simprocAttr,zx1,zx2,mr,gU,hx]);(repeat refine aI ?_);first|done|exact vI) zqO)|(refine ax ?_;refine Nxt.mk [0,3] (⟨s+1,by omega⟩) rfl (by unfold rtI;(try simp only[List.cons_append,List.nil_append]);refine Sub.mk2 ?_;(simp-dsimp(disch:=try exact vD) only[push_cast,simprocAttr,zx1,zx2,mr,gU,hx]);(repeat refine aI ?_);first|done|exact vI) zqO)|(refine ax ?_;refine Nxt.mk [0,1] (⟨s+1,by omega⟩) rfl (by unfold rtI;(try simp only[List.cons_append,List.nil_append]);refine Sub.mk2 ?_;(simp-dsimp(disch:=try exact vD) only[push_cast,simprocAttr,zx1,zx2,mr,gU,hx]);(repeat refine aI ?_);first|done|exact vI) zqO)|refine zqN ?_|refine gG (hv s (by omega)).down ?_|refine kE ?_|refine AX ?_|refine AY ?_|refine AZ ?_|refine kF ?_|(refine kG ?_ ?_<;>intro hc<;>try exact zqM))
 all_goals first
  |(((refine Ends.frz 1 ?_;simp-dsimp(disch:=try exact vD) only[push_cast,simprocAttr,Tryz.f78,htk];(repeat refine aI ?_);intro K hK;refine hK _ _ ?_;clear hK K);refine Ends.mk2 zqI [] ?_;simp-dsimp(disch:=try exact vD) only[push_cast,simprocAttr,Tryz.f78,htk];try exact zqF);done)
  |skip
structure RfI(n:Int)(L:List Fk)(i:Nat):Prop where
 v0:0≤(L.getD i default).v
 v1:(L.getD i default).v<n
 l0:0≤(L.getD i default).lo
 h0:0≤(L.getD i default).hi
 l1:(L.getD i default).lo<i+2
 h1:(L.getD i default).hi<i+2
theorem uL(h:n<0∨12<n):ACall Tryz.prog 50 [dI z n L N r] [] 0 (.val (.int .i64 7)) []:=by
 unfold dI
 rcases h with h|h
 all_goals(refine ak Tryz.func50 Tryz.ntmps50 rfl ?_)
 all_goals repeat' (first|refine zqN ?_|refine aK ?_|refine aL ?_|(refine aM ?_ ?_<;>intro hc<;>try exact zqM)|refine zqR 9 [⟨0,[],[],[],[],0⟩,⟨1,[0],[],[],[],0⟩,⟨2,[0,1],[],[],[],0⟩,⟨3,[0,1,2],[],[],[],0⟩,⟨4,[0,1,2,3],[70,71,72,73,74],[],[],0⟩,⟨5,[0,1,2,3],[69,72,73],[],[],0⟩,⟨6,[0,1,2,3,5],[69,72,73],[],[],0⟩,⟨7,[0,1,2,3],[69,70,71],[],[],0⟩,⟨8,[0,1,2,3,7],[69,70,71],[],[],0⟩,⟨9,[0,1,2,3,5,6,7,8],[69],[],[],0⟩,⟨10,[0,1,2,3,4,5,6,7,8,9],[],[],[],0⟩,⟨11,[0,1,2,3,4,5,6,7,8,9,10],[],[],[],0⟩,⟨12,[0,1,2,3,4,5,6,7,8,9,10,11],[],[],[],0⟩] ?_|refine zqD ?_|fail)
 all_goals first
  |((refine Ends.mk2 zqI [] ?_;simp-dsimp(disch:=try exact vD) only[push_cast,simprocAttr,Tryz.f50];try exact zqF);done)
  |skip
def rvJ(z:Bool)(n q:Int)(L:List Fk)(N:Nat)(i:{i:Nat // i≤N∧∀j,j<i→RfI n L j}):St:=
 ⟨78,0,[(1,.pt 0 0),(3,.val (.int .i64 i.val))],[(0,some (.cells [.val (.int .i64 n),.isl z (cR L) N,.val (.int .i64 q)] 29))]⟩
theorem Bn(h0:0≤n)(h12:n≤12)(hN:L.length=N)(hN2:N≤1000)(h:¬∀j,j<N→RfI n L j):ACall Tryz.prog 50 [dI z n L N r] [] 0 (.val (.int .i64 1)) []:=by
 have hz:0≤N∧∀j,j<0→RfI n L j:=⟨Nat.zero_le _,fun j hj=>absurd hj (by omega)⟩
 have zx1:=ae
 unfold dI
 refine ak Tryz.func50 Tryz.ntmps50 rfl ?_
 have zx2:= @lU;have zx3:=aC;repeat' (first|(refine ai ?_;refine au [0] ([0].length) (rvJ z n r L N) (fun i=>N-i.val) (⟨0,hz⟩) rfl (by unfold rvJ;exact eQ) ?_;(rintro⟨i,hi1,hok⟩;rcases Nat.lt_or_eq_of_le hi1 with hil|hil<;>first|(exfalso;rw[hil] at hok;exact h hok)|(obtain⟨x,zx1⟩:∃x,L.getD i default=x:=⟨_,rfl⟩;obtain⟨v,lo,hi⟩:=x;(simp-dsimp only[rvJ];refine zqS ?_))))|(refine ax ?_;refine Nxt.mk [0] (⟨i+1,by omega,fun j hj=>by rcases Nat.lt_or_eq_of_le (Nat.le_of_lt_succ hj) with h|h;exact hok j h;rw[h];refine⟨?_,?_,?_,?_,?_,?_⟩<;>rw[zx1]<;>first|assumption|omega|(dsimp only;omega)⟩) rfl (by unfold rvJ;exact eQ) zqO)|refine zqN ?_|refine bM ?_|refine bO ?_|(refine bP ?_ ?_<;>intro hc<;>try exact zqM)|refine zqR 9 [⟨0,[],[],[],[],0⟩,⟨1,[0],[],[],[],0⟩,⟨2,[0,1],[],[],[],0⟩,⟨3,[0,1,2],[],[],[],0⟩,⟨4,[0,1,2,3],[70,71,72,73,74],[],[],0⟩,⟨5,[0,1,2,3],[69,72,73],[],[],0⟩,⟨6,[0,1,2,3,5],[69,72,73],[],[],0⟩,⟨7,[0,1,2,3],[69,70,71],[],[],0⟩,⟨8,[0,1,2,3,7],[69,70,71],[],[],0⟩,⟨9,[0,1,2,3,5,6,7,8],[69],[],[],0⟩,⟨10,[0,1,2,3,4,5,6,7,8,9],[],[],[],0⟩,⟨11,[0,1,2,3,4,5,6,7,8,9,10],[],[],[],0⟩,⟨12,[0,1,2,3,4,5,6,7,8,9,10,11],[],[],[],0⟩] ?_|refine zqD ?_|fail)
 all_goals first
  |((refine Ends.mk2 zqI [] ?_;simp-dsimp(disch:=try exact vD) only[push_cast,simprocAttr,Tryz.f50];try exact zqF);done)
  |skip
theorem wZ(h0:0≤n)(h12:n≤12)(hN:L.length=N)(hN2:N≤1000)(h:∀j,j<N→RfI n L j)(hr:r<0):ACall Tryz.prog 50 [dI z n L N r] [] 0 (.val (.int .i64 1)) []:=by
 have hz:0≤N∧∀j,j<0→RfI n L j:=⟨Nat.zero_le _,fun j hj=>absurd hj (by omega)⟩
 have zx1:=ae
 unfold dI
 refine ak Tryz.func50 Tryz.ntmps50 rfl ?_
 have zx2:= @lU;have zx3:=aC;repeat' (first|(refine ai ?_;refine au [0] ([0].length) (rvJ z n r L N) (fun i=>N-i.val) (⟨0,hz⟩) rfl (by unfold rvJ;exact eQ) ?_;(rintro⟨i,hi1,hok⟩;rcases Nat.lt_or_eq_of_le hi1 with hil|hil<;>first|(have ei:N=i:=hil.symm;subst ei;(simp-dsimp only[rvJ];refine zqS ?_))|(obtain⟨x,zx1⟩:∃x,L.getD i default=x:=⟨_,rfl⟩;obtain⟨v,lo,hi⟩:=x;obtain⟨a1,a2,a3,a4,a5,a6⟩:=h i hil;rw[zx1] at a1 a2 a3 a4 a5 a6;dsimp only at a1 a2 a3 a4 a5 a6;(simp-dsimp only[rvJ];refine zqS ?_))))|(refine ax ?_;refine Nxt.mk [0] (⟨i+1,by omega,fun j hj=>h j (by omega)⟩) rfl (by unfold rvJ;exact eQ) zqO)|refine zqN ?_|refine bM ?_|refine bO ?_|(refine bP ?_ ?_<;>intro hc<;>try exact zqM)|refine zqR 9 [⟨0,[],[],[],[],0⟩,⟨1,[0],[],[],[],0⟩,⟨2,[0,1],[],[],[],0⟩,⟨3,[0,1,2],[],[],[],0⟩,⟨4,[0,1,2,3],[70,71,72,73,74],[],[],0⟩,⟨5,[0,1,2,3],[69,72,73],[],[],0⟩,⟨6,[0,1,2,3,5],[69,72,73],[],[],0⟩,⟨7,[0,1,2,3],[69,70,71],[],[],0⟩,⟨8,[0,1,2,3,7],[69,70,71],[],[],0⟩,⟨9,[0,1,2,3,5,6,7,8],[69],[],[],0⟩,⟨10,[0,1,2,3,4,5,6,7,8,9],[],[],[],0⟩,⟨11,[0,1,2,3,4,5,6,7,8,9,10],[],[],[],0⟩,⟨12,[0,1,2,3,4,5,6,7,8,9,10,11],[],[],[],0⟩] ?_|refine zqD ?_|fail)
 all_goals first
  |((refine Ends.mk2 zqI [] ?_;simp-dsimp(disch:=try exact vD) only[push_cast,simprocAttr,Tryz.f50];try exact zqF);done)
  |skip
theorem vC{tb:List AV} {W:List AV} {K:Nat} {w:Int} {zw:Bool}(h0:0≤n)(h12:n≤12)(hN:L.length=N)(hN2:N≤1000)(h:∀j,j<N→RfI n L j)(hr:0≤r)
 (ht:ACall Tryz.prog 78 [dI z n L N r] [] 0 (.isl false tb T) []) (hf:ACall Tryz.prog 42 [.val (.int .i64 n),.isl false tb T] [] 0 (.agg [.val (.int .i64 n),.isl zw W K,.val (.int .i64 w)]) [])
 (he:ACall Tryz.prog 82 [dI z n L N r,.agg [.val (.int .i64 n),.isl zw W K,.val (.int .i64 w)]] [] 0 (.val (.bool b)) []):ACall Tryz.prog 50 [dI z n L N r] [] 0 (.val (.int .i64 (if b=true then 0 else 1))) []:=by
 have hz:0≤N∧∀j,j<0→RfI n L j:=⟨Nat.zero_le _,fun j hj=>absurd hj (by omega)⟩
 have zx1:=ae
 have ht:=PLift.up ht;have hf:=PLift.up hf;have he:=PLift.up he
 unfold dI at*
 cases b
 all_goals(refine ak Tryz.func50 Tryz.ntmps50 rfl ?_)
 all_goals(have zx2:= @lU;have zx3:=aC;repeat' (first|(refine ai ?_;refine au [0] ([0].length) (rvJ z n r L N) (fun i=>N-i.val) (⟨0,hz⟩) rfl (by unfold rvJ;exact eQ) ?_;(rintro⟨i,hi1,hok⟩;rcases Nat.lt_or_eq_of_le hi1 with hil|hil<;>first|(have ei:N=i:=hil.symm;subst ei;(simp-dsimp only[rvJ];refine zqS ?_))|(obtain⟨x,zx1⟩:∃x,L.getD i default=x:=⟨_,rfl⟩;obtain⟨v,lo,hi⟩:=x;obtain⟨a1,a2,a3,a4,a5,a6⟩:=h i hil;rw[zx1] at a1 a2 a3 a4 a5 a6;dsimp only at a1 a2 a3 a4 a5 a6;(simp-dsimp only[rvJ];refine zqS ?_))))|(refine ax ?_;refine Nxt.mk [0] (⟨i+1,by omega,fun j hj=>h j (by omega)⟩) rfl (by unfold rvJ;exact eQ) zqO)|refine zqN ?_|refine bE ht.down ?_|refine bE hf.down ?_|refine bE he.down ?_|refine bM ?_|refine bO ?_|(refine bP ?_ ?_<;>intro hc<;>try exact zqM)|refine zqR 9 [⟨0,[],[],[],[],0⟩,⟨1,[0],[],[],[],0⟩,⟨2,[0,1],[],[],[],0⟩,⟨3,[0,1,2],[],[],[],0⟩,⟨4,[0,1,2,3],[70,71,72,73,74],[],[],0⟩,⟨5,[0,1,2,3],[69,72,73],[],[],0⟩,⟨6,[0,1,2,3,5],[69,72,73],[],[],0⟩,⟨7,[0,1,2,3],[69,70,71],[],[],0⟩,⟨8,[0,1,2,3,7],[69,70,71],[],[],0⟩,⟨9,[0,1,2,3,5,6,7,8],[69],[],[],0⟩,⟨10,[0,1,2,3,4,5,6,7,8,9],[],[],[],0⟩,⟨11,[0,1,2,3,4,5,6,7,8,9,10],[],[],[],0⟩,⟨12,[0,1,2,3,4,5,6,7,8,9,10,11],[],[],[],0⟩] ?_|refine zqD ?_|fail))
 all_goals first
  |((refine Ends.mk2 zqI [] ?_;simp-dsimp(disch:=try exact vD) only[push_cast,simprocAttr,Tryz.f50];try exact zqF);done)
  |skip
theorem TR(h:¬VOk m L r)(hN:L.length=N)(hm:m≤9)(hN2:N≤1000)(hr63:r<2^63):ACall Tryz.prog 50 [dI z m L N r] [] 0 (.val (.int .i64 1)) []:=by
 by_cases hb:∀j,j<N→RfI m L j
 ·by_cases hr:r<0
  ·exact wZ (by omega) (by omega) hN (by omega) hb hr
  ·obtain⟨R,rfl⟩:=Int.eq_ofNat_of_zero_le (show 0≤r by omega)
   have hL:(L.map tof).map fk=L:=YK fun i hi=>⟨(hb i (by omega)).v0,(hb i (by omega)).l0,(hb i (by omega)).h0⟩
   obtain⟨F,hF⟩:∃F,L.map tof=F:=⟨_,rfl⟩
   rw[hF] at hL
   have hFN:F.length=N:=by rw[←hF,List.length_map,hN]
   have hbd:Bnd F:=fun k hk=>by
    have o:=hb k (by omega)
    have o1:=o.l1;have o2:=o.h1
    rw[←hL,fkL hk] at o1 o2
    have b1:((F.getD k default).lo:Int)<k+2:=o1
    have b2:((F.getD k default).hi:Int)<k+2:=o2
    omega
   have h16:∀k,k<F.length→(F.getD k default).v<16:=fun k hk=>by
    have o:=(hb k (by omega)).v1
    rw[←hL,fkL hk] at o
    have b1:((F.getD k default).v:Int)<m:=o
    omega
   have ht:=vz (z:=z) (R:=R) (by omega) hbd h16 hFN (by omega) (by omega) (rfl:2^m=2^m)
   have hf:=lV (n:=m) (tb:=lT F R (2^m)) (M:=2^m) (by omega) gU rfl
   rw[yA rfl] at hf
   obtain⟨⟨D,w⟩,hD⟩:∃X,(fC m fun t=>aG F t R)=X:=⟨_,rfl⟩
   rw[hD] at hf
   have heq:=EF (z:=z) (z':=(D.length==0)) (p:=(m:Int)) (p':=(m:Int)) (q:=(R:Int)) (q':=(w:Int)) (L:=F.map fk) (L':=D.map fk) (by rw[List.length_map];omega)
   have hne:decide ((m:Int)=m∧(R:Int)=w∧F.map fk=D.map fk)=false:=by
    rw[decide_eq_false_iff_not]
    rintro⟨_,h1,h2⟩
    have e2:F=D:=List.map_inj_right (f:=fk) (fun x y hxy=>by
     cases x;cases y
     simp only[fk,Fk.mk.injEq] at hxy
     simp only[Fo.mk.injEq];omega) |>.1 h2
    have e1:R=w:=by omega
    have ho:=nD (n:=m) (tab:=fun t=>aG F t R) hm
    rw[hD,←e2,←e1] at ho
    exact h ⟨F,R,hL.symm,rfl,ho⟩
   rw[hne,←mP,←mP] at heq
   unfold dgV at heq hf
   have hx:=vC (z:=z) (L:=L) (b:=false) (show(0:Int)≤m by omega) (by omega) hN (by omega) hb (show(0:Int)≤(R:Int) by omega) (by unfold dI;rw[←hL,gV];exact ht) hf (by unfold dI;rw[←hL,gV,←hFN];exact heq)
   rw[if_neg (by simp)] at hx
   exact hx
 ·exact Bn (by omega) (by omega) hN (by omega) hb
theorem yQ(h:VOk m L r)(hN:L.length=N)(hm:m≤12):ACall Tryz.prog 50 [dI z m L N r] [] 0 (.val (.int .i64 0)) []:=by
 obtain⟨F,R,rfl,rfl,hD⟩:=h
 rw[List.length_map] at hN
 have hf0:=hD.few;have hl0:=hD.lt
 have hb:∀j,j<N→RfI m (F.map fk) j:=fun j hj=>by
  have o:=YM hD.good (show j<F.length by omega)
  exact⟨o.v0,o.v1,o.l0,o.h0,o.l1,o.h1⟩
 have ht:=vz (z:=z) (R:=R) hm hD.bnd hD.v16 hN (by omega) (by omega) (rfl:2^m=2^m)
 have hf:=lV (n:=m) (tb:=lT F R (2^m)) (M:=2^m) (by omega) gU rfl
 rw[yA rfl,hD.eq (tab:=fun t=>aG F t R) fun _ _=>rfl] at hf
 have heq:=N9 (z:=z) (z':=(F.length==0)) (p:=(m:Int)) (q:=(R:Int)) (L:=F.map fk) (by rw[List.length_map];omega)
 rw[←mP,←mP] at heq
 unfold dgV at heq hf
 have hx:=vC (z:=z) (L:=F.map fk) (r:=(R:Int)) (b:=true) (show(0:Int)≤m by omega) (by omega) (by rw[List.length_map,hN]) (by omega) hb (by omega) (by unfold dI;rw[gV];exact ht) hf (by unfold dI;rw[gV,←hN];exact heq)
 rw[if_pos rfl] at hx
 exact hx
end
section
open Go Go.Sy Go.Bp Go.Dg
attribute [local irreducible] AO AL AC OpT ACall Ends DGo bK Thn Blk Nxt
variable {n N M T k i m r a b j w u v s q x y d:Nat} {z:Bool} {F:List Fo} {p f g:Nat→Bool}
theorem vE(h:s<T):(fD p T).getD s default=p s:=Qd h
theorem Pe:fD p s++[p s]=fD p (s+1):=by unfold fD;rw[List.range_succ];simp
end
section
open Go Go.Sy Go.Lm Go.Rt Go.Dg
attribute [local irreducible] AO AL AC OpT ACall Ends DGo bK Thn Blk Nxt
section
variable {n N np k i m j r s T sv:Nat} {z z' zp zt:Bool} {ps xs:List RV} {L:List Fk} {F:List Fo} {X Y W ONE:RV} {A D S:Nat→RV} {v c e e2 rt:Int} {p:Nat→Rat} {tb:List Bool} {tab:Nat→Bool} {d:Nat→Nat}
theorem YS(h:i≤16):Int.fdiv (s:Int) (2^min i (IntKind.bits .i64))=sN s i:=by
 rw[show IntKind.bits .i64=64 from rfl,Nat.min_eq_left (by omega),Int.fdiv_eq_ediv_of_nonneg _ (Int.le_of_lt (Int.pow_pos (by decide)))]
 unfold sN
 rw[Nat.shiftRight_eq_div_pow,Int.natCast_ediv,Int.natCast_pow];rfl
theorem YT(hs:s<65536):IntKind.wrap .i64 ((BitVec.ofInt (IntKind.bits .i64) (sN s i)&&&BitVec.ofInt (IntKind.bits .i64) (1:Int)).toNat:Int)=bN s i:=by
 have hl:=VW (i:=i) hs
 unfold sN bN
 generalize s>>>i=w at*
 have e1:(BitVec.ofInt (IntKind.bits .i64) ((w:Nat):Int)).toNat=w:=by
  show(BitVec.ofInt 64 _).toNat=_
  rw[BitVec.toNat_ofInt];omega
 have e2:(BitVec.ofInt (IntKind.bits .i64) (1:Int)).toNat=1:=rfl
 rw[BitVec.toNat_and,e1,e2]
 have:w&&&1≤1:=Nat.and_le_right
 exact K8 (by omega)
end
section
variable {n N np k i m j r s T sv:Nat} {z z' zp zt:Bool} {ps xs:List RV} {L:List Fk} {F:List Fo} {X Y W A B V:RV} {v c e e2 rt:Int} {p:Nat→Rat} {tab f:Nat→Bool}
def deI(T:Nat)(f:Nat→Bool)(s:{s:Nat // s≤T}):St:=
 ⟨23,0,[(3,kC s.val 0 1),(4,.isl false (cB (fD f T)) T),(5,.val (.int .i64 s.val))],kD s.val 0 (cB (fD (fun t=> !f t) s.val)) 4⟩
theorem MC:(cB (fD f T)).take T=cB (fD f T):=List.take_of_length_le (by rw[cB_len,bR];exact Nat.le_refl _)
theorem ai8(hT:0<T)(hT2:T<2^30)(h:ACall Tryz.prog 78 [dI z n L N rt] [] 0 (.isl false (cB (fD f T)) T) []):ACall Tryz.prog 48 [dI z n L N rt] [] 0 (.isl false (cB (fD (fun t=> !f t) T)) T) []:=by
 have hq:=PLift.up h
 clear h
 have zx3:=MC (f:=fun t=> !f t) (T:=T)
 have hlt:=bR (p:=f) (T:=T)
 have hlen:=fun(s:Nat)=>bR (p:=fun t=> !f t) (T:=s)
 have zx1:=ae;have hsn:=ae;have zx2:=ae
 unfold dI at*
 refine ak Tryz.func48 Tryz.ntmps48 rfl ?_
 have zx4:= @bR;have zx5:=aC;have zx6:=aC;repeat' (first|(refine ai ?_;refine au [9] ([9].length) (deI T f) (fun s=>T-s.val) (⟨0,Nat.zero_le _⟩) rfl (by unfold deI;exact gY) ?_;(rintro⟨s,hs⟩;rcases Nat.lt_or_eq_of_le hs with hsl|hsl<;>first|(subst hsl;(simp-dsimp only[deI];refine zqS ?_))|(have zx1:=vE (p:=f) hsl;have hsn:=Pe (p:=fun t=> !f t) (s:=s);have hls:=hlen s;(try dsimp only at hsn);rcases Bool.eq_false_or_eq_true (f s) with zx2|zx2<;>rw[zx2] at zx1 hsn<;>(try simp only[Bool.not_true,Bool.not_false] at hsn)<;>rcases Nat.eq_zero_or_pos s with j0|j0<;>first|(subst j0;have hsn:=congrArg cB hsn;have hsn:[AV.val (.bool _)]=cB (fD (fun t=> !f t) 1):=hsn;(simp-dsimp only[deI];refine zqS ?_))|(simp-dsimp only[deI];refine zqS ?_))))|(refine ax ?_;refine Nxt.mk [2] (⟨s+1,by omega⟩) rfl (by unfold deI;(try simp only[List.cons_append,List.nil_append]);refine Sub.mk2 ?_;(simp-dsimp(disch:=try exact vD) only[push_cast,simprocAttr,zx1,zx2,zx3,bR,hsn]);(repeat refine aI ?_);first|done|exact vI) zqO)|(refine ax ?_;refine Nxt.mk [1] (⟨s+1,by omega⟩) rfl (by unfold deI;(try simp only[List.cons_append,List.nil_append]);refine Sub.mk2 ?_;(simp-dsimp(disch:=try exact vD) only[push_cast,simprocAttr,zx1,zx2,zx3,bR,hsn]);(repeat refine aI ?_);first|done|exact vI) zqO)|(refine ax ?_;refine Nxt.mk [0] (⟨s+1,by omega⟩) rfl (by unfold deI;(try simp only[List.cons_append,List.nil_append]);refine Sub.mk2 ?_;(simp-dsimp(disch:=try exact vD) only[push_cast,simprocAttr,zx1,zx2,zx3,bR,hsn]);(repeat refine aI ?_);first|done|exact vI) zqO)|(refine ax ?_;refine Nxt.mk [2] (⟨1,by omega⟩) rfl (by unfold deI;(try simp only[List.cons_append,List.nil_append]);refine Sub.mk2 ?_;(simp-dsimp(disch:=try exact vD) only[push_cast,simprocAttr,zx1,zx2,zx3,bR,hsn]);(repeat refine aI ?_);first|done|exact vI) zqO)|(refine ax ?_;refine Nxt.mk [1] (⟨1,by omega⟩) rfl (by unfold deI;(try simp only[List.cons_append,List.nil_append]);refine Sub.mk2 ?_;(simp-dsimp(disch:=try exact vD) only[push_cast,simprocAttr,zx1,zx2,zx3,bR,hsn]);(repeat refine aI ?_);first|done|exact vI) zqO)|(refine ax ?_;refine Nxt.mk [0] (⟨1,by omega⟩) rfl (by unfold deI;(try simp only[List.cons_append,List.nil_append]);refine Sub.mk2 ?_;(simp-dsimp(disch:=try exact vD) only[push_cast,simprocAttr,zx1,zx2,zx3,bR,hsn]);(repeat refine aI ?_);first|done|exact vI) zqO)|refine zqN ?_|refine gG hq.down ?_|refine kE ?_|refine AX ?_|refine AY ?_|refine AZ ?_|refine kF ?_|(refine kG ?_ ?_<;>intro hc<;>try exact zqM))
 all_goals first
  |(((refine Ends.frz 0 ?_;simp-dsimp(disch:=try exact vD) only[push_cast,simprocAttr,Tryz.f48,zx3];(repeat refine aI ?_);intro K hK;refine hK _ _ ?_;clear hK K);refine Ends.mk2 zqI [] ?_;simp-dsimp(disch:=try exact vD) only[push_cast,simprocAttr,Tryz.f48,zx3];try exact zqF);done)
  |skip
theorem DL(hD:DOk n F r)(hN:F.length=N):ACall Tryz.prog 48 [dI z n (F.map fk) N r] [] 0 (.isl false (cB (fD (fun t=> !aG F t r) (2^n))) (2^n)) []:=by
 have h12:=hD.n12;have hf:=hD.few;have hlt:=hD.lt
 have e:2^n≤2^12:=Nat.pow_le_pow_right (by omega) h12
 have h:=yB (z:=z) (r:=r) (by omega) hD.bnd hD.v16 hN (by omega) (by omega) (rfl:2^n=2^n)
 rw[show lT F r (2^n)=fD (fun t=>aG F t r) (2^n) from rfl,←gV] at h
 exact ai8 (Nat.two_pow_pos n) (by omega) h
end
section
variable {n N k i m j r a b:Nat} {z z' zp:Bool} {ps xs:List RV} {X Y W ONE:RV} {v c e:Int} {p:Nat→Rat}
def chQ(x:Chc):Rat:=Rat.divInt ((x.a%(x.b%12+2):Nat):Int) ((x.b%12+1:Nat):Int)
theorem ad8{q1 q2:Int}(ha:a<256)(hb:b<256)(e1:((b:Int)%12)+1=q2∨1+((b:Int)%12)=q2)(e2:(a:Int)%(q2+1)=q1)(hq:1≤q2∧q2≤12)(h:ACall Tryz.prog 57 [.val (.int .i64 q1),.val (.int .i64 q2)] [] 0 (.tup [.agg (aa.cells X),.val (.int .i64 0)]) []):ACall Tryz.prog 29 [.agg [.val (.int .u8 a),.val (.int .u8 b)]] [] 0 (.agg (aa.cells X)) []:=by
 have h:=PLift.up h
 have zx1:1+((b:Int)%12)=q2:=by omega
 have zx4:¬q2+1=0:=by omega
 have hr:0≤q1∧q1<300:=by rw[←e2];exact⟨Int.emod_nonneg _ zx4,by have:=Int.emod_lt_of_pos (a:Int) (show 0<q2+1 by omega);omega⟩
 have zx3:Int.tmod (a:Int) (q2+1)=q1:=by rw[Int.tmod_eq_emod_of_nonneg (by omega)];exact e2
 clear e1
 refine ak Tryz.func29 Tryz.ntmps29 rfl ?_
 have zx2:= @e2;have zx5:=aC;have zx6:=aC;repeat' (first|refine zqN ?_|refine gG h.down ?_|refine kE ?_|refine kF ?_|(refine kG ?_ ?_<;>intro hc<;>try exact zqM))
 all_goals first
  |((refine Ends.mk2 zqI [] ?_;simp-dsimp(disch:=try exact vD) only[push_cast,simprocAttr,Tryz.f29];try exact zqF);done)
  |skip
theorem ME(ha:a<256)(hb:b<256):ACall Tryz.prog 29 [.agg [.val (.int .u8 a),.val (.int .u8 b)]] [] 0 (.agg (aa.cells (rC (chQ ⟨a,b⟩)))) []:=by
 have hm:a%(b%12+2)<b%12+2:=Nat.mod_lt _ (by omega)
 have h:=OM (a:=((a%(b%12+2):Nat):Int)) (b:=((b%12+1:Nat):Int)) ⟨by omega,by omega⟩ ⟨by omega,by omega⟩ (by omega)
 refine ad8 ha hb (.inl (by omega)) ?_ (by omega) h
 rw[show(((b%12+1:Nat):Int)+1)=((b%12+2:Nat):Int) by omega,Int.natCast_emod]
theorem YZ(x:Chc):0≤chQ x∧chQ x≤1∧(chQ x).den≤12:=by
 have hm:x.a%(x.b%12+2)<x.b%12+2:=Nat.mod_lt _ (by omega)
 unfold chQ
 generalize x.a%(x.b%12+2)=u at*
 have hb:x.b%12<12:=Nat.mod_lt _ (by decide)
 generalize x.b%12=w at*
 have h1:∀w,w<12→∀u,u<w+2→0≤Rat.divInt ((u:Nat):Int) ((w+1:Nat):Int)∧Rat.divInt ((u:Nat):Int) ((w+1:Nat):Int)≤1∧(Rat.divInt ((u:Nat):Int) ((w+1:Nat):Int)).den≤12:=by decide+kernel
 exact h1 w hb u hm
theorem aja:cR ps++[.val (.bool X.num.neg),.isl X.num.z (cI .u32 X.num.l) X.num.l.length,.val (.bool X.den.neg),.isl X.den.z (cI .u32 X.den.l) X.den.l.length]=cR (ps++[X]):=PY (a:=X) (l:=ps)
theorem Q0(h:ps.length=n):(cR ps).take (n*4)=cR ps:=List.take_of_length_le (by rw[lM,h];exact Nat.le_refl _)
end
section
variable {n N k i m j r a b:Nat} {z z' zp:Bool} {ps xs:List RV} {L:List Fk} {X Y W ONE:RV} {D:Nat→RV} {B:Nat→Bool} {v c e rt nn:Int} {p:Nat→Rat}
def lsD(D:Nat→RV):Nat→List RV
 |0=>[]
 |i+1=>lsD D i++[D i]
theorem Q3(h:i=0):lsD D i=[]:=by subst h;rfl
theorem ae8:lsD D (i+1)=lsD D i++[D i]:=rfl
theorem ja:(lsD D i).length=i:=by
 induction i with
 |zero=>rfl
 |succ i ih=>rw[ae8,List.length_append,ih];rfl
theorem Pi(h:j<i):(lsD D i).getD j default=D j:=by
 induction i with
 |zero=>omega
 |succ i ih=>
  rw[ae8]
  rcases Nat.lt_or_eq_of_le (Nat.le_of_lt_succ h) with h1|h1
  ·rw[List.getD_eq_getElem?_getD,List.getElem?_append_left (by rw[ja];omega),←List.getD_eq_getElem?_getD]
   exact ih h1
  ·rw[List.getD_eq_getElem?_getD,List.getElem?_append_right (by rw[ja];omega),ja,h1,Nat.sub_self];rfl
theorem TY(hN:1010<N)(hN2:N<2^47):ACall Tryz.prog 18 [dI z nn L N rt] [] 0 (.val (.bool false)) []:=by
 unfold dI
 refine ak Tryz.func18 Tryz.ntmps18 rfl ?_
 repeat' (first|refine zqN ?_|refine aK ?_|refine aL ?_|(refine aM ?_ ?_<;>intro hc<;>try exact zqM))
 all_goals first
  |((refine Ends.mk2 zqI [] ?_;simp-dsimp(disch:=try exact vD) only[push_cast,simprocAttr,Tryz.f18];try exact zqF);done)
  |skip
theorem Q4(hN:N≤1010)(h:nn≤6):ACall Tryz.prog 18 [dI z nn L N rt] [] 0 (.val (.bool true)) []:=by
 unfold dI
 refine ak Tryz.func18 Tryz.ntmps18 rfl ?_
 repeat' (first|refine zqN ?_|refine aK ?_|refine aL ?_|(refine aM ?_ ?_<;>intro hc<;>try exact zqM))
 all_goals first
  |((refine Ends.mk2 zqI [] ?_;simp-dsimp(disch:=try exact vD) only[push_cast,simprocAttr,Tryz.f18];try exact zqF);done)
  |skip
theorem Kk(hN:N≤1010)(h:6<nn)(hv:ACall Tryz.prog 50 [dI z nn L N rt] [] 0 (.val (.int .i64 e)) []):ACall Tryz.prog 18 [dI z nn L N rt] [] 0 (.val (.bool (!decide (e=0)))) []:=by
 unfold dI at*
 have hv:=PLift.up hv
 refine ak Tryz.func18 Tryz.ntmps18 rfl ?_
 repeat' (first|refine zqN ?_|refine az hv.down ?_|refine aK ?_|refine aL ?_|(refine aM ?_ ?_<;>intro hc<;>try exact zqM))
 all_goals first
  |((refine Ends.mk2 zqI [] ?_;simp-dsimp(disch:=try exact vD) only[push_cast,simprocAttr,Tryz.f18];try exact zqF);done)
  |skip
end
section
variable {n N k i m j r s T:Nat} {z z' zp:Bool} {l:List Int} {L:List Fk} {F:List Fo} {X Y W ONE P:RV} {S:Nat→RV} {Tm:Nat→Nat→RV} {v c e rt nn:Int} {p:Nat→Rat} {tab:Nat→Bool}
def cnL(tab:Nat→Bool)(n s:Nat):List Int:=(List.range (n+1)).map fun j=>((cn tab n j s:Nat):Int)
theorem oq:(cnL tab n s).length=n+1:=by unfold cnL;simp
theorem Kl(h:j≤n):(cnL tab n s).getD j 0=((cn tab n j s:Nat):Int):=by
 unfold cnL
 rw[List.getD_eq_getElem?_getD,List.getElem?_map,List.getElem?_range (by omega)];rfl
theorem Km(h:j<(cnL tab n s).length):(cnL tab n s)[j]=((cn tab n j s:Nat):Int):=by simp[cnL]
theorem alv:cnL tab n 0=List.replicate (n+1) 0:=by
 apply List.ext_getElem (by rw[oq,List.length_replicate])
 intro q h1 h2
 rw[Km,List.getElem_replicate];rfl
theorem alx(h:tab s=true):cnL tab n (s+1)=(cnL tab n s).set (fal s n) (((cn tab n (fal s n) s:Nat):Int)+1):=by
 apply List.ext_getElem (by rw[oq,List.length_set,oq])
 intro q h1 h2
 rw[List.getElem_set,Km]
 by_cases e:fal s n=q
 ·rw[if_pos e,←e,cn_1 h];rfl
 ·rw[if_neg e,adS (fun hc=>e hc.2),Km]
theorem aly(h:tab s=false):cnL tab n (s+1)=cnL tab n s:=by
 unfold cnL
 apply List.map_congr_left
 intro q _
 rw[adS (fun hc=>by rw[h] at hc;cases hc.1)]
theorem ae9:cn tab n j s≤s:=by
 induction s with
 |zero=>exact Nat.le_refl _
 |succ s ih=>unfold cn;split<;>omega
theorem falT(h:s.testBit i=true):fal s (i+1)=fal s i:=if_pos h
theorem falF(h:s.testBit i=false):fal s (i+1)=fal s i+1:=if_neg (by rw[h];simp)
def pnI(z:Bool)(n:Nat)(L:List Fk)(N:Nat)(rt:Int)(T:Nat)(tab:Nat→Bool)(s:{s:Nat // s≤T}):St:=
 ⟨51,0,[(1,.pt 0 0),(5,.sl 1 0 (n+1) 1),(6,.isl false (cB (fD tab T)) T),(7,.val (.int .i64 s.val))],[(0,some (.cells [.val (.int .i64 n),.isl z (cR L) N,.val (.int .i64 rt)] 29)),(1,some (.cells (cI .i64 (cnL tab n s.val)) 2))]⟩
def pnJ(z:Bool)(n:Nat)(L:List Fk)(N:Nat)(rt:Int)(T:Nat)(tab:Nat→Bool)(s:Nat)(i:{i:Nat // i≤n}):St:=
 ⟨51,0,[(1,.pt 0 0),(5,.sl 1 0 (n+1) 1),(6,.isl false (cB (fD tab T)) T),(7,.val (.int .i64 s)),(8,.val (.int .i64 (fal s i.val))),(9,.val (.int .i64 i.val))],[(0,some (.cells [.val (.int .i64 n),.isl z (cR L) N,.val (.int .i64 rt)] 29)),(1,some (.cells (cI .i64 (cnL tab n s)) 2))]⟩
theorem alz:fal s 0=0:=rfl
theorem aea(hn:n≤12)(hT:T≤4096)(hv:ACall Tryz.prog 50 [dI z n L N rt] [] 0 (.val (.int .i64 0)) [])(hd:ACall Tryz.prog 48 [dI z n L N rt] [] 0 (.isl false (cB (fD tab T)) T) []):ACall Tryz.prog 27 [dI z n L N rt] [] 0 (.tup [.isl false (cI .i64 (cnL tab n T)) (n+1),.val (.int .i64 0)]) []:=by
 have hv:=PLift.up hv;have hd:=PLift.up hd
 have hz:=alv (tab:=tab) (n:=n)
 have hlen:=fun(s:Nat)=>oq (tab:=tab) (n:=n) (s:=s)
 have zx13:(cnL tab n T).take (n+1)=cnL tab n T:=List.take_of_length_le (by rw[oq];exact Nat.le_refl _)
 have hlt:=bR (p:=tab) (T:=T)
 have zx8:=ae;have zx3:=ae;have zx4:=ae;have zx7:=ae;have zx5:=ae;have zx9:=ae;have zx10:=ae;have zx11:=ae;have zx6:=ae
 unfold dI at*
 refine ak Tryz.func27 Tryz.ntmps27 rfl ?_
 have zx1:=hz.symm;have zx2:= @gd0;have zx12:= @alz;have zx14:= @bR;have zx15:=aC;have zx16:=aC;repeat' (first|(refine ai ?_;refine au [0,1] ([0,1].length) (pnJ z n L N rt T tab s) (fun i=>n-i.val) (⟨0,Nat.zero_le _⟩) rfl (by unfold pnJ;exact Ba) ?_;(rintro⟨i,hi⟩;rcases Nat.lt_or_eq_of_le hi with hil|hil<;>first|(subst hil;(simp-dsimp only[pnJ];refine zqS ?_))|(have zx4:=YS (s:=s) (i:=i) (by omega);have zx6:=YT (s:=s) (i:=i) (by omega);have hfi:=Kg (s:=s) (i:=i);rcases Bool.eq_false_or_eq_true (s.testBit i) with zx3|zx3<;>first|(have zx5:bN s i=1:=(by rw[ahp];exact zx3);have zx7:=falT zx3;(simp-dsimp only[pnJ];refine zqS ?_))|(have zx5:bN s i=0:=(by rw[ahq];exact zx3);have zx7:=falF zx3;(simp-dsimp only[pnJ];refine zqS ?_)))))|(refine ax ?_;refine Nxt.mk [0,1] (⟨i+1,by omega⟩) rfl (by unfold pnJ;exact Ba) zqO)|(refine ai ?_;refine au [0,1] ([0,1].length) (pnI z n L N rt T tab) (fun s=>T-s.val) (⟨0,Nat.zero_le _⟩) rfl (by unfold pnI;exact Ba) ?_;(rintro⟨s,hs⟩;rcases Nat.lt_or_eq_of_le hs with hsl|hsl<;>first|(subst hsl;(simp-dsimp only[pnI];refine zqS ?_))|(have hls:=hlen s;have hfl:=Kg (s:=s) (i:=n);have hcl:=ae9 (tab:=tab) (n:=n) (j:=fal s n) (s:=s);have zx8:=vE (p:=tab) hsl;rcases Bool.eq_false_or_eq_true (tab s) with hv|hv<;>rw[hv] at zx8<;>first|(have zx9:=Kl (tab:=tab) (s:=s) hfl;have zx10:=(alx (n:=n) hv).symm;(simp-dsimp only[pnI];refine zqS ?_))|(have zx11:=aly (n:=n) hv;(simp-dsimp only[pnI];refine zqS ?_)))))|(refine ax ?_;refine Nxt.mk [0,1] (⟨s+1,by omega⟩) rfl (by unfold pnI;exact Ba) zqO)|refine zqN ?_|refine V3 hv.down ?_|refine V3 hd.down ?_|refine VZ ?_|refine V4 ?_|(refine V5 ?_ ?_<;>intro hc<;>try exact zqM))
 all_goals first
  |(((refine Ends.frz 1 ?_;simp-dsimp(disch:=try exact vD) only[push_cast,simprocAttr,Tryz.f27,zx13];(repeat refine aI ?_);intro K hK;refine hK _ _ ?_;clear hK K);refine Ends.mk2 zqI [] ?_;simp-dsimp(disch:=try exact vD) only[push_cast,simprocAttr,Tryz.f27,zx13];try exact zqF);done)
  |skip
theorem aeb(hv:ACall Tryz.prog 50 [dI z nn L N rt] [] 0 (.val (.int .i64 e)) [])(hne:¬e=0):ACall Tryz.prog 27 [dI z nn L N rt] [] 0 (.tup [.isl true [] 0,.val (.int .i64 e)]) []:=by
 have hv:=PLift.up hv
 unfold dI at*
 refine ak Tryz.func27 Tryz.ntmps27 rfl ?_
 have zx1:= @hne;have zx2:=aC;have zx3:=aC;repeat' (first|refine zqN ?_|refine bE hv.down ?_|refine bM ?_|refine bO ?_|(refine bP ?_ ?_<;>intro hc<;>try exact zqM))
 all_goals first
  |((refine Ends.mk2 zqI [] ?_;simp-dsimp(disch:=try exact vD) only[push_cast,simprocAttr,Tryz.f27];try exact zqF);done)
  |skip
end
section
variable {n N k i m j r:Nat} {z zp:Bool} {B A l:List Int} {L:List Fk} {p:Nat→Rat} {W X Y:RV} {rt e e2 v:Int} {x c:Rat}
theorem ajb(hc:ACall Tryz.prog 62 [dI z v L N rt] [] 0 (.tup [.isl true [] 0,.val (.int .i64 e)]) [])(hne:¬e=0):ACall Tryz.prog 26 [dI z v L N rt] [] 0 (.tup [.isl true [] 0,.val (.int .i64 e)]) []:=by
 have hc':=PLift.up hc
 clear hc
 unfold dI at*
 refine ak Tryz.func26 Tryz.ntmps26 rfl ?_
 have zx1:= @hne;have zx2:=aC;have zx3:=aC;repeat' (first|refine zqN ?_|refine bE hc'.down ?_|refine bM ?_|refine bO ?_|(refine bP ?_ ?_<;>intro hc<;>try exact zqM)|refine zqR 8 [⟨0,[],[25,28,29,30,31,32,33,34],[],[],0⟩,⟨1,[],[24,28,29,30,31,32,33,34],[],[],0⟩,⟨2,[0,1],[28,29,30,31,32,33,34],[],[],0⟩,⟨3,[0,1,2],[28,29,30,31,32,33,34],[],[],0⟩,⟨4,[],[24,25,26,27,29,30,31,32],[],[],0⟩,⟨5,[],[24,25,26,27,28,31],[],[],0⟩,⟨6,[5],[24,25,26,27,28,31],[],[],0⟩,⟨7,[],[24,25,26,27,28,29,30],[],[],0⟩,⟨8,[5,6,7],[24,25,26,27,28],[],[],0⟩,⟨9,[4,5,6,7,8],[24,25,26,27],[],[],0⟩,⟨10,[4,5,6,7,8,9],[24,25,26,27],[],[],0⟩,⟨11,[0,1,2,3,4,5,6,7,8,9,10],[],[],[],0⟩,⟨12,[0,1,2,3,4,5,6,7,8,9,10,11],[],[],[],0⟩,⟨13,[0,1,2,3,4,5,6,7,8,9,10,11,12],[],[],[2],0⟩] ?_|refine zqD ?_|fail)
 all_goals first
  |((refine Ends.mk2 zqI [] ?_;simp-dsimp(disch:=try exact vD) only[push_cast,simprocAttr,Tryz.f26];try exact zqF);done)
  |skip
end
section
variable {N m R:Nat} {F:List Fo} {L:List Fk} {n r e:Int} {z:Bool}
theorem MI(h0:0≤n)(h12:n≤12)(hN:765<N)(hN2:N<2^47):ACall Tryz.prog 72 [dI z n L N r] [] 0 (.val (.int .i64 1)) []:=by
 unfold dI
 refine ak Tryz.func72 Tryz.ntmps72 rfl ?_
 repeat' (first|refine zqN ?_|refine aK ?_|refine aL ?_|(refine aM ?_ ?_<;>intro hc<;>try exact zqM))
 all_goals first
  |((refine Ends.mk2 zqI [] ?_;simp-dsimp(disch:=try exact vD) only[push_cast,simprocAttr,Tryz.f72];try exact zqF);done)
  |skip
def rvM(z:Bool)(n q:Int)(L:List Fk)(N:Nat)(_:Unit):St:=
 ⟨78,0,[(1,.pt 0 0),(3,.val (.int .i64 0))],[(0,some (.cells [.val (.int .i64 n),.isl z (cR L) N,.val (.int .i64 q)] 29))]⟩
theorem xg(h0:0≤n)(h12:n≤12)(hN:L.length=N)(hN2:1000<N)(hN3:N<2^47):ACall Tryz.prog 50 [dI z n L N r] [] 0 (.val (.int .i64 1)) []:=by
 obtain⟨x,zx1⟩:∃x,L.getD 0 default=x:=⟨_,rfl⟩
 obtain⟨v,lo,hi⟩:=x
 unfold dI
 refine ak Tryz.func50 Tryz.ntmps50 rfl ?_
 have zx2:= @lU;have zx3:=aC;repeat' (first|(refine ai ?_;refine au [0] ([0].length) (rvM z n r L N) (fun _=>0) (()) rfl (by unfold rvM;exact eQ) ?_;(rintro⟨⟩;(simp-dsimp only[rvM];refine zqS ?_)))|refine zqN ?_|refine bM ?_|refine bO ?_|(refine bP ?_ ?_<;>intro hc<;>try exact zqM)|refine zqR 9 [⟨0,[],[],[],[],0⟩,⟨1,[0],[],[],[],0⟩,⟨2,[0,1],[],[],[],0⟩,⟨3,[0,1,2],[],[],[],0⟩,⟨4,[0,1,2,3],[70,71,72,73,74],[],[],0⟩,⟨5,[0,1,2,3],[69,72,73],[],[],0⟩,⟨6,[0,1,2,3,5],[69,72,73],[],[],0⟩,⟨7,[0,1,2,3],[69,70,71],[],[],0⟩,⟨8,[0,1,2,3,7],[69,70,71],[],[],0⟩,⟨9,[0,1,2,3,5,6,7,8],[69],[],[],0⟩,⟨10,[0,1,2,3,4,5,6,7,8,9],[],[],[],0⟩,⟨11,[0,1,2,3,4,5,6,7,8,9,10],[],[],[],0⟩,⟨12,[0,1,2,3,4,5,6,7,8,9,10,11],[],[],[],0⟩] ?_|refine zqD ?_|fail)
 all_goals first
  |((refine Ends.mk2 zqI [] ?_;simp-dsimp(disch:=try exact vD) only[push_cast,simprocAttr,Tryz.f50];try exact zqF);done)
  |skip
theorem MJ(h:¬VOk m L r)(hN:L.length=N)(hm:m≤12)(hN2:N<2^47):ACall Tryz.prog 72 [dI z m L N r] [] 0 (.val (.int .i64 1)) []:=by
 by_cases hk:N≤765
 ·exact YO h hN hm hk
 ·exact MI (by omega) (by omega) (by omega) hN2
theorem Pq(h:¬VOk m L r)(hN:L.length=N)(hm:m≤9)(hN2:N<2^47)(hr63:r<2^63):ACall Tryz.prog 50 [dI z m L N r] [] 0 (.val (.int .i64 1)) []:=by
 by_cases hk:1000<N
 ·exact xg (by omega) (by omega) hN hk hN2
 ·exact TR h hN hm (by omega) hr63
theorem Pt(hN:L.length=N)(hm:m≤12)(hN2:N<2^47)(hr63:r<2^63):∃e:Int,(e=0∨e=1)∧ACall Tryz.prog 50 [dI z m L N r] [] 0 (.val (.int .i64 e)) []:=by
 by_cases hk:1000<N
 ·exact⟨1,.inr rfl,xg (by omega) (by omega) hN hk hN2⟩
 by_cases hb:∀j,j<N→RfI m L j
 ·by_cases hr:r<0
  ·exact⟨1,.inr rfl,wZ (by omega) (by omega) hN (by omega) hb hr⟩
  ·obtain⟨R,rfl⟩:=Int.eq_ofNat_of_zero_le (show 0≤r by omega)
   have hL:(L.map tof).map fk=L:=YK fun i hi=>⟨(hb i (by omega)).v0,(hb i (by omega)).l0,(hb i (by omega)).h0⟩
   obtain⟨F,hF⟩:∃F,L.map tof=F:=⟨_,rfl⟩
   rw[hF] at hL
   have hFN:F.length=N:=by rw[←hF,List.length_map,hN]
   have hbd:Bnd F:=fun k hk=>by
    have o:=hb k (by omega)
    have o1:=o.l1;have o2:=o.h1
    rw[←hL,fkL hk] at o1 o2
    have b1:((F.getD k default).lo:Int)<k+2:=o1
    have b2:((F.getD k default).hi:Int)<k+2:=o2
    omega
   have h16:∀k,k<F.length→(F.getD k default).v<16:=fun k hk=>by
    have o:=(hb k (by omega)).v1
    rw[←hL,fkL hk] at o
    have b1:((F.getD k default).v:Int)<m:=o
    omega
   have ht:=vz (z:=z) (R:=R) (by omega) hbd h16 hFN (by omega) (by omega) (rfl:2^m=2^m)
   have hf:=lV (n:=m) (tb:=lT F R (2^m)) (M:=2^m) (by omega) gU rfl
   rw[yA rfl] at hf
   obtain⟨⟨D,w⟩,hD⟩:∃X,(fC m fun t=>aG F t R)=X:=⟨_,rfl⟩
   rw[hD] at hf
   have heq:=EF (z:=z) (z':=(D.length==0)) (p:=(m:Int)) (p':=(m:Int)) (q:=(R:Int)) (q':=(w:Int)) (L:=F.map fk) (L':=D.map fk) (by rw[List.length_map];omega)
   obtain⟨b,hbe⟩:∃b,decide ((m:Int)=m∧(R:Int)=w∧F.map fk=D.map fk)=b:=⟨_,rfl⟩
   rw[hbe,←mP,←mP] at heq
   unfold dgV at heq hf
   have hx:=vC (z:=z) (L:=L) (b:=b) (show(0:Int)≤m by omega) (by omega) hN (by omega) hb (show(0:Int)≤(R:Int) by omega) (by unfold dI;rw[←hL,gV];exact ht) hf (by unfold dI;rw[←hL,gV,←hFN];exact heq)
   refine⟨_,?_,hx⟩
   cases b
   ·right;rfl
   ·left;rfl
 ·exact⟨1,.inr rfl,Bn (by omega) (by omega) hN (by omega) hb⟩
inductive Sml (z:Bool) (n:Int) (L:List Fk) (N:Nat) (r:Int):Prop
 |no (h:ACall Tryz.prog 18 [dI z n L N r] [] 0 (.val (.bool false)) [])
 |bad (e:Int) (hne:¬e=0) (h:ACall Tryz.prog 18 [dI z n L N r] [] 0 (.val (.bool true)) []) (hv:ACall Tryz.prog 72 [dI z n L N r] [] 0 (.val (.int .i64 e)) []) (hw:ACall Tryz.prog 50 [dI z n L N r] [] 0 (.val (.int .i64 e)) [])
 |good (m:Nat) (hm:m≤6) (F:List Fo) (R:Nat) (hn:n=m) (hL:L=F.map fk) (hr:r=R) (hD:DOk m F R) (hN:F.length=N) (h:ACall Tryz.prog 18 [dI z m (F.map fk) N R] [] 0 (.val (.bool true)) []) (hw:ACall Tryz.prog 50 [dI z m (F.map fk) N R] [] 0 (.val (.int .i64 0)) [])
theorem DR(hN:L.length=N)(hN2:N<2^47)(hr63:r<2^63):Sml z n L N r:=by
 by_cases hb:1010<N
 ·exact .no (TY hb hN2)
 ·by_cases hr:n<0∨12<n
  ·refine .bad 7 (by decide) ?_ (Kh hr) (uL hr)
   rcases hr with hr|hr
   ·exact Q4 (by omega) (by omega)
   ·have:=Kk (z:=z) (L:=L) (N:=N) (rt:=r) (by omega) (show 6<n by omega) (uL (.inr hr))
    exact this
  ·obtain⟨m,rfl⟩:=Int.eq_ofNat_of_zero_le (show 0≤n by omega)
   by_cases h6:m≤6
   ·have hs:=Q4 (z:=z) (L:=L) (rt:=r) (show N≤1010 by omega) (show(m:Int)≤6 by omega)
    by_cases hv:VOk m L r
    ·have hw:=yQ (z:=z) hv hN (by omega)
     obtain⟨F,R,rfl,rfl,hD⟩:=hv
     exact .good m h6 F R rfl rfl rfl hD (by rw[←hN,List.length_map]) hs hw
    ·exact .bad 1 (by decide) hs (MJ hv hN (by omega) hN2) (Pq hv hN (by omega) hN2 hr63)
   ·obtain⟨e,he,hw⟩:=Pt (z:=z) hN (show m≤12 by omega) (by omega) hr63
    have hs:=Kk (z:=z) (L:=L) (N:=N) (rt:=r) (by omega) (show(6:Int)<m by omega) hw
    by_cases hv:VOk m L r
    ·have hs:=Kk (z:=z) (L:=L) (N:=N) (rt:=r) (by omega) (show(6:Int)<m by omega) (yQ (z:=z) hv hN (by omega))
     exact .no hs
    ·rcases he with he|he
     ·subst he;exact .no hs
     ·subst he;exact .bad 1 (by decide) hs (MJ hv hN (by omega) hN2) hw
end
end
section
open Go Go.Sy Go.Bp Go.Dg Go.Lm
theorem Bq{m:Nat} {av:List AV}(h:dO Tryz.prog m 52 av):∃x:Chc,av=aa.cells x∧x.a<256∧x.b<256:=by
 obtain⟨_,xs,rfl,hl,hx⟩:=jm Tryz.underlying52 h
 match xs,hl with
 |[a0,a1],_=>
  obtain⟨b0,rfl,h0⟩:=gT Tryz.underlying5 (hx 0 _ a0 rfl rfl)
  obtain⟨b1,rfl,h1⟩:=gT Tryz.underlying5 (hx 1 _ a1 rfl rfl)
  have h0:=wC h0
  have h1:=wC h1
  obtain⟨n0,rfl⟩:=Int.eq_ofNat_of_zero_le h0.1
  obtain⟨n1,rfl⟩:=Int.eq_ofNat_of_zero_le h1.1
  exact⟨⟨n0,n1⟩,rfl,(by omega:n0<256),(by omega:n1<256)⟩
end
set_option maxRecDepth 100000
section
open Go
theorem rY:Rows.failurePolynomialRow.wf (OpenSpec.ofChange Rows.failurePolynomialSpec)=true:=by kernel_rfl
theorem r9:Tryz.f6.params.all (Tryz.prog.readableRec ·)=true:=by kernel_rfl
theorem si:namedTie Tryz.prog Rows.failurePolynomialRow.named Rows.failurePolynomialSpec.vars=true:=by kernel_rfl
theorem sj:(Rows.failurePolynomialRow.stops==[])=true:=by kernel_rfl
theorem sw:(Rows.failurePolynomialRow.knobs==[])=true:=by kernel_rfl
theorem sD:(Rows.failurePolynomialRow.inPlace==Tryz.prog.inPlace 6)=true:=by kernel_rfl
theorem pR:(Rows.failurePolynomialRow.unfollowed==Tryz.prog.unfollowed 6)=true:=by kernel_rfl
theorem pU:(Rows.failurePolynomialRow.recurses==Tryz.prog.recurses 6)=true:=by kernel_rfl
theorem pV:(Rows.failurePolynomialRow.named==Tryz.prog.varsNamed 6)=true:=by kernel_rfl
theorem pW:(Rows.failurePolynomialRow.maps==(Tryz.f6.params.toList++Rows.failurePolynomialSpec.plain.varTypes Tryz.prog).any (Tryz.prog.mapsRec ·))=true:=by kernel_rfl
theorem pY:(Rows.failurePolynomialRow.ifaces==(Tryz.f6.params.toList++Rows.failurePolynomialSpec.plain.varTypes Tryz.prog).any (Tryz.prog.ifacesRec ·))=true:=by kernel_rfl
theorem p8:(Rows.failurePolynomialRow.mapsOut==Tryz.prog.mapsAmong Tryz.f6.resultTypes.toList)=true:=by kernel_rfl
theorem p9:(Rows.failurePolynomialRow.loops==(Tryz.f6.params.toList++Rows.failurePolynomialSpec.plain.varTypes Tryz.prog).any (Tryz.prog.loopsFrom ·))=true:=by kernel_rfl
theorem qa:(Rows.failurePolynomialRow.wideKeys==(Tryz.f6.params.toList++Rows.failurePolynomialSpec.plain.varTypes Tryz.prog++Tryz.f6.resultTypes.toList).any (Tryz.prog.wideKeysFrom ·))=true:=by kernel_rfl
theorem qc:Rows.failurePolynomialSpec.vars.all (Tryz.prog.varReadable ·)=true:=by kernel_rfl
theorem qf:Tryz.f6.resultTypes.all (fun t=>Tryz.prog.readableRec t&&decide (t<Tryz.prog.types.size))=true:=by kernel_rfl
theorem qg:(Rows.failurePolynomialRow.ifacesOut==Tryz.f6.resultTypes.toList.any (Tryz.prog.ifacesRec ·))=true:=by kernel_rfl
theorem qh:(Rows.failurePolynomialRow.loopsOut==Tryz.f6.resultTypes.toList.any (Tryz.prog.loopsFrom ·))=true:=by kernel_rfl
theorem qi:(Rows.failurePolynomialRow.plainKeys==Tryz.prog.plainKeys)=true:=by kernel_rfl
theorem qj:Rows.failurePolynomialRow.shortTexts.isNone=true:=by kernel_rfl
theorem ql:(Rows.failurePolynomialRow.lifted==Tryz.prog.liftsFinal)=true:=by kernel_rfl
theorem qm:(Tryz.prog.make==some Rows.failurePolynomialRow.make)=true:=by kernel_rfl
theorem qo:(Rows.failurePolynomialRow.kinds==(if Rows.failurePolynomialRow.domain.isEmpty then [] else Tryz.f6.params.toList.map fun t=>match Tryz.prog.underlying t with|some (.int k)=>some k|_=>none))=true:=by kernel_rfl
theorem qp:(Rows.failurePolynomialRow.pinned==Rows.failurePolynomialRow.pinnedBy)=true:=by kernel_rfl
theorem qw:(Rows.failurePolynomialRow.veiled==(Tryz.f6.params.toList++Rows.failurePolynomialSpec.plain.varTypes Tryz.prog++Tryz.f6.resultTypes.toList).any (Tryz.prog.veiledRec ·))=true:=by kernel_rfl
theorem qx:Rows.failurePolynomialRow.veiledFits Tryz.prog Tryz.f6.params.toList (Tryz.f6.params.toList++Rows.failurePolynomialSpec.plain.varTypes Tryz.prog++Tryz.f6.resultTypes.toList)=true:=by kernel_rfl
theorem qy:joinedFacts Tryz.prog 6 Tryz.f6 Rows.failurePolynomialSpec Rows.failurePolynomialRow=true:=by
 simp only[joinedFacts,Bool.and_eq_true]
 exact⟨⟨⟨⟨⟨⟨⟨⟨⟨⟨⟨⟨⟨⟨⟨⟨⟨⟨⟨⟨⟨⟨⟨⟨⟨⟨⟨⟨⟨⟨⟨rY,nI⟩,nJ⟩,r9⟩,si⟩,sj⟩,nK⟩,sw⟩,nL⟩,sD⟩,pR⟩,pU⟩,pV⟩,pW⟩,pY⟩,p8⟩,p9⟩,qa⟩,qc⟩,qf⟩,qg⟩,qh⟩,qi⟩,qj⟩,kN⟩,kQ⟩,ql⟩,qm⟩,qo⟩,qp⟩,qw⟩,qx⟩
theorem failurePolynomial_nam:Tryz.pinned.checked.prog.funcNamed Rows.failurePolynomialRow.func=some 6:=by kernel_rfl
theorem qz:Tryz.f6.isInstance Tryz.pinned.checked.prog Rows.failurePolynomialRow.origin Rows.failurePolynomialRow.targs:=of_decide_eq_true (by kernel_rfl)
theorem qA:Tryz.f6.isWrapper Tryz.pinned.checked.prog Rows.failurePolynomialRow.wrapper Rows.failurePolynomialRow.mainSum:=by unfold Func.isWrapper;first|(rw[if_pos (by decide+kernel)];kernel_rfl)|(rw[if_neg (by decide+kernel)];exact⟨rfl,rfl⟩)
theorem qB:Rows.failurePolynomialRow.wfByText (OpenSpec.ofChange Rows.failurePolynomialSpec)=true:=by kernel_rfl
theorem qC:Tryz.pinned.checked.prog.mainIs=some (true, "6c6ed28039965d1e05ce70114d4f84b00907715979fcf266077e3121104a4804".toList):=by kernel_rfl
theorem qD:false=Tryz.pinned.checked.prog.looks []:=by kernel_rfl
theorem qE:([29,52].all fun u=> !Tryz.prog.wantsStandIn u)=true:=by kernel_rfl
theorem qF:false=Rows.failurePolynomialRow.goesBy Tryz.pinned.checked.prog:=by kernel_rfl
end
set_option maxRecDepth 20000
section
open Go Go.Sy Go.Bp Go.Dg
variable {n N M T L k i m r a b j w u v s q x y d:Nat} {F D:List Fo} {p f g:Nat→Bool} {ms xs:List Nat}
theorem MK(hD:DOk n F r):iT (aP n F r) (cAt n F r)=cL (fun t=>aG F t r) n 0 0:=Oa hD.good hD.lt fun _ _=>rfl
end
section
open Go Go.Sy Go.Lm Go.Rt Go.Dg
variable {n k i j r s t:Nat} {F:List Fo} {tab:Nat→Bool} {B A:List Int}
theorem ajB:cn tab n j s=((List.range s).filter fun t=>tab t&&decide (fal t n=j)).length:=by
 induction s with
 |zero=>rfl
 |succ s ih=>
  rw[List.range_succ,List.filter_append,List.length_append,←ih,Bg]
  show(if tab s=true∧fal s n=j then cn tab n j s+1 else cn tab n j s)=_
  by_cases h:tab s=true∧fal s n=j
  ·rw[if_pos h,if_pos (by rw[h.1,h.2];simp)]
  ·rw[if_neg h,if_neg (fun hc=>h (by simpa using hc))];rfl
theorem ajC:fal t n+pc n t=n:=by
 unfold pc
 induction n with
 |zero=>rfl
 |succ n ih=>
  rw[List.range_succ,List.filter_append,List.length_append,Bg]
  show(if t.testBit n=true then fal t n else fal t n+1)+_=_
  by_cases h:t.testBit n=true
  ·rw[if_pos h,if_pos h];omega
  ·rw[if_neg h,if_neg h];omega
theorem ajD:∀n,n≤6→∀k,k≤n→bn n k=((num n fun t=>decide (pc n t=n-k):Nat):Int):=by decide+kernel
theorem ajE(hk:k≤n):cn tab n k (2^n)=num n (fun t=>tab t&&decide (pc n t=n-k)):=by
 rw[ajB]
 exact lu fun t _=>by
  have:=ajC (t:=t) (n:=n)
  congr 1
  exact decide_eq_decide.2 ⟨fun h=>by omega,fun h=>by omega⟩
theorem alX(hn:n≤6)(hk:k≤n):((cn (fun t=> !tab t) n k (2^n):Nat):Int)=bn n k-(((cL tab n 0 0).getD (n-k) 0:Nat):Int):=by
 rw[ajD n hn k hk,ajE hk,WS,Iu (p:=fun t=>decide (pc n t=n-k)) tab]
 have e1:num n (fun t=>decide (pc n t=n-k)&& !tab t)=num n (fun t=>(!tab t)&&decide (pc n t=n-k)):=lu fun t _=>Bool.and_comm _ _
 have e2:num n (fun t=>decide (pc n t=n-k)&&tab t)=num n (fun t=>tab t&&decide (pc n t=n-k)):=lu fun t _=>Bool.and_comm _ _
 rw[e1,e2];omega
theorem ZH{a b:List Int}(h:a.length=b.length)(h2:∀i,i<a.length→a.getD i 0=b.getD i 0):a=b:=by
 apply List.ext_getElem h
 intro q h3 h4
 have:=h2 q h3
 rw[List.getD_eq_getElem?_getD,List.getElem?_eq_getElem h3,List.getD_eq_getElem?_getD,List.getElem?_eq_getElem h4] at this
 exact this
theorem aer(hn:n≤6):poL (bnL n n) (NI (cL tab n 0 0)) n (n+1)=cnL (fun t=> !tab t) n (2^n):=by
 have hl:(bnL n n).length=n+1:=uk
 refine ZH (by rw[DN,oq,hl]) fun i hi=>?_
 rw[DN,hl] at hi
 rw[Y5 (by omega),if_pos hi,Kl (by omega),Pk (by omega),alX hn (by omega)]
 have:=Bi (l:=cL tab n 0 0) (j:=n-i) (by rw[EG];omega)
 exact congrArg (bn n i- ·) this
theorem ZI(hn:n≤6)(hk:k≤n):(cL tab n 0 0).getD k 0≤64:=by
 rw[WS]
 unfold num
 refine Nat.le_trans (List.length_filter_le _ _) ?_
 rw[List.length_range]
 exact(Nat.pow_le_pow_right (by omega) hn:2^n≤2^6)
theorem ajF(hn:n≤6)(hj:j≤n):0≤(cnL tab n (2^n)).getD j 0∧(cnL tab n (2^n)).getD j 0≤64:=by
 rw[Kl hj]
 have h:=ae9 (tab:=tab) (n:=n) (j:=j) (s:=2^n)
 have:=(Nat.pow_le_pow_right (by omega) hn:2^n≤2^6)
 omega
theorem aes{c:Rat}:atS (fun i=>(cnL tab n (2^n)).getD i default) c n (n+1)=Pr (fun _=>c) n tab:=by
 rw[←alj]
 exact yP fun i hi=>Kl (by omega)
end
