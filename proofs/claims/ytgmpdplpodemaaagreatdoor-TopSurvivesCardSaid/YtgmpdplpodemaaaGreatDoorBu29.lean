/- Bu29. No condition. -/
import Derived.Test.YtgmpdplpodemaaaGreatDoorEc1
set_option linter.all false
set_option maxHeartbeats 2000000
set_option maxRecDepth 20000
namespace Go.Proofs.YtgmpdplpodemaaaGreatDoor
open Go Go.Sy Go.Bp
attribute [local irreducible] AO AL AC OpT ACall Ends DGo aN Thn Blk Nxt
variable {z zl:Bool} {n i j m q s:Nat} {a b:Int} {x:Ex} {t:Nd}
theorem aag(hs:s<65536)(hi:i<16):ACall Tryz.prog 81 [.val (.int .u16 s),.val (.int .i64 i)] [] 0 (.val (.bool (s.testBit i))) []:=by
 refine az Tryz.func81 Tryz.ntmps81 rfl ?_
 have zx1:= @NC;have zx2:=aD;have zx3:=aD;repeat' (first|refine zqN ?_|refine dx ?_|refine dz ?_|(refine dA ?_ ?_<;>intro hc<;>try exact zqM))
 all_goals(refine Ends.mk2 zqI [] ?_;simp-dsimp(disch:=try exact vD) only[push_cast,simprocAttr,Tryz.f81];try exact zqF)
def meI(s:Nat)(j:{j:Nat // j≤16}):St:=
 ⟨17,0,[(0,.val (.int .u16 s)),(3,gL (aA s j.val) 0 1),(4,.val (.int .i64 j.val))],gM (aA s j.val) 0 (cI .i64 (mem s j.val)) 3⟩
theorem FU(hs:s<65536):ACall Tryz.prog 43 [.val (.int .u16 s)] [] 0 (.isl (aA s 16==0) (cI .i64 (mem s 16)) (aA s 16)) []:=by
 have hle:=fun(j:Nat)=>lF (s:=s) (j:=j)
 refine az Tryz.func43 Tryz.ntmps43 rfl ?_
 have zx1:= @H6;have zx2:= @H7;have zx3:= @FI;have zx4:= @FJ;have zx5:= @FH;have zx6:= @mK;have zx7:= @H8;have zx8:=aD;have zx9:=aD;repeat' (first|(refine ai ?_;refine au [9] ([9].length) (meI s) (fun j=>16-j.val) (⟨0,by omega⟩) rfl (by unfold meI;exact dM) ?_;(rintro⟨j,hj⟩;have hjL:=hle j;rcases Nat.eq_zero_or_pos (aA s j) with h0|h0<;>rcases Nat.lt_or_eq_of_le hj with hjl|hjl<;>first|(subst hjl;(simp-dsimp only[meI];refine zqS ?_))|(simp-dsimp only[meI];refine zqS ?_)))|(refine aj ?_;refine Nxt.mk [0] (⟨j+1,by omega⟩) rfl (by unfold meI;exact dM) zqO)|(refine aj ?_;refine Nxt.mk [2] (⟨j+1,by omega⟩) rfl (by unfold meI;exact dM) zqO)|(refine aj ?_;refine Nxt.mk [1] (⟨j+1,by omega⟩) rfl (by unfold meI;exact dM) zqO)|refine zqN ?_|refine kY (aag hs (i:=j) (by omega)) ?_|refine rJ ?_|refine rM ?_|refine rO ?_|refine rP ?_|refine rT ?_|(refine rU ?_ ?_<;>intro hc<;>try exact zqM))
 all_goals first
  |(rw[h0,H8 h0];(refine Ends.mk2 zqI [] ?_;simp-dsimp(disch:=try exact vD) only[push_cast,simprocAttr,Tryz.f43];try exact zqF);done)
  |(rw[zB h0];((refine Ends.frz 0 ?_;simp-dsimp(disch:=try exact vD) only[push_cast,simprocAttr,Tryz.f43,Ap,mK];(repeat refine aI ?_);intro K hK;refine hK _ _ ?_;clear hK K);refine Ends.mk2 zqI [] ?_;simp-dsimp(disch:=try exact vD) only[push_cast,simprocAttr,Tryz.f43,Ap,mK];try exact zqF);done)
theorem Ox(hs:s<65536):ACall Tryz.prog 15 [.val (.int .u16 s)] [] 0 (.val (.int .i64 (aA s 16))) []:=by
 have hle:=lF (s:=s) (j:=16)
 refine az Tryz.func15 Tryz.ntmps15 rfl ?_
 repeat' (first|refine zqN ?_|refine aT (FU hs) ?_|refine bA ?_|refine bB ?_|(refine bC ?_ ?_<;>intro hc<;>try exact zqM))
 all_goals(refine Ends.mk2 zqI [] ?_;simp-dsimp(disch:=try exact vD) only[push_cast,simprocAttr,Tryz.f15];try exact zqF)
