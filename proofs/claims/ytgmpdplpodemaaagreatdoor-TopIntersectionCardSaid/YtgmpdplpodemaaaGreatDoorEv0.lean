/- Ev0. No condition. -/
import Derived.Test.YtgmpdplpodemaaaGreatDoorFeG1
set_option linter.all false
set_option maxHeartbeats 4000000
set_option maxRecDepth 20000
namespace Go.Proofs.YtgmpdplpodemaaaGreatDoor
open Go Go.Sy Go.Bp
attribute [local irreducible] AO AL AC OpT ACall Ends DGo aN Thn Blk Nxt
variable {s:Nat} {x:Ex}
theorem aeX(hx:XOk x)(hks:KS x):ACall Tryz.prog 53 [.agg (aa.cells x),.val (.int .u16 (U s))] [] 0 (.val (.bool (hold (aeF (s%65536)) x))) []:=by
 obtain⟨r,hr⟩:=Int.eq_ofNat_of_zero_le hx.root.1
 exact afx hx hks hr
theorem ahs(hv:PG x=0)(hsh:afp x)(hks:KS x)(hs:s%65536<4096):ACall Tryz.prog 116 [.agg (aa.cells x),.val (.int .u16 (U s))] [] 0 (.tup [.val (.bool (hold (aeF (s%65536)) x)),.val (.int .i64 0)]) []:=by
 have hx:=PLift.up (aeE hv)
 have hsh:=PLift.up hsh
 have hks:=PLift.up hks
 have zx1:¬(4096:Int)≤U s:=by unfold U;omega
 refine az Tryz.func116 Tryz.ntmps116 rfl ?_
 have zx2:= @hv;have zx3:=aD;repeat' (first|refine zqN ?_|refine eG (aez hsh.down) ?_|refine eG (aeX hx.down hks.down) ?_|refine dx ?_|refine dz ?_|(refine dA ?_ ?_<;>intro hc<;>try exact zqM))
 all_goals(refine Ends.mk2 zqI [] ?_;simp-dsimp(disch:=try exact vD) only[push_cast,simprocAttr,Tryz.f116];try exact zqF)
