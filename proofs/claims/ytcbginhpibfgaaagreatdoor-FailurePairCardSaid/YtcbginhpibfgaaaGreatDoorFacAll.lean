/- FacAll. No condition. -/
import Derived.Test.YtcbginhpibfgaaaGreatDoorChecked
import Derived.JoinedOf
import Derived.KernelRfl
set_option linter.all false
set_option maxRecDepth 100000
namespace Go.Proofs.YtcbginhpibfgaaaGreatDoor
open Go
theorem nI:laidOutB Tryz.prog=true:=by kernel_rfl
theorem nJ:mapsRowed Tryz.prog=true:=by kernel_rfl
theorem nK:(Tryz.prog.stops==[])=true:=by kernel_rfl
theorem nL:(Tryz.prog.stopKnobs==[])=true:=by kernel_rfl
theorem kN:Tryz.prog.stopsHeard=true:=by kernel_rfl
theorem kQ:Tryz.prog.mayEnter=true:=by kernel_rfl
