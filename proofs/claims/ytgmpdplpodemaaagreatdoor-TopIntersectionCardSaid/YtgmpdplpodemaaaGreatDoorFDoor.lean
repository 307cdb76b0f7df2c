/- FDoor. No condition. -/
import Derived.Test.YtgmpdplpodemaaaGreatDoorArgs
import Derived.Test.YtgmpdplpodemaaaGreatDoorRows
import Derived.Test.YtgmpdplpodemaaaGreatDoorTie
import Derived.Stop.Joined
import Derived.Stop.LaidErr
import Derived.Lib.LaidTab
set_option linter.all false
set_option maxRecDepth 100000
namespace Go.Proofs.YtgmpdplpodemaaaGreatDoor
open Go Go.ChangeShapes Go.WideShapes Go.ChangeAt Go.RowKit Go.Sy
theorem own:ownKnob Tryz.prog.godebug=none:=by kernel_rfl
def CX{H:Type}:List (String×DataW H):=[("math/bits.deBruijn32tab",Rows.laid_math_bits_deBruijn32tab),("math/bits.deBruijn64tab",Rows.laid_math_bits_deBruijn64tab),("internal/strconv.uint64pow10",Rows.laid_internal_strconv_uint64pow10)]
theorem NS(os:Os)(args:Array Value):laidMetH Tryz.prog CX ((World.doorLaid Tryz.prog 400 os).forCall (fun _ _=>0) ⟨#[],args,[]⟩).memory:=
 laidMetH_of_parts3 (fuel:=8) (laidMet_of_run' 8 (by kernel_rfl) (by kernel_rfl)) (by kernel_rfl) (by kernel_rfl)
theorem NT:Tryz.prog.globalNamed "math/bits.deBruijn32tab" =some 0:=by kernel_rfl
theorem WM:Tryz.prog.globalNamed "internal/strconv.uint64pow10" =some 1:=by kernel_rfl
theorem xK{W:World} {name:String} {k:IntKind} {zs:List Int} {g:Nat}(hz:zs≠[])(hg:Tryz.prog.globalNamed name=some g)(h:Lib.TabIs Tryz.prog W.memory name k zs):g<W.heap.size∧∀i (h:i<zs.length),W.cell? ⟨g,i,none⟩=some (.int k zs[i]):=by
 have hc:∀i (h:i<zs.length),W.cell? ⟨g,i,none⟩=some (.int k zs[i]):=fun i hi=>by
  have:=h.cell hg i hi
  have e:zs.getD i 0=zs[i]:=by simp[List.getD_eq_getElem?_getD,hi]
  rw[e] at this;exact this
 refine⟨?_,hc⟩
 have:=hc 0 (List.length_pos_iff.2 hz)
 unfold World.cell? at this
 rcases Nat.lt_or_ge g W.heap.size with h0|h0
 ·exact h0
 ·rw[Array.getElem?_eq_none h0] at this;cases this
theorem Ue{W:World}(h:laidMetH Tryz.prog CX W.memory):Laid (fun b=>b<W.heap.size) W:=by
 have h1:laidMet Tryz.prog (("math/bits.deBruijn32tab",Lib.tabData .u8 wU)::("math/bits.deBruijn64tab",Rows.laid_math_bits_deBruijn64tab)::("internal/strconv.uint64pow10",Lib.tabData .u64 tabP)::[]) W.memory:=h
 have t1:Lib.TabIs Tryz.prog W.memory "math/bits.deBruijn32tab" .u8 wU:=Lib.tabIs_of_head (t:=185) (e:=5) (n:=32) NT (by kernel_rfl) (by kernel_rfl) (by kernel_rfl) (by kernel_rfl) (by kernel_rfl) h1
 have t2:Lib.TabIs Tryz.prog W.memory "internal/strconv.uint64pow10" .u64 tabP:=Lib.tabIs_of_head (t:=283) (e:=182) (n:=20) WM (by kernel_rfl) (by kernel_rfl) (by kernel_rfl) (by kernel_rfl) (by kernel_rfl) h1.tail.tail
 have c1:=xK (by decide) NT t1
 have c2:=xK (by decide) WM t2
 intro g k zs hg
 unfold LJ at hg
 split at hg
 ·rename_i hg0
  cases hg;subst hg0
  exact⟨c1.1,c1.1,c1.2⟩
 ·split at hg
  ·rename_i hg0
   cases hg;subst hg0
   exact⟨c2.1,c2.1,c2.2⟩
  ·cases hg
