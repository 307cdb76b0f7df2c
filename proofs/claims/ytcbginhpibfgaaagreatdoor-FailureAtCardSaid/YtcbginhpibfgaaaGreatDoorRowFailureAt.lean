/- RowFailureAt. No condition. -/
import Derived.Test.YtcbginhpibfgaaaGreatDoorXFailureAt1
import Derived.Test.YtcbginhpibfgaaaGreatDoorFacAll
import Derived.Test.YtcbginhpibfgaaaGreatDoorFDoor
import Derived.Test.YtcbginhpibfgaaaGreatDoorFcG1
import Derived.Test.YtcbginhpibfgaaaGreatDoorLawD1
import Derived.Test.YtcbginhpibfgaaaGreatDoorCards
import Derived.SevenTiedAt
import Derived.JoinedOf
import Derived.KernelRfl
import Derived.OpenShut
set_option linter.all false
namespace Go.Proofs.YtcbginhpibfgaaaGreatDoor
namespace LFailureAt
open Go.ChangeShapes Go.WideShapes Go.ChangeAt Go.RowKit Go.Sy
set_option maxRecDepth 100000 in
theorem lifted(os:Os)(started:os.Started)(H:Type)(enc:TypeId×Value→H):
 ReturnsInHanded {} Tryz.checked os 7 .any (fun w args=>(Rows.failureAtSpec.pre enc Tryz.prog Tryz.f7 [] false w args∧laidMetH Tryz.prog fO w)∧sizedMet enc Tryz.prog Tryz.f7 (OpenSpec.ofChange Rows.failureAtSpec) false w args) (Rows.failureAtSpec.post enc Tryz.prog Tryz.f7 false true false false):=by
 refine iJ (C:=Tryz.checked) (tb:=4) (X:=fun w _=>laidMetH Tryz.prog fO w) own started (by kernel_rfl) Tryz.func7
  (ChangeSpec.witness_shaped (enc:=enc) (C:=Tryz.checked) (os:=os) (X:=fun w _=>laidMetH Tryz.prog fO w) false (World.doorLaid Tryz.prog 400 os) #[.slice none 0 0,.agg #[.bool false,.slice none 0 0,.bool false,.slice none 0 0]] 8 rfl (World.shaped_of_RefB (by kernel_rfl) (by kernel_rfl)) (by kernel_rfl) (by kernel_rfl) (by kernel_rfl) (jF os _)) kids full (by kernel_rfl) rfl (by kernel_rfl) Tryz.underlying4 (fun ds hl=>?_) (fun W base args ds p hX hval hA hw=>?_)
 ·rw[Tryz.params7] at hl
  match ds,hl with
  |[_,_],_=>rfl
 ·rw[Tryz.params7] at hA hval hw
  obtain⟨v0,vs0,d0,ds0,p0,q0,hargs,rfl,rfl,h0,r0⟩:=trodAll_cons hA
  obtain⟨v1,vs1,d1,ds1,p1,q1,rfl,rfl,rfl,h1,r1⟩:=trodAll_cons r0
  obtain⟨rfl,rfl,rfl⟩:=trodAll_nil r1
  obtain rfl:args= #[v0,v1]:=by cases args;simp_all
  obtain⟨x0,f0,e0⟩:=kT kids full (m:=8) (t:=53) (of_decide_eq_true (by kernel_rfl)) (by kernel_rfl) (by kernel_rfl) (hval 0 53 v0 rfl rfl) h0 (fun k hk=>hw k (aO (i:=0) rfl rfl hk))
  obtain⟨z0,l0,g0,ho0,hl0,hz0⟩:=Uk f0
  obtain rfl:=(List.cons.inj g0).1
  obtain⟨x1,f1,e1⟩:=iw kids full (m:=8) (t:=37) (of_decide_eq_true (by kernel_rfl)) (by kernel_rfl) Tryz.underlying37 (hval 1 37 v1 rfl rfl) h1 (fun k hk=>hw k (aO (i:=1) rfl rfl hk))
  obtain⟨X1,rfl,hx1⟩:=Fw f1
  refine(alW (z:=z0) rfl hl0 hz0 ho0 hx1).law W rfl (fun j h=>?_) (kW hX)
  match j,h with
  |0,_=>exact e0
  |1,_=>exact e1
theorem over:Rows.failureAtRow.holds Tryz.pinned (OpenSpec.ofChange Rows.failureAtSpec):=
 OpenClaim.holds_of_wide 7 Tryz.f7 rfl rfl rfl rfl rfl rfl rfl ⟨rfl,rfl,rfl,rfl,rfl⟩ rfl rfl rfl rfl rfl failureAt_nam Tryz.func7 Hm Ho Hq
  (fun os started H enc _=>lifted os started H enc)
end LFailureAt
theorem failureAt_holds:Rows.FailureAtCardSaid:=
 Claim7.holds_tied_plain_at .later [] [.data,.data,.data] true (true, "6c6ed28039965d1e05ce70114d4f84b00907715979fcf266077e3121104a4804") false
  LFailureAt.over (fun _ h=>by cases h) Hr (fun _ h=>by cases h) failureAt_row_tie rfl ⟨rfl,rfl⟩ Ht rfl
  (fun f fn hf hfn=>by
    obtain rfl:f=7:=Option.some.inj (failureAt_nam.symm.trans hf) |>.symm
    obtain rfl:fn=Tryz.f7:=(Option.some.inj (Tryz.func7.symm.trans hfn)).symm
    exact⟨Hu,fun j t ht=>by
     rw[Tryz.params7] at ht
     have hm:t∈[53,37]:=by simpa using Array.mem_of_getElem? ht
     exact(show Tryz.prog.wantsStandIn t=false by simpa using List.all_eq_true.1 Hw t hm)⟩)
  Hy
#print axioms failureAt_holds
end Go.Proofs.YtcbginhpibfgaaaGreatDoor
