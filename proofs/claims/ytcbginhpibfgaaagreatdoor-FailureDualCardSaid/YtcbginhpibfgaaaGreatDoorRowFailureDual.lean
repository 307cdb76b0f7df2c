/- RowFailureDual. No condition. -/
import Derived.Test.YtcbginhpibfgaaaGreatDoorXFailureDual2
import Derived.Test.YtcbginhpibfgaaaGreatDoorFacAll
import Derived.Test.YtcbginhpibfgaaaGreatDoorFDoor
import Derived.Test.YtcbginhpibfgaaaGreatDoorFcG1
import Derived.Test.YtcbginhpibfgaaaGreatDoorLawD1
import Derived.Test.YtcbginhpibfgaaaGreatDoorCards
import Derived.SevenTiedAt
import Derived.JoinedOf
import Derived.KernelRfl
import Derived.OpenShut
import Derived.Test.YtcbginhpibfgaaaGreatDoorProg
set_option linter.all false
namespace Go.Proofs.YtcbginhpibfgaaaGreatDoor
namespace LFailureDual
open Go.ChangeShapes Go.WideShapes Go.ChangeAt Go.RowKit Go.Sy
set_option maxRecDepth 100000 in
theorem lifted(os:Os)(started:os.Started)(H:Type)(enc:TypeId×Value→H):
 ReturnsInHanded {} Tryz.checked os 10 .any (fun w args=>(Rows.failureDualSpec.pre enc Tryz.prog Tryz.f10 [] false w args∧laidMetH Tryz.prog fO w)∧sizedMet enc Tryz.prog Tryz.f10 (OpenSpec.ofChange Rows.failureDualSpec) false w args) (Rows.failureDualSpec.post enc Tryz.prog Tryz.f10 false true false false):=by
 refine iJ (C:=Tryz.checked) (tb:=4) (X:=fun w _=>laidMetH Tryz.prog fO w) own started (by kernel_rfl) Tryz.func10
  (ChangeSpec.witness_shaped (enc:=enc) (C:=Tryz.checked) (os:=os) (X:=fun w _=>laidMetH Tryz.prog fO w) false (World.doorLaid Tryz.prog 400 os) #[.agg #[.int .u8 0,.slice none 0 0,.bool false],.slice none 0 0] 8 rfl (World.shaped_of_RefB (by kernel_rfl) (by kernel_rfl)) (by kernel_rfl) (by kernel_rfl) (by kernel_rfl) (jF os _)) kids full (by kernel_rfl) rfl (by kernel_rfl) Tryz.underlying4 (fun ds hl=>?_) (fun W base args ds p hX hval hA hw=>?_)
 ·rw[Tryz.params10] at hl
  match ds,hl with
  |[_,_],_=>rfl
 ·rw[Tryz.params10] at hA hval hw
  obtain⟨v0,vs0,d0,ds0,p0,q0,hargs,rfl,rfl,h0,r0⟩:=trodAll_cons hA
  obtain⟨v1,vs1,d1,ds1,p1,q1,rfl,rfl,rfl,h1,r1⟩:=trodAll_cons r0
  obtain⟨rfl,rfl,rfl⟩:=trodAll_nil r1
  obtain rfl:args= #[v0,v1]:=by cases args;simp_all
  obtain⟨x0,f0,e0⟩:=iw kids full (m:=8) (t:=24) (of_decide_eq_true (by kernel_rfl)) (by kernel_rfl) Tryz.underlying24 (hval 0 24 v0 rfl rfl) h0 (fun k hk=>hw k (aO (i:=0) rfl rfl hk))
  obtain⟨n0,z0,l0,p0,rfl,hd0⟩:=lW f0
  obtain⟨x1,f1,e1⟩:=kT kids full (m:=8) (t:=25) (of_decide_eq_true (by kernel_rfl)) (by kernel_rfl) (by kernel_rfl) (hval 1 25 v1 rfl rfl) h1 (fun k hk=>hw k (aO (i:=1) rfl rfl hk))
  obtain⟨z1,l1,g1,hc1⟩:=iO f1
  obtain rfl:=(List.cons.inj g1).1
  refine(aev (z:=z0) (up:=p0) (zl:=z1) hd0 hc1).law W rfl (fun j h=>?_) (kW hX)
  match j,h with
  |0,_=>exact e0
  |1,_=>exact e1
theorem over:Rows.failureDualRow.holds Tryz.pinned (OpenSpec.ofChange Rows.failureDualSpec):=
 OpenClaim.holds_of_wide 10 Tryz.f10 rfl rfl rfl rfl rfl rfl rfl ⟨rfl,rfl,rfl,rfl,rfl⟩ rfl rfl rfl rfl rfl failureDual_nam Tryz.func10 Cm Cn Co
  (fun os started H enc _=>lifted os started H enc)
end LFailureDual
theorem failureDual_holds:Rows.FailureDualCardSaid:=
 Claim7.holds_tied_plain_at .later [] [.data,.data,.data] true (true, "6c6ed28039965d1e05ce70114d4f84b00907715979fcf266077e3121104a4804") false
  LFailureDual.over (fun _ h=>by cases h) Cq (fun _ h=>by cases h) failureDual_row_tie rfl ⟨rfl,rfl⟩ Cr rfl
  (fun f fn hf hfn=>by
    obtain rfl:f=10:=Option.some.inj (failureDual_nam.symm.trans hf) |>.symm
    obtain rfl:fn=Tryz.f10:=(Option.some.inj (Tryz.func10.symm.trans hfn)).symm
    exact⟨Ct,fun j t ht=>by
     rw[Tryz.params10] at ht
     have hm:t∈[24,25]:=by simpa using Array.mem_of_getElem? ht
     exact(show Tryz.prog.wantsStandIn t=false by simpa using List.all_eq_true.1 Cu t hm)⟩)
  Cv
#print axioms failureDual_holds
end Go.Proofs.YtcbginhpibfgaaaGreatDoor
