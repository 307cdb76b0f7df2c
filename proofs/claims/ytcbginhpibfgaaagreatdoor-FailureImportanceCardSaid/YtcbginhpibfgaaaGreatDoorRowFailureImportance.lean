/- RowFailureImportance. No condition. -/
import Derived.Test.YtcbginhpibfgaaaGreatDoorXFailureImportance2
import Derived.Test.YtcbginhpibfgaaaGreatDoorFacAll
import Derived.Test.YtcbginhpibfgaaaGreatDoorFDoor
import Derived.Test.YtcbginhpibfgaaaGreatDoorFcG1
import Derived.Test.YtcbginhpibfgaaaGreatDoorLawD1
import Derived.Test.YtcbginhpibfgaaaGreatDoorCards
import Derived.SevenTiedAt
import Derived.JoinedOf
import Derived.KernelRfl
import Derived.OpenShut
set_option linter.all false
namespace Go.Proofs.YtcbginhpibfgaaaGreatDoor
namespace LFailureImportance
open Go.ChangeShapes Go.WideShapes Go.ChangeAt Go.RowKit Go.Sy
set_option maxRecDepth 100000 in
theorem lifted(os:Os)(started:os.Started)(H:Type)(enc:TypeId×Value→H):
 ReturnsInHanded {} Tryz.checked os 5 .any (fun w args=>(Rows.failureImportanceSpec.pre enc Tryz.prog Tryz.f5 [] false w args∧laidMetH Tryz.prog fO w)∧sizedMet enc Tryz.prog Tryz.f5 (OpenSpec.ofChange Rows.failureImportanceSpec) false w args) (Rows.failureImportanceSpec.post enc Tryz.prog Tryz.f5 false true false false):=by
 refine iJ (C:=Tryz.checked) (tb:=4) (X:=fun w _=>laidMetH Tryz.prog fO w) own started (by kernel_rfl) Tryz.func5
  (ChangeSpec.witness_shaped (enc:=enc) (C:=Tryz.checked) (os:=os) (X:=fun w _=>laidMetH Tryz.prog fO w) false (World.doorLaid Tryz.prog 400 os) #[.agg #[.int .u8 0,.slice none 0 0,.bool false],.slice none 0 0,.int .u8 0] 8 rfl (World.shaped_of_RefB (by kernel_rfl) (by kernel_rfl)) (by kernel_rfl) (by kernel_rfl) (by kernel_rfl) (jF os _)) kids full (by kernel_rfl) rfl (by kernel_rfl) Tryz.underlying4 (fun ds hl=>?_) (fun W base args ds p hX hval hA hw=>?_)
 ·rw[Tryz.params5] at hl
  match ds,hl with
  |[_,_,_],_=>rfl
 ·rw[Tryz.params5] at hA hval hw
  obtain⟨v0,vs0,d0,ds0,p0,q0,hargs,rfl,rfl,h0,r0⟩:=trodAll_cons hA
  obtain⟨v1,vs1,d1,ds1,p1,q1,rfl,rfl,rfl,h1,r1⟩:=trodAll_cons r0
  obtain⟨v2,vs2,d2,ds2,p2,q2,rfl,rfl,rfl,h2,r2⟩:=trodAll_cons r1
  obtain⟨rfl,rfl,rfl⟩:=trodAll_nil r2
  obtain rfl:args= #[v0,v1,v2]:=by cases args;simp_all
  obtain⟨x0,f0,e0⟩:=iw kids full (m:=8) (t:=24) (of_decide_eq_true (by kernel_rfl)) (by kernel_rfl) Tryz.underlying24 (hval 0 24 v0 rfl rfl) h0 (fun k hk=>hw k (aO (i:=0) rfl rfl hk))
  obtain⟨n0,z0,l0,p0,rfl,hd0⟩:=lW f0
  obtain⟨x1,f1,e1⟩:=kT kids full (m:=8) (t:=25) (of_decide_eq_true (by kernel_rfl)) (by kernel_rfl) (by kernel_rfl) (hval 1 25 v1 rfl rfl) h1 (fun k hk=>hw k (aO (i:=1) rfl rfl hk))
  obtain⟨z1,l1,g1,hc1⟩:=iO f1
  obtain rfl:=(List.cons.inj g1).1
  obtain⟨a2,rfl,rfl,rfl,w2⟩:=open_int Tryz.underlying5 (hval 2 5 v2 rfl rfl) h2
  have b2:=wC w2
  obtain⟨s2,rfl⟩:=Int.eq_ofNat_of_zero_le b2.1
  refine(ajA (z:=z0) (up:=p0) (zl:=z1) (sv:=s2) hd0 hc1 (by omega)).law W rfl (fun j h=>?_) (kW hX)
  match j,h with
  |0,_=>exact e0
  |1,_=>exact e1
  |2,_=>exact .val _
theorem over:Rows.failureImportanceRow.holds Tryz.pinned (OpenSpec.ofChange Rows.failureImportanceSpec):=
 OpenClaim.holds_of_wide 5 Tryz.f5 rfl rfl rfl rfl rfl rfl rfl ⟨rfl,rfl,rfl,rfl,rfl⟩ rfl rfl rfl rfl rfl failureImportance_nam Tryz.func5 pF pG pI
  (fun os started H enc _=>lifted os started H enc)
end LFailureImportance
theorem failureImportance_holds:Rows.FailureImportanceCardSaid:=
 Claim7.holds_tied_plain_at .later [] [.data,.data,.data] true (true, "6c6ed28039965d1e05ce70114d4f84b00907715979fcf266077e3121104a4804") false
  LFailureImportance.over (fun _ h=>by cases h) pJ (fun _ h=>by cases h) failureImportance_row_tie rfl ⟨rfl,rfl⟩ pK rfl
  (fun f fn hf hfn=>by
    obtain rfl:f=5:=Option.some.inj (failureImportance_nam.symm.trans hf) |>.symm
    obtain rfl:fn=Tryz.f5:=(Option.some.inj (Tryz.func5.symm.trans hfn)).symm
    exact⟨pM,fun j t ht=>by
     rw[Tryz.params5] at ht
     have hm:t∈[24,25,5]:=by simpa using Array.mem_of_getElem? ht
     exact(show Tryz.prog.wantsStandIn t=false by simpa using List.all_eq_true.1 pO t hm)⟩)
  pQ
#print axioms failureImportance_holds
end Go.Proofs.YtcbginhpibfgaaaGreatDoor
