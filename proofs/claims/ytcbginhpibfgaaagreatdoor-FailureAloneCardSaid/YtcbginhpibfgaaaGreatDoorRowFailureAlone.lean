/- RowFailureAlone. No condition. -/
import Derived.Test.YtcbginhpibfgaaaGreatDoorXFailureAlone2
import Derived.Test.YtcbginhpibfgaaaGreatDoorFacAll
import Derived.Test.YtcbginhpibfgaaaGreatDoorFDoor
import Derived.Test.YtcbginhpibfgaaaGreatDoorFcG1
import Derived.Test.YtcbginhpibfgaaaGreatDoorLawD1
import Derived.Test.YtcbginhpibfgaaaGreatDoorCards
import Derived.SevenTiedAt
import Derived.JoinedOf
import Derived.KernelRfl
import Derived.OpenShut
import Derived.Test.YtcbginhpibfgaaaGreatDoorProg
set_option linter.all false
namespace Go.Proofs.YtcbginhpibfgaaaGreatDoor
namespace LFailureAlone
open Go.ChangeShapes Go.WideShapes Go.ChangeAt Go.RowKit Go.Sy
set_option maxRecDepth 100000 in
theorem lifted(os:Os)(started:os.Started)(H:Type)(enc:TypeId×Value→H):
 ReturnsInHanded {} Tryz.checked os 9 .any (fun w args=>(Rows.failureAloneSpec.pre enc Tryz.prog Tryz.f9 [] false w args∧laidMetH Tryz.prog fO w)∧sizedMet enc Tryz.prog Tryz.f9 (OpenSpec.ofChange Rows.failureAloneSpec) false w args) (Rows.failureAloneSpec.post enc Tryz.prog Tryz.f9 false true false false):=by
 refine iJ (C:=Tryz.checked) (tb:=4) (X:=fun w _=>laidMetH Tryz.prog fO w) own started (by kernel_rfl) Tryz.func9
  (ChangeSpec.witness_shaped (enc:=enc) (C:=Tryz.checked) (os:=os) (X:=fun w _=>laidMetH Tryz.prog fO w) false (World.doorLaid Tryz.prog 400 os) #[.agg #[.int .u8 0,.slice none 0 0,.bool false],.slice none 0 0,.slice none 0 0] 8 rfl (World.shaped_of_RefB (by kernel_rfl) (by kernel_rfl)) (by kernel_rfl) (by kernel_rfl) (by kernel_rfl) (jF os _)) kids full (by kernel_rfl) rfl (by kernel_rfl) Tryz.underlying4 (fun ds hl=>?_) (fun W base args ds p hX hval hA hw=>?_)
 ·rw[Tryz.params9] at hl
  match ds,hl with
  |[_,_,_],_=>rfl
 ·rw[Tryz.params9] at hA hval hw
  obtain⟨v0,vs0,d0,ds0,p0,q0,hargs,rfl,rfl,h0,r0⟩:=trodAll_cons hA
  obtain⟨v1,vs1,d1,ds1,p1,q1,rfl,rfl,rfl,h1,r1⟩:=trodAll_cons r0
  obtain⟨v2,vs2,d2,ds2,p2,q2,rfl,rfl,rfl,h2,r2⟩:=trodAll_cons r1
  obtain⟨rfl,rfl,rfl⟩:=trodAll_nil r2
  obtain rfl:args= #[v0,v1,v2]:=by cases args;simp_all
  obtain⟨x0,f0,e0⟩:=iw kids full (m:=8) (t:=24) (of_decide_eq_true (by kernel_rfl)) (by kernel_rfl) Tryz.underlying24 (hval 0 24 v0 rfl rfl) h0 (fun k hk=>hw k (aO (i:=0) rfl rfl hk))
  obtain⟨n0,z0,l0,p0,rfl,hd0⟩:=lW f0
  obtain⟨x1,f1,e1⟩:=kT kids full (m:=8) (t:=62) (of_decide_eq_true (by kernel_rfl)) (by kernel_rfl) (by kernel_rfl) (hval 1 62 v1 rfl rfl) h1 (fun k hk=>hw k (aO (i:=1) rfl rfl hk))
  obtain⟨z1,l1,g1,ho1,hl1,hz1⟩:=Iz f1
  obtain rfl:=(List.cons.inj g1).1
  obtain⟨x2,f2,e2⟩:=kT kids full (m:=8) (t:=25) (of_decide_eq_true (by kernel_rfl)) (by kernel_rfl) (by kernel_rfl) (hval 2 25 v2 rfl rfl) h2 (fun k hk=>hw k (aO (i:=2) rfl rfl hk))
  obtain⟨z2,l2,g2,hc2⟩:=iO f2
  obtain rfl:=(List.cons.inj g2).1
  refine(ZK (z:=z0) (up:=p0) (zs:=z1) (zl:=z2) hd0 rfl hl1 hz1 hc2).law W rfl (fun j h=>?_) (kW hX)
  match j,h with
  |0,_=>exact e0
  |1,_=>exact e1
  |2,_=>exact e2
theorem over:Rows.failureAloneRow.holds Tryz.pinned (OpenSpec.ofChange Rows.failureAloneSpec):=
 OpenClaim.holds_of_wide 9 Tryz.f9 rfl rfl rfl rfl rfl rfl rfl ⟨rfl,rfl,rfl,rfl,rfl⟩ rfl rfl rfl rfl rfl failureAlone_nam Tryz.func9 Am Ao Ap
  (fun os started H enc _=>lifted os started H enc)
end LFailureAlone
theorem failureAlone_holds:Rows.FailureAloneCardSaid:=
 Claim7.holds_tied_plain_at .later [] [.data,.data,.data] true (true, "6c6ed28039965d1e05ce70114d4f84b00907715979fcf266077e3121104a4804") false
  LFailureAlone.over (fun _ h=>by cases h) Aq (fun _ h=>by cases h) failureAlone_row_tie rfl ⟨rfl,rfl⟩ Ar rfl
  (fun f fn hf hfn=>by
    obtain rfl:f=9:=Option.some.inj (failureAlone_nam.symm.trans hf) |>.symm
    obtain rfl:fn=Tryz.f9:=(Option.some.inj (Tryz.func9.symm.trans hfn)).symm
    exact⟨Au,fun j t ht=>by
     rw[Tryz.params9] at ht
     have hm:t∈[24,62,25]:=by simpa using Array.mem_of_getElem? ht
     exact(show Tryz.prog.wantsStandIn t=false by simpa using List.all_eq_true.1 Av t hm)⟩)
  Aw
#print axioms failureAlone_holds
end Go.Proofs.YtcbginhpibfgaaaGreatDoor
