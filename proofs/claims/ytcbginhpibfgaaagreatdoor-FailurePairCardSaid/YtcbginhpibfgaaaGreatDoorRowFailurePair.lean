/- RowFailurePair. No condition. -/
import Derived.Test.YtcbginhpibfgaaaGreatDoorXFailurePair5
import Derived.Test.YtcbginhpibfgaaaGreatDoorFacAll
import Derived.Test.YtcbginhpibfgaaaGreatDoorFDoor
import Derived.Test.YtcbginhpibfgaaaGreatDoorFcG1
import Derived.Test.YtcbginhpibfgaaaGreatDoorLawD1
import Derived.Test.YtcbginhpibfgaaaGreatDoorCards
import Derived.SevenTiedAt
import Derived.JoinedOf
import Derived.KernelRfl
import Derived.OpenShut
set_option linter.all false
namespace Go.Proofs.YtcbginhpibfgaaaGreatDoor
namespace LFailurePair
open Go.ChangeShapes Go.WideShapes Go.ChangeAt Go.RowKit Go.Sy
set_option maxRecDepth 100000 in
theorem lifted(os:Os)(started:os.Started)(H:Type)(enc:TypeId×Value→H):
 ReturnsInHanded {} Tryz.checked os 11 .any (fun w args=>(Rows.failurePairSpec.pre enc Tryz.prog Tryz.f11 [] false w args∧laidMetH Tryz.prog fO w)∧sizedMet enc Tryz.prog Tryz.f11 (OpenSpec.ofChange Rows.failurePairSpec) false w args) (Rows.failurePairSpec.post enc Tryz.prog Tryz.f11 false true false false):=by
 refine iJ (C:=Tryz.checked) (tb:=4) (X:=fun w _=>laidMetH Tryz.prog fO w) own started (by kernel_rfl) Tryz.func11
  (ChangeSpec.witness_shaped (enc:=enc) (C:=Tryz.checked) (os:=os) (X:=fun w _=>laidMetH Tryz.prog fO w) false (World.doorLaid Tryz.prog 400 os) #[.agg #[.int .i64 0,.slice none 0 0,.int .i64 0],.agg #[.int .i64 0,.slice none 0 0,.int .i64 0],.slice none 0 0] 8 rfl (World.shaped_of_RefB (by kernel_rfl) (by kernel_rfl)) (by kernel_rfl) (by kernel_rfl) (by kernel_rfl) (jF os _)) kids full (by kernel_rfl) rfl (by kernel_rfl) Tryz.underlying4 (fun ds hl=>?_) (fun W base args ds p hX hval hA hw=>?_)
 ·rw[Tryz.params11] at hl
  match ds,hl with
  |[_,_,_],_=>rfl
 ·rw[Tryz.params11] at hA hval hw
  obtain⟨v0,vs0,d0,ds0,p0,q0,hargs,rfl,rfl,h0,r0⟩:=trodAll_cons hA
  obtain⟨v1,vs1,d1,ds1,p1,q1,rfl,rfl,rfl,h1,r1⟩:=trodAll_cons r0
  obtain⟨v2,vs2,d2,ds2,p2,q2,rfl,rfl,rfl,h2,r2⟩:=trodAll_cons r1
  obtain⟨rfl,rfl,rfl⟩:=trodAll_nil r2
  obtain rfl:args= #[v0,v1,v2]:=by cases args;simp_all
  obtain⟨x0,f0,e0⟩:=iw kids full (m:=8) (t:=29) (of_decide_eq_true (by kernel_rfl)) (by kernel_rfl) Tryz.underlying29 (hval 0 29 v0 rfl rfl) h0 (fun k hk=>hw k (aO (i:=0) rfl rfl hk))
  obtain⟨n0,z0,l0,g0,rfl,hl0,hr0⟩:=lc f0
  obtain⟨x1,f1,e1⟩:=iw kids full (m:=8) (t:=29) (of_decide_eq_true (by kernel_rfl)) (by kernel_rfl) Tryz.underlying29 (hval 1 29 v1 rfl rfl) h1 (fun k hk=>hw k (aO (i:=1) rfl rfl hk))
  obtain⟨n1,z1,l1,g1,rfl,hl1,hr1⟩:=lc f1
  obtain⟨x2,f2,e2⟩:=kT kids full (m:=8) (t:=31) (of_decide_eq_true (by kernel_rfl)) (by kernel_rfl) (by kernel_rfl) (hval 2 31 v2 rfl rfl) h2 (fun k hk=>hw k (aO (i:=2) rfl rfl hk))
  obtain⟨z2,l2,g2,hp2⟩:=Br f2
  obtain rfl:=(List.cons.inj g2).1
  refine(aew (n1:=n0) (z1:=z0) (r1:=g0) (n2:=n1) (z2:=z1) (r2:=g1) rfl hl0 hr0 rfl hl1 hr1 hp2).law W rfl (fun j h=>?_) (kW hX)
  match j,h with
  |0,_=>exact e0
  |1,_=>exact e1
  |2,_=>exact e2
theorem over:Rows.failurePairRow.holds Tryz.pinned (OpenSpec.ofChange Rows.failurePairSpec):=
 OpenClaim.holds_of_wide 11 Tryz.f11 rfl rfl rfl rfl rfl rfl rfl ⟨rfl,rfl,rfl,rfl,rfl⟩ rfl rfl rfl rfl rfl failurePair_nam Tryz.func11 C8 C9 Da
  (fun os started H enc _=>lifted os started H enc)
end LFailurePair
theorem failurePair_holds:Rows.FailurePairCardSaid:=
 Claim7.holds_tied_plain_at .later [] [.data,.data,.data] true (true, "6c6ed28039965d1e05ce70114d4f84b00907715979fcf266077e3121104a4804") false
  LFailurePair.over (fun _ h=>by cases h) Db (fun _ h=>by cases h) failurePair_row_tie rfl ⟨rfl,rfl⟩ Dc rfl
  (fun f fn hf hfn=>by
    obtain rfl:f=11:=Option.some.inj (failurePair_nam.symm.trans hf) |>.symm
    obtain rfl:fn=Tryz.f11:=(Option.some.inj (Tryz.func11.symm.trans hfn)).symm
    exact⟨De,fun j t ht=>by
     rw[Tryz.params11] at ht
     have hm:t∈[29,29,31]:=by simpa using Array.mem_of_getElem? ht
     exact(show Tryz.prog.wantsStandIn t=false by simpa using List.all_eq_true.1 Df t hm)⟩)
  Dh
#print axioms failurePair_holds
end Go.Proofs.YtcbginhpibfgaaaGreatDoor
