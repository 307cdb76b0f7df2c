/- RowFailurePolynomial. No condition. -/
import Derived.Test.YtcbginhpibfgaaaGreatDoorXFailurePolynomial3
import Derived.Test.YtcbginhpibfgaaaGreatDoorFacAll
import Derived.Test.YtcbginhpibfgaaaGreatDoorFDoor
import Derived.Test.YtcbginhpibfgaaaGreatDoorFcG1
import Derived.Test.YtcbginhpibfgaaaGreatDoorLawD1
import Derived.Test.YtcbginhpibfgaaaGreatDoorCards
import Derived.SevenTiedAt
import Derived.JoinedOf
import Derived.KernelRfl
import Derived.OpenShut
import Derived.Test.YtcbginhpibfgaaaGreatDoorProg
set_option linter.all false
namespace Go.Proofs.YtcbginhpibfgaaaGreatDoor
namespace LFailurePolynomial
open Go.ChangeShapes Go.WideShapes Go.ChangeAt Go.RowKit Go.Sy
set_option maxRecDepth 100000 in
theorem lifted(os:Os)(started:os.Started)(H:Type)(enc:TypeId×Value→H):
 ReturnsInHanded {} Tryz.checked os 6 .any (fun w args=>(Rows.failurePolynomialSpec.pre enc Tryz.prog Tryz.f6 [] false w args∧laidMetH Tryz.prog fO w)∧sizedMet enc Tryz.prog Tryz.f6 (OpenSpec.ofChange Rows.failurePolynomialSpec) false w args) (Rows.failurePolynomialSpec.post enc Tryz.prog Tryz.f6 false true false false):=by
 refine iJ (C:=Tryz.checked) (tb:=4) (X:=fun w _=>laidMetH Tryz.prog fO w) own started (by kernel_rfl) Tryz.func6
  (ChangeSpec.witness_shaped (enc:=enc) (C:=Tryz.checked) (os:=os) (X:=fun w _=>laidMetH Tryz.prog fO w) false (World.doorLaid Tryz.prog 400 os) #[.agg #[.int .i64 0,.slice none 0 0,.int .i64 0],.agg #[.int .u8 0,.int .u8 0]] 8 rfl (World.shaped_of_RefB (by kernel_rfl) (by kernel_rfl)) (by kernel_rfl) (by kernel_rfl) (by kernel_rfl) (jF os _)) kids full (by kernel_rfl) rfl (by kernel_rfl) Tryz.underlying4 (fun ds hl=>?_) (fun W base args ds p hX hval hA hw=>?_)
 ·rw[Tryz.params6] at hl
  match ds,hl with
  |[_,_],_=>rfl
 ·rw[Tryz.params6] at hA hval hw
  obtain⟨v0,vs0,d0,ds0,p0,q0,hargs,rfl,rfl,h0,r0⟩:=trodAll_cons hA
  obtain⟨v1,vs1,d1,ds1,p1,q1,rfl,rfl,rfl,h1,r1⟩:=trodAll_cons r0
  obtain⟨rfl,rfl,rfl⟩:=trodAll_nil r1
  obtain rfl:args= #[v0,v1]:=by cases args;simp_all
  obtain⟨x0,f0,e0⟩:=iw kids full (m:=8) (t:=29) (of_decide_eq_true (by kernel_rfl)) (by kernel_rfl) Tryz.underlying29 (hval 0 29 v0 rfl rfl) h0 (fun k hk=>hw k (aO (i:=0) rfl rfl hk))
  obtain⟨n0,z0,l0,g0,rfl,hl0,hr0⟩:=lc f0
  obtain⟨x1,f1,e1⟩:=iw kids full (m:=8) (t:=52) (of_decide_eq_true (by kernel_rfl)) (by kernel_rfl) Tryz.underlying52 (hval 1 52 v1 rfl rfl) h1 (fun k hk=>hw k (aO (i:=1) rfl rfl hk))
  obtain⟨c1,rfl,ha1,hb1⟩:=Bq f1
  refine(aeu (n:=n0) (z:=z0) (r:=g0) (a:=c1.a) (b:=c1.b) rfl hl0 hr0 ha1 hb1).law W rfl (fun j h=>?_) (kW hX)
  match j,h with
  |0,_=>exact e0
  |1,_=>exact e1
theorem over:Rows.failurePolynomialRow.holds Tryz.pinned (OpenSpec.ofChange Rows.failurePolynomialSpec):=
 OpenClaim.holds_of_wide 6 Tryz.f6 rfl rfl rfl rfl rfl rfl rfl ⟨rfl,rfl,rfl,rfl,rfl⟩ rfl rfl rfl rfl rfl failurePolynomial_nam Tryz.func6 qy qz qA
  (fun os started H enc _=>lifted os started H enc)
end LFailurePolynomial
theorem failurePolynomial_holds:Rows.FailurePolynomialCardSaid:=
 Claim7.holds_tied_plain_at .later [] [.data,.data,.data] true (true, "6c6ed28039965d1e05ce70114d4f84b00907715979fcf266077e3121104a4804") false
  LFailurePolynomial.over (fun _ h=>by cases h) qB (fun _ h=>by cases h) failurePolynomial_row_tie rfl ⟨rfl,rfl⟩ qC rfl
  (fun f fn hf hfn=>by
    obtain rfl:f=6:=Option.some.inj (failurePolynomial_nam.symm.trans hf) |>.symm
    obtain rfl:fn=Tryz.f6:=(Option.some.inj (Tryz.func6.symm.trans hfn)).symm
    exact⟨qD,fun j t ht=>by
     rw[Tryz.params6] at ht
     have hm:t∈[29,52]:=by simpa using Array.mem_of_getElem? ht
     exact(show Tryz.prog.wantsStandIn t=false by simpa using List.all_eq_true.1 qE t hm)⟩)
  qF
#print axioms failurePolynomial_holds
end Go.Proofs.YtcbginhpibfgaaaGreatDoor
