/- RowTopSurvives. No condition. -/
import Derived.Test.YtgmpdplpodemaaaGreatDoorFacGAll
import Derived.Test.YtgmpdplpodemaaaGreatDoorFormsArgs
import Derived.Test.YtgmpdplpodemaaaGreatDoorLdG1
set_option linter.all false
namespace Go.Proofs.YtgmpdplpodemaaaGreatDoor
namespace LTopSurvives
open Go.ChangeShapes Go.WideShapes Go.ChangeAt Go.RowKit Go.Sy
set_option maxRecDepth 100000 in
theorem lifted(os:Os)(started:os.Started)(H:Type)(enc:TypeId×Value→H):
 ReturnsInHanded {} Tryz.checked os 3 .any (fun w args=>(Rows.topSurvivesSpec.pre enc Tryz.prog Tryz.f3 [] false w args∧laidMetH Tryz.prog CX w)∧sizedMet enc Tryz.prog Tryz.f3 (OpenSpec.ofChange Rows.topSurvivesSpec) false w args) (Rows.topSurvivesSpec.post enc Tryz.prog Tryz.f3 false true false false):=by
 refine Kt (C:=Tryz.checked) (tb:=4) (X:=fun w _=>laidMetH Tryz.prog CX w) own started (by kernel_rfl) Tryz.func3
  (ChangeSpec.witness_shaped (enc:=enc) (C:=Tryz.checked) (os:=os) (X:=fun w _=>laidMetH Tryz.prog CX w) false (World.doorLaid Tryz.prog 400 os) #[.agg #[.int .u8 0,.slice none 0 0]] 8 rfl (World.shaped_of_RefB (by kernel_rfl) (by kernel_rfl)) (by kernel_rfl) (by kernel_rfl) (by kernel_rfl) (NS os _)) kids full (by kernel_rfl) rfl (by kernel_rfl) Tryz.underlying4 (fun ds hl=>?_) (fun W base args ds p hX hval hA hw=>?_)
 ·rw[Tryz.params3] at hl
  match ds,hl with
  |[_],_=>rfl
 ·rw[Tryz.params3] at hA hval hw
  obtain⟨v0,vs0,d0,ds0,p0,q0,hargs,rfl,rfl,h0,r0⟩:=trodAll_cons hA
  obtain⟨rfl,rfl,rfl⟩:=trodAll_nil r0
  obtain rfl:args= #[v0]:=by cases args;simp_all
  obtain⟨x0,f0,e0⟩:=ND kids full (m:=8) (t:=24) (of_decide_eq_true (by kernel_rfl)) (by kernel_rfl) Tryz.underlying24 (hval 0 24 v0 rfl rfl) h0 (fun k hk=>hw k (jS (i:=0) rfl rfl hk))
  obtain⟨n0,z0,l0,rfl,hd0⟩:=Di f0
  refine(WE (z:=z0) hd0).law W rfl (fun j h=>?_) (Ue hX)
  match j,h with
  |0,_=>exact e0
theorem over:Rows.topSurvivesRow.holds Tryz.pinned (OpenSpec.ofChange Rows.topSurvivesSpec):=
 OpenClaim.holds_of_wide 3 Tryz.f3 rfl rfl rfl rfl rfl rfl rfl ⟨rfl,rfl,rfl,rfl,rfl⟩ rfl rfl rfl rfl rfl topSurvives_nam Tryz.func3 vJ vK vL
  (fun os started H enc _=>lifted os started H enc)
end LTopSurvives
theorem topSurvives_holds:Rows.TopSurvivesCardSaid:=
 Claim7.holds_tied_plain_at .later [] [.data,.data,.data] true (true, "41dbead0fac631f991a28b589f143705b686a18ad42e4376e787a36b5b1608e0") false
  LTopSurvives.over (fun _ h=>by cases h) vM (fun _ h=>by cases h) topSurvives_row_tie rfl ⟨rfl,rfl⟩ vO rfl
  (fun f fn hf hfn=>by
    obtain rfl:f=3:=Option.some.inj (topSurvives_nam.symm.trans hf) |>.symm
    obtain rfl:fn=Tryz.f3:=(Option.some.inj (Tryz.func3.symm.trans hfn)).symm
    exact⟨vP,fun j t ht=>by
     rw[Tryz.params3] at ht
     have hm:t∈[24]:=by simpa using Array.mem_of_getElem? ht
     exact(show Tryz.prog.wantsStandIn t=false by simpa using List.all_eq_true.1 vQ t hm)⟩)
  vR
#print axioms topSurvives_holds
end Go.Proofs.YtgmpdplpodemaaaGreatDoor
