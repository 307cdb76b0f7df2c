/- RowTopProduct. No condition. -/
import Derived.Test.YtgmpdplpodemaaaGreatDoorPwG3w
set_option linter.all false
namespace Go.Proofs.YtgmpdplpodemaaaGreatDoor
namespace LTopProduct
open Go.ChangeShapes Go.WideShapes Go.ChangeAt Go.RowKit Go.Sy
set_option maxRecDepth 100000 in
theorem lifted(os:Os)(started:os.Started)(H:Type)(enc:TypeId×Value->H):
 ReturnsInHanded {} Tryz.checked os 4 .any (λw args=>(Rows.topProductSpec.pre enc Tryz.prog Tryz.f4 [] false w args/\laidMetH Tryz.prog Fg w)/\sizedMet enc Tryz.prog Tryz.f4 (OpenSpec.ofChange Rows.topProductSpec) false w args) (Rows.topProductSpec.post enc Tryz.prog Tryz.f4 false true false false):=by
 refine Ng (C:=Tryz.checked) (tb:=4) (X:=λw _=>laidMetH Tryz.prog Fg w) own started (by kernel_rfl) Tryz.func4
  (ChangeSpec.witness_shaped (enc:=enc) (C:=Tryz.checked) (os:=os) (X:=λw _=>laidMetH Tryz.prog Fg w) false (World.doorLaid Tryz.prog 400 os) #[.slice none 0 0,.slice none 0 0] 8 rfl (World.shaped_of_RefB (by kernel_rfl) (by kernel_rfl)) (by kernel_rfl) (by kernel_rfl) (by kernel_rfl) (QK os _)) kids full (by kernel_rfl) rfl (by kernel_rfl) Tryz.underlying4 (λds hl=>?_) (λW base args ds p hX hval hA hw=>?_)
 ·rw[Tryz.params4] at hl
  match ds,hl with
  |[_,_],_=>rfl
 ·rw[Tryz.params4] at hA hval hw
  obtain⟨v0,vs0,d0,ds0,p0,q0,hargs,rfl,rfl,h0,r0⟩:=trodAll_cons hA
  obtain⟨v1,vs1,d1,ds1,p1,q1,rfl,rfl,rfl,h1,r1⟩:=trodAll_cons r0
  obtain⟨rfl,rfl,rfl⟩:=trodAll_nil r1
  obtain rfl:args= #[v0,v1]:=by cases args;simp_all
  obtain⟨x0,f0,e0⟩:=Ke kids full (m:=8) (t:=45) (of_decide_eq_true (by kernel_rfl)) (by kernel_rfl) (by kernel_rfl) (hval 0 45 v0 rfl rfl) h0 (λk hk=>hw k (jw (i:=0) rfl rfl hk))
  obtain⟨z0,l0,g0,ho0,hl0⟩:=zB f0
  obtain rfl:=(List.cons.inj g0).1
  obtain⟨x1,f1,e1⟩:=Ke kids full (m:=8) (t:=45) (of_decide_eq_true (by kernel_rfl)) (by kernel_rfl) (by kernel_rfl) (hval 1 45 v1 rfl rfl) h1 (λk hk=>hw k (jw (i:=1) rfl rfl hk))
  obtain⟨z1,l1,g1,ho1,hl1⟩:=zB f1
  obtain rfl:=(List.cons.inj g1).1
  refine(abZ (z1:=z0) (z2:=z1) rfl hl0 rfl hl1).law W rfl (λj h=>?_) (XE hX)
  match j,h with
  |0,_=>exact e0
  |1,_=>exact e1
theorem over:Rows.topProductRow.holds Tryz.pinned (OpenSpec.ofChange Rows.topProductSpec):=
 OpenClaim.holds_of_wide 4 Tryz.f4 rfl rfl rfl rfl rfl rfl rfl ⟨rfl,rfl,rfl,rfl,rfl⟩ rfl rfl rfl rfl rfl topProduct_nam Tryz.func4 yB yC yD
  (λos started H enc _=>lifted os started H enc)
end LTopProduct
theorem topProduct_holds:Rows.TopProductCardSaid:=
 Claim7.holds_tied_plain_at .later [] [.data,.data,.data] true (true, "41dbead0fac631f991a28b589f143705b686a18ad42e4376e787a36b5b1608e0") false
  LTopProduct.over (λ_ h=>by cases h) yE (λ_ h=>by cases h) topProduct_row_tie rfl ⟨rfl,rfl⟩ yF rfl
  (λf fn hf hfn=>by
    obtain rfl:f=4:=Option.some.inj (topProduct_nam.symm.trans hf) |>.symm
    obtain rfl:fn=Tryz.f4:=(Option.some.inj (Tryz.func4.symm.trans hfn)).symm
    exact⟨yG,λj t ht=>by
     rw[Tryz.params4] at ht
     have hm:t∈[45,45]:=by simpa using Array.mem_of_getElem? ht
     exact(show Tryz.prog.wantsStandIn t=false by simpa using List.all_eq_true.1 yH t hm)⟩)
  yI
#print axioms topProduct_holds
end Go.Proofs.YtgmpdplpodemaaaGreatDoor
