/- RowTopIntersection. No condition. -/
import Derived.Test.YtgmpdplpodemaaaGreatDoorFacGAll
import Derived.Test.YtgmpdplpodemaaaGreatDoorInGArgs
set_option linter.all false
namespace Go.Proofs.YtgmpdplpodemaaaGreatDoor
namespace LTopIntersection
open Go.ChangeShapes Go.WideShapes Go.ChangeAt Go.RowKit Go.Sy
set_option maxRecDepth 100000 in
theorem lifted(os:Os)(started:os.Started)(H:Type)(enc:TypeId×Value→H):
 ReturnsInHanded {} Tryz.checked os 5 .any (fun w args=>(Rows.topIntersectionSpec.pre enc Tryz.prog Tryz.f5 [] false w args∧laidMetH Tryz.prog CX w)∧sizedMet enc Tryz.prog Tryz.f5 (OpenSpec.ofChange Rows.topIntersectionSpec) false w args) (Rows.topIntersectionSpec.post enc Tryz.prog Tryz.f5 false true false false):=by
 refine Kt (C:=Tryz.checked) (tb:=4) (X:=fun w _=>laidMetH Tryz.prog CX w) own started (by kernel_rfl) Tryz.func5
  (ChangeSpec.witness_shaped (enc:=enc) (C:=Tryz.checked) (os:=os) (X:=fun w _=>laidMetH Tryz.prog CX w) false (World.doorLaid Tryz.prog 400 os) #[.agg #[.slice none 0 0],.agg #[.slice none 0 0],.int .u16 0] 8 rfl (World.shaped_of_RefB (by kernel_rfl) (by kernel_rfl)) (by kernel_rfl) (by kernel_rfl) (by kernel_rfl) (NS os _)) kids full (by kernel_rfl) rfl (by kernel_rfl) Tryz.underlying4 (fun ds hl=>?_) (fun W base args ds p hX hval hA hw=>?_)
 ·rw[Tryz.params5] at hl
  match ds,hl with
  |[_,_,_],_=>rfl
 ·rw[Tryz.params5] at hA hval hw
  obtain⟨v0,vs0,d0,ds0,p0,q0,hargs,rfl,rfl,h0,r0⟩:=trodAll_cons hA
  obtain⟨v1,vs1,d1,ds1,p1,q1,rfl,rfl,rfl,h1,r1⟩:=trodAll_cons r0
  obtain⟨v2,vs2,d2,ds2,p2,q2,rfl,rfl,rfl,h2,r2⟩:=trodAll_cons r1
  obtain⟨rfl,rfl,rfl⟩:=trodAll_nil r2
  obtain rfl:args= #[v0,v1,v2]:=by cases args;simp_all
  obtain⟨x0,f0,e0⟩:=ND kids full (m:=8) (t:=68) (of_decide_eq_true (by kernel_rfl)) (by kernel_rfl) Tryz.underlying68 (hval 0 68 v0 rfl rfl) h0 (fun k hk=>hw k (jS (i:=0) rfl rfl hk))
  obtain⟨z0,l0,rfl,hd0⟩:=aeC f0
  obtain⟨x1,f1,e1⟩:=ND kids full (m:=8) (t:=68) (of_decide_eq_true (by kernel_rfl)) (by kernel_rfl) Tryz.underlying68 (hval 1 68 v1 rfl rfl) h1 (fun k hk=>hw k (jS (i:=1) rfl rfl hk))
  obtain⟨z1,l1,rfl,hd1⟩:=aeC f1
  obtain⟨a2,rfl,rfl,rfl,w2⟩:=open_int Tryz.underlying30 (hval 2 30 v2 rfl rfl) h2
  have b2:=ZQ w2
  obtain⟨s2,rfl⟩:=aiq b2
  refine(ahh (z1:=z0) (z2:=z1) (b:=s2) hd0 hd1).law W rfl (fun j h=>?_) (Ue hX)
  match j,h with
  |0,_=>exact e0
  |1,_=>exact e1
  |2,_=>exact .val _
theorem over:Rows.topIntersectionRow.holds Tryz.pinned (OpenSpec.ofChange Rows.topIntersectionSpec):=
 OpenClaim.holds_of_wide 5 Tryz.f5 rfl rfl rfl rfl rfl rfl rfl ⟨rfl,rfl,rfl,rfl,rfl⟩ rfl rfl rfl rfl rfl topIntersection_nam Tryz.func5 aef aeg aeh
  (fun os started H enc _=>lifted os started H enc)
end LTopIntersection
theorem topIntersection_holds:Rows.TopIntersectionCardSaid:=
 Claim7.holds_tied_plain_at .later [] [.data,.data,.data] true (true, "41dbead0fac631f991a28b589f143705b686a18ad42e4376e787a36b5b1608e0") false
  LTopIntersection.over (fun _ h=>by cases h) aei (fun _ h=>by cases h) topIntersection_row_tie rfl ⟨rfl,rfl⟩ aej rfl
  (fun f fn hf hfn=>by
    obtain rfl:f=5:=Option.some.inj (topIntersection_nam.symm.trans hf) |>.symm
    obtain rfl:fn=Tryz.f5:=(Option.some.inj (Tryz.func5.symm.trans hfn)).symm
    exact⟨aek,fun j t ht=>by
     rw[Tryz.params5] at ht
     have hm:t∈[68,68,30]:=by simpa using Array.mem_of_getElem? ht
     exact(show Tryz.prog.wantsStandIn t=false by simpa using List.all_eq_true.1 ael t hm)⟩)
  aem
#print axioms topIntersection_holds
end Go.Proofs.YtgmpdplpodemaaaGreatDoor
