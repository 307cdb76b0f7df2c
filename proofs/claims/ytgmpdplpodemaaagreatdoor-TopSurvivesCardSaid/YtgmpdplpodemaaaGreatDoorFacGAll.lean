/- FacAll FacTopSurvives. No condition. -/
import Derived.Test.YtgmpdplpodemaaaGreatDoorChecked
import Derived.JoinedOf
import Derived.KernelRfl
import Derived.Test.YtgmpdplpodemaaaGreatDoorCards
import Derived.SevenTiedAt
set_option linter.all false
set_option maxRecDepth 100000
namespace Go.Proofs.YtgmpdplpodemaaaGreatDoor
open Go
theorem Xo:laidOutB Tryz.prog=true:=by kernel_rfl
theorem Xp:mapsRowed Tryz.prog=true:=by kernel_rfl
theorem Xq:(Tryz.prog.stops==[])=true:=by kernel_rfl
theorem Xr:(Tryz.prog.stopKnobs==[])=true:=by kernel_rfl
theorem Q8:Tryz.prog.stopsHeard=true:=by kernel_rfl
theorem Q9:Tryz.prog.mayEnter=true:=by kernel_rfl
end Go.Proofs.YtgmpdplpodemaaaGreatDoor
namespace Go.Proofs.YtgmpdplpodemaaaGreatDoor
open Go
theorem wO:Rows.topSurvivesRow.wf (OpenSpec.ofChange Rows.topSurvivesSpec)=true:=by kernel_rfl
theorem wP:Tryz.f3.params.all (Tryz.prog.readableRec ·)=true:=by kernel_rfl
theorem wQ:namedTie Tryz.prog Rows.topSurvivesRow.named Rows.topSurvivesSpec.vars=true:=by kernel_rfl
theorem wR:(Rows.topSurvivesRow.stops==[])=true:=by kernel_rfl
theorem wS:(Rows.topSurvivesRow.knobs==[])=true:=by kernel_rfl
theorem wT:(Rows.topSurvivesRow.inPlace==Tryz.prog.inPlace 3)=true:=by kernel_rfl
theorem uU:(Rows.topSurvivesRow.unfollowed==Tryz.prog.unfollowed 3)=true:=by kernel_rfl
theorem uV:(Rows.topSurvivesRow.recurses==Tryz.prog.recurses 3)=true:=by kernel_rfl
theorem uW:(Rows.topSurvivesRow.named==Tryz.prog.varsNamed 3)=true:=by kernel_rfl
theorem uX:(Rows.topSurvivesRow.maps==(Tryz.f3.params.toList++Rows.topSurvivesSpec.plain.varTypes Tryz.prog).any (Tryz.prog.mapsRec ·))=true:=by kernel_rfl
theorem uY:(Rows.topSurvivesRow.ifaces==(Tryz.f3.params.toList++Rows.topSurvivesSpec.plain.varTypes Tryz.prog).any (Tryz.prog.ifacesRec ·))=true:=by kernel_rfl
theorem uZ:(Rows.topSurvivesRow.mapsOut==Tryz.prog.mapsAmong Tryz.f3.resultTypes.toList)=true:=by kernel_rfl
theorem u6:(Rows.topSurvivesRow.loops==(Tryz.f3.params.toList++Rows.topSurvivesSpec.plain.varTypes Tryz.prog).any (Tryz.prog.loopsFrom ·))=true:=by kernel_rfl
theorem u7:(Rows.topSurvivesRow.wideKeys==(Tryz.f3.params.toList++Rows.topSurvivesSpec.plain.varTypes Tryz.prog++Tryz.f3.resultTypes.toList).any (Tryz.prog.wideKeysFrom ·))=true:=by kernel_rfl
theorem ve:Rows.topSurvivesSpec.vars.all (Tryz.prog.varReadable ·)=true:=by kernel_rfl
theorem vg:Tryz.f3.resultTypes.all (fun t=>Tryz.prog.readableRec t&&decide (t<Tryz.prog.types.size))=true:=by kernel_rfl
theorem vk:(Rows.topSurvivesRow.ifacesOut==Tryz.f3.resultTypes.toList.any (Tryz.prog.ifacesRec ·))=true:=by kernel_rfl
theorem vo:(Rows.topSurvivesRow.loopsOut==Tryz.f3.resultTypes.toList.any (Tryz.prog.loopsFrom ·))=true:=by kernel_rfl
theorem vv:(Rows.topSurvivesRow.plainKeys==Tryz.prog.plainKeys)=true:=by kernel_rfl
theorem vw:Rows.topSurvivesRow.shortTexts.isNone=true:=by kernel_rfl
theorem vz:(Rows.topSurvivesRow.lifted==Tryz.prog.liftsFinal)=true:=by kernel_rfl
theorem vC:(Tryz.prog.make==some Rows.topSurvivesRow.make)=true:=by kernel_rfl
theorem vE:(Rows.topSurvivesRow.kinds==(if Rows.topSurvivesRow.domain.isEmpty then [] else Tryz.f3.params.toList.map fun t=>match Tryz.prog.underlying t with|some (.int k)=>some k|_=>none))=true:=by kernel_rfl
theorem vF:(Rows.topSurvivesRow.pinned==Rows.topSurvivesRow.pinnedBy)=true:=by kernel_rfl
theorem vG:(Rows.topSurvivesRow.veiled==(Tryz.f3.params.toList++Rows.topSurvivesSpec.plain.varTypes Tryz.prog++Tryz.f3.resultTypes.toList).any (Tryz.prog.veiledRec ·))=true:=by kernel_rfl
theorem vH:Rows.topSurvivesRow.veiledFits Tryz.prog Tryz.f3.params.toList (Tryz.f3.params.toList++Rows.topSurvivesSpec.plain.varTypes Tryz.prog++Tryz.f3.resultTypes.toList)=true:=by kernel_rfl
theorem vJ:joinedFacts Tryz.prog 3 Tryz.f3 Rows.topSurvivesSpec Rows.topSurvivesRow=true:=by
 simp only[joinedFacts,Bool.and_eq_true]
 exact⟨⟨⟨⟨⟨⟨⟨⟨⟨⟨⟨⟨⟨⟨⟨⟨⟨⟨⟨⟨⟨⟨⟨⟨⟨⟨⟨⟨⟨⟨⟨wO,Xo⟩,Xp⟩,wP⟩,wQ⟩,wR⟩,Xq⟩,wS⟩,Xr⟩,wT⟩,uU⟩,uV⟩,uW⟩,uX⟩,uY⟩,uZ⟩,u6⟩,u7⟩,ve⟩,vg⟩,vk⟩,vo⟩,vv⟩,vw⟩,Q8⟩,Q9⟩,vz⟩,vC⟩,vE⟩,vF⟩,vG⟩,vH⟩
theorem topSurvives_nam:Tryz.pinned.checked.prog.funcNamed Rows.topSurvivesRow.func=some 3:=by kernel_rfl
theorem vK:Tryz.f3.isInstance Tryz.pinned.checked.prog Rows.topSurvivesRow.origin Rows.topSurvivesRow.targs:=of_decide_eq_true (by kernel_rfl)
theorem vL:Tryz.f3.isWrapper Tryz.pinned.checked.prog Rows.topSurvivesRow.wrapper Rows.topSurvivesRow.mainSum:=by unfold Func.isWrapper;first|(rw[if_pos (by decide+kernel)];kernel_rfl)|(rw[if_neg (by decide+kernel)];exact⟨rfl,rfl⟩)
theorem vM:Rows.topSurvivesRow.wfByText (OpenSpec.ofChange Rows.topSurvivesSpec)=true:=by kernel_rfl
theorem vO:Tryz.pinned.checked.prog.mainIs=some (true, "41dbead0fac631f991a28b589f143705b686a18ad42e4376e787a36b5b1608e0".toList):=by kernel_rfl
theorem vP:false=Tryz.pinned.checked.prog.looks []:=by kernel_rfl
theorem vQ:([24].all fun u=> !Tryz.prog.wantsStandIn u)=true:=by kernel_rfl
theorem vR:false=Rows.topSurvivesRow.goesBy Tryz.pinned.checked.prog:=by kernel_rfl
