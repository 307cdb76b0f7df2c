/- FacFailureErrors. No condition. -/
import Derived.Test.YtcbginhpibfgaaaGreatDoorXFailureErrors2
import Derived.Test.YtcbginhpibfgaaaGreatDoorFacAll
import Derived.Test.YtcbginhpibfgaaaGreatDoorCards
import Derived.SevenTiedAt
set_option linter.all false
set_option maxRecDepth 100000
namespace Go.Proofs.YtcbginhpibfgaaaGreatDoor
open Go
theorem yS:Rows.failureErrorsRow.wf (OpenSpec.ofChange Rows.failureErrorsSpec)=true:=by kernel_rfl
theorem yT:Tryz.f4.params.all (Tryz.prog.readableRec ·)=true:=by kernel_rfl
theorem yU:namedTie Tryz.prog Rows.failureErrorsRow.named Rows.failureErrorsSpec.vars=true:=by kernel_rfl
theorem yV:(Rows.failureErrorsRow.stops==[])=true:=by kernel_rfl
theorem yX:(Rows.failureErrorsRow.knobs==[])=true:=by kernel_rfl
theorem yY:(Rows.failureErrorsRow.inPlace==Tryz.prog.inPlace 4)=true:=by kernel_rfl
theorem xk:(Rows.failureErrorsRow.unfollowed==Tryz.prog.unfollowed 4)=true:=by kernel_rfl
theorem xm:(Rows.failureErrorsRow.recurses==Tryz.prog.recurses 4)=true:=by kernel_rfl
theorem xn:(Rows.failureErrorsRow.named==Tryz.prog.varsNamed 4)=true:=by kernel_rfl
theorem xq:(Rows.failureErrorsRow.maps==(Tryz.f4.params.toList++Rows.failureErrorsSpec.plain.varTypes Tryz.prog).any (Tryz.prog.mapsRec ·))=true:=by kernel_rfl
theorem xu:(Rows.failureErrorsRow.ifaces==(Tryz.f4.params.toList++Rows.failureErrorsSpec.plain.varTypes Tryz.prog).any (Tryz.prog.ifacesRec ·))=true:=by kernel_rfl
theorem xw:(Rows.failureErrorsRow.mapsOut==Tryz.prog.mapsAmong Tryz.f4.resultTypes.toList)=true:=by kernel_rfl
theorem xy:(Rows.failureErrorsRow.loops==(Tryz.f4.params.toList++Rows.failureErrorsSpec.plain.varTypes Tryz.prog).any (Tryz.prog.loopsFrom ·))=true:=by kernel_rfl
theorem xz:(Rows.failureErrorsRow.wideKeys==(Tryz.f4.params.toList++Rows.failureErrorsSpec.plain.varTypes Tryz.prog++Tryz.f4.resultTypes.toList).any (Tryz.prog.wideKeysFrom ·))=true:=by kernel_rfl
theorem xA:Rows.failureErrorsSpec.vars.all (Tryz.prog.varReadable ·)=true:=by kernel_rfl
theorem xB:Tryz.f4.resultTypes.all (fun t=>Tryz.prog.readableRec t&&decide (t<Tryz.prog.types.size))=true:=by kernel_rfl
theorem xC:(Rows.failureErrorsRow.ifacesOut==Tryz.f4.resultTypes.toList.any (Tryz.prog.ifacesRec ·))=true:=by kernel_rfl
theorem xD:(Rows.failureErrorsRow.loopsOut==Tryz.f4.resultTypes.toList.any (Tryz.prog.loopsFrom ·))=true:=by kernel_rfl
theorem xE:(Rows.failureErrorsRow.plainKeys==Tryz.prog.plainKeys)=true:=by kernel_rfl
theorem xG:Rows.failureErrorsRow.shortTexts.isNone=true:=by kernel_rfl
theorem xH:(Rows.failureErrorsRow.lifted==Tryz.prog.liftsFinal)=true:=by kernel_rfl
theorem xI:(Tryz.prog.make==some Rows.failureErrorsRow.make)=true:=by kernel_rfl
theorem xJ:(Rows.failureErrorsRow.kinds==(if Rows.failureErrorsRow.domain.isEmpty then [] else Tryz.f4.params.toList.map fun t=>match Tryz.prog.underlying t with|some (.int k)=>some k|_=>none))=true:=by kernel_rfl
theorem xK:(Rows.failureErrorsRow.pinned==Rows.failureErrorsRow.pinnedBy)=true:=by kernel_rfl
theorem xL:(Rows.failureErrorsRow.veiled==(Tryz.f4.params.toList++Rows.failureErrorsSpec.plain.varTypes Tryz.prog++Tryz.f4.resultTypes.toList).any (Tryz.prog.veiledRec ·))=true:=by kernel_rfl
theorem xM:Rows.failureErrorsRow.veiledFits Tryz.prog Tryz.f4.params.toList (Tryz.f4.params.toList++Rows.failureErrorsSpec.plain.varTypes Tryz.prog++Tryz.f4.resultTypes.toList)=true:=by kernel_rfl
theorem xN:joinedFacts Tryz.prog 4 Tryz.f4 Rows.failureErrorsSpec Rows.failureErrorsRow=true:=by
 simp only[joinedFacts,Bool.and_eq_true]
 exact⟨⟨⟨⟨⟨⟨⟨⟨⟨⟨⟨⟨⟨⟨⟨⟨⟨⟨⟨⟨⟨⟨⟨⟨⟨⟨⟨⟨⟨⟨⟨yS,nI⟩,nJ⟩,yT⟩,yU⟩,yV⟩,nK⟩,yX⟩,nL⟩,yY⟩,xk⟩,xm⟩,xn⟩,xq⟩,xu⟩,xw⟩,xy⟩,xz⟩,xA⟩,xB⟩,xC⟩,xD⟩,xE⟩,xG⟩,kN⟩,kQ⟩,xH⟩,xI⟩,xJ⟩,xK⟩,xL⟩,xM⟩
theorem failureErrors_nam:Tryz.pinned.checked.prog.funcNamed Rows.failureErrorsRow.func=some 4:=by kernel_rfl
theorem xO:Tryz.f4.isInstance Tryz.pinned.checked.prog Rows.failureErrorsRow.origin Rows.failureErrorsRow.targs:=of_decide_eq_true (by kernel_rfl)
theorem xP:Tryz.f4.isWrapper Tryz.pinned.checked.prog Rows.failureErrorsRow.wrapper Rows.failureErrorsRow.mainSum:=by unfold Func.isWrapper;first|(rw[if_pos (by decide+kernel)];kernel_rfl)|(rw[if_neg (by decide+kernel)];exact⟨rfl,rfl⟩)
theorem xQ:Rows.failureErrorsRow.wfByText (OpenSpec.ofChange Rows.failureErrorsSpec)=true:=by kernel_rfl
theorem xR:Tryz.pinned.checked.prog.mainIs=some (true, "6c6ed28039965d1e05ce70114d4f84b00907715979fcf266077e3121104a4804".toList):=by kernel_rfl
theorem xS:false=Tryz.pinned.checked.prog.looks []:=by kernel_rfl
theorem xU:([29,31,3].all fun u=> !Tryz.prog.wantsStandIn u)=true:=by kernel_rfl
theorem xV:false=Rows.failureErrorsRow.goesBy Tryz.pinned.checked.prog:=by kernel_rfl
