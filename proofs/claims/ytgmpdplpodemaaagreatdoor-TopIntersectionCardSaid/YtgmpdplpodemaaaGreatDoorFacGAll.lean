/- FacAll FacTopIntersection. No condition. -/
import Derived.Test.YtgmpdplpodemaaaGreatDoorChecked
import Derived.JoinedOf
import Derived.KernelRfl
import Derived.Test.YtgmpdplpodemaaaGreatDoorCards
import Derived.SevenTiedAt
set_option linter.all false
set_option maxRecDepth 100000
namespace Go.Proofs.YtgmpdplpodemaaaGreatDoor
open Go
theorem Xo:laidOutB Tryz.prog=true:=by kernel_rfl
theorem Xp:mapsRowed Tryz.prog=true:=by kernel_rfl
theorem Xq:(Tryz.prog.stops==[])=true:=by kernel_rfl
theorem Xr:(Tryz.prog.stopKnobs==[])=true:=by kernel_rfl
theorem Q8:Tryz.prog.stopsHeard=true:=by kernel_rfl
theorem Q9:Tryz.prog.mayEnter=true:=by kernel_rfl
end Go.Proofs.YtgmpdplpodemaaaGreatDoor
namespace Go.Proofs.YtgmpdplpodemaaaGreatDoor
open Go
theorem aen:Rows.topIntersectionRow.wf (OpenSpec.ofChange Rows.topIntersectionSpec)=true:=by kernel_rfl
theorem aeo:Tryz.f5.params.all (Tryz.prog.readableRec ·)=true:=by kernel_rfl
theorem aep:namedTie Tryz.prog Rows.topIntersectionRow.named Rows.topIntersectionSpec.vars=true:=by kernel_rfl
theorem aeq:(Rows.topIntersectionRow.stops==[])=true:=by kernel_rfl
theorem aer:(Rows.topIntersectionRow.knobs==[])=true:=by kernel_rfl
theorem aes:(Rows.topIntersectionRow.inPlace==Tryz.prog.inPlace 5)=true:=by kernel_rfl
theorem adU:(Rows.topIntersectionRow.unfollowed==Tryz.prog.unfollowed 5)=true:=by kernel_rfl
theorem adV:(Rows.topIntersectionRow.recurses==Tryz.prog.recurses 5)=true:=by kernel_rfl
theorem adW:(Rows.topIntersectionRow.named==Tryz.prog.varsNamed 5)=true:=by kernel_rfl
theorem adX:(Rows.topIntersectionRow.maps==(Tryz.f5.params.toList++Rows.topIntersectionSpec.plain.varTypes Tryz.prog).any (Tryz.prog.mapsRec ·))=true:=by kernel_rfl
theorem adY:(Rows.topIntersectionRow.ifaces==(Tryz.f5.params.toList++Rows.topIntersectionSpec.plain.varTypes Tryz.prog).any (Tryz.prog.ifacesRec ·))=true:=by kernel_rfl
theorem adZ:(Rows.topIntersectionRow.mapsOut==Tryz.prog.mapsAmong Tryz.f5.resultTypes.toList)=true:=by kernel_rfl
theorem ad1:(Rows.topIntersectionRow.loops==(Tryz.f5.params.toList++Rows.topIntersectionSpec.plain.varTypes Tryz.prog).any (Tryz.prog.loopsFrom ·))=true:=by kernel_rfl
theorem ad2:(Rows.topIntersectionRow.wideKeys==(Tryz.f5.params.toList++Rows.topIntersectionSpec.plain.varTypes Tryz.prog++Tryz.f5.resultTypes.toList).any (Tryz.prog.wideKeysFrom ·))=true:=by kernel_rfl
theorem ad3:Rows.topIntersectionSpec.vars.all (Tryz.prog.varReadable ·)=true:=by kernel_rfl
theorem ad4:Tryz.f5.resultTypes.all (fun t=>Tryz.prog.readableRec t&&decide (t<Tryz.prog.types.size))=true:=by kernel_rfl
theorem ad5:(Rows.topIntersectionRow.ifacesOut==Tryz.f5.resultTypes.toList.any (Tryz.prog.ifacesRec ·))=true:=by kernel_rfl
theorem ad6:(Rows.topIntersectionRow.loopsOut==Tryz.f5.resultTypes.toList.any (Tryz.prog.loopsFrom ·))=true:=by kernel_rfl
theorem ad7:(Rows.topIntersectionRow.plainKeys==Tryz.prog.plainKeys)=true:=by kernel_rfl
theorem ad8:Rows.topIntersectionRow.shortTexts.isNone=true:=by kernel_rfl
theorem ad9:(Rows.topIntersectionRow.lifted==Tryz.prog.liftsFinal)=true:=by kernel_rfl
theorem aea:(Tryz.prog.make==some Rows.topIntersectionRow.make)=true:=by kernel_rfl
theorem aeb:(Rows.topIntersectionRow.kinds==(if Rows.topIntersectionRow.domain.isEmpty then [] else Tryz.f5.params.toList.map fun t=>match Tryz.prog.underlying t with|some (.int k)=>some k|_=>none))=true:=by kernel_rfl
theorem aec:(Rows.topIntersectionRow.pinned==Rows.topIntersectionRow.pinnedBy)=true:=by kernel_rfl
theorem aed:(Rows.topIntersectionRow.veiled==(Tryz.f5.params.toList++Rows.topIntersectionSpec.plain.varTypes Tryz.prog++Tryz.f5.resultTypes.toList).any (Tryz.prog.veiledRec ·))=true:=by kernel_rfl
theorem aee:Rows.topIntersectionRow.veiledFits Tryz.prog Tryz.f5.params.toList (Tryz.f5.params.toList++Rows.topIntersectionSpec.plain.varTypes Tryz.prog++Tryz.f5.resultTypes.toList)=true:=by kernel_rfl
theorem aef:joinedFacts Tryz.prog 5 Tryz.f5 Rows.topIntersectionSpec Rows.topIntersectionRow=true:=by
 simp only[joinedFacts,Bool.and_eq_true]
 exact⟨⟨⟨⟨⟨⟨⟨⟨⟨⟨⟨⟨⟨⟨⟨⟨⟨⟨⟨⟨⟨⟨⟨⟨⟨⟨⟨⟨⟨⟨⟨aen,Xo⟩,Xp⟩,aeo⟩,aep⟩,aeq⟩,Xq⟩,aer⟩,Xr⟩,aes⟩,adU⟩,adV⟩,adW⟩,adX⟩,adY⟩,adZ⟩,ad1⟩,ad2⟩,ad3⟩,ad4⟩,ad5⟩,ad6⟩,ad7⟩,ad8⟩,Q8⟩,Q9⟩,ad9⟩,aea⟩,aeb⟩,aec⟩,aed⟩,aee⟩
theorem topIntersection_nam:Tryz.pinned.checked.prog.funcNamed Rows.topIntersectionRow.func=some 5:=by kernel_rfl
theorem aeg:Tryz.f5.isInstance Tryz.pinned.checked.prog Rows.topIntersectionRow.origin Rows.topIntersectionRow.targs:=of_decide_eq_true (by kernel_rfl)
theorem aeh:Tryz.f5.isWrapper Tryz.pinned.checked.prog Rows.topIntersectionRow.wrapper Rows.topIntersectionRow.mainSum:=by unfold Func.isWrapper;first|(rw[if_pos (by decide+kernel)];kernel_rfl)|(rw[if_neg (by decide+kernel)];exact⟨rfl,rfl⟩)
theorem aei:Rows.topIntersectionRow.wfByText (OpenSpec.ofChange Rows.topIntersectionSpec)=true:=by kernel_rfl
theorem aej:Tryz.pinned.checked.prog.mainIs=some (true, "41dbead0fac631f991a28b589f143705b686a18ad42e4376e787a36b5b1608e0".toList):=by kernel_rfl
theorem aek:false=Tryz.pinned.checked.prog.looks []:=by kernel_rfl
theorem ael:([68,68,30].all fun u=> !Tryz.prog.wantsStandIn u)=true:=by kernel_rfl
theorem aem:false=Rows.topIntersectionRow.goesBy Tryz.pinned.checked.prog:=by kernel_rfl
