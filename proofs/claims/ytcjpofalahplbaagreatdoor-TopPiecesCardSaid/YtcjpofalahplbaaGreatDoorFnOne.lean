/- A part of the proof that radiolinktop.TopPieces returns true for every list of numbers. -/
import Derived.Test.YtcjpofalahplbaaGreatDoorRows
import Derived.ProofKit
import Derived.LaidMore
import Derived.OpenShut
import Derived.Stop.Joined
import Derived.Below
import Derived.Carry
import Derived.ChangeOld
import Derived.SevenTiedAt
section
set_option maxRecDepth 100000
namespace Go.Proofs.YtcjpofalahplbaaGreatDoor.pieces
open Go.ChangeShapes Go.WideShapes Go.ChangeAt Go.WideMaps Go.WideElems Go.RowKit
theorem own : ownKnob Tryz.prog.godebug = none := by kernel_rfl
theorem laidOut : laidOutB Tryz.prog = true := by kernel_rfl
theorem k1 : (Rows.topPiecesRow.wf (OpenSpec.ofChange Rows.topPiecesSpec)) = true := by kernel_rfl
theorem k2 : (laidOutB Tryz.pinned.checked.prog) = true := by kernel_rfl
theorem k3 : (mapsRowed Tryz.pinned.checked.prog) = true := by kernel_rfl
theorem k4 : (Tryz.f4.params.all (Tryz.pinned.checked.prog.readableRec ·)) = true := by kernel_rfl
theorem k5 : (namedTie Tryz.pinned.checked.prog Rows.topPiecesRow.named Rows.topPiecesSpec.vars) = true := by kernel_rfl
theorem k6 : ((Rows.topPiecesRow.stops == [])) = true := by kernel_rfl
theorem k7 : ((Tryz.pinned.checked.prog.stops == [])) = true := by kernel_rfl
theorem k8 : ((Rows.topPiecesRow.knobs == [])) = true := by kernel_rfl
theorem k9 : ((Tryz.pinned.checked.prog.stopKnobs == [])) = true := by kernel_rfl
theorem k10 : ((Rows.topPiecesRow.inPlace == Tryz.pinned.checked.prog.inPlace 4)) = true := by kernel_rfl
theorem k11 : ((Rows.topPiecesRow.unfollowed == Tryz.pinned.checked.prog.unfollowed 4)) = true := by kernel_rfl
theorem k12 : ((Rows.topPiecesRow.recurses == Tryz.pinned.checked.prog.recurses 4)) = true := by kernel_rfl
theorem k13 : ((Rows.topPiecesRow.named == Tryz.pinned.checked.prog.varsNamed 4)) = true := by kernel_rfl
theorem k14 : ((Rows.topPiecesRow.maps == (Tryz.f4.params.toList ++ Rows.topPiecesSpec.plain.varTypes Tryz.pinned.checked.prog).any (Tryz.pinned.checked.prog.mapsRec ·))) = true := by kernel_rfl
theorem k15 : ((Rows.topPiecesRow.ifaces == (Tryz.f4.params.toList ++ Rows.topPiecesSpec.plain.varTypes Tryz.pinned.checked.prog).any (Tryz.pinned.checked.prog.ifacesRec ·))) = true := by kernel_rfl
theorem k16 : ((Rows.topPiecesRow.mapsOut == Tryz.pinned.checked.prog.mapsAmong Tryz.f4.resultTypes.toList)) = true := by kernel_rfl
theorem k17 : ((Rows.topPiecesRow.loops == (Tryz.f4.params.toList ++ Rows.topPiecesSpec.plain.varTypes Tryz.pinned.checked.prog).any (Tryz.pinned.checked.prog.loopsFrom ·))) = true := by kernel_rfl
theorem k18 : ((Rows.topPiecesRow.wideKeys == (Tryz.f4.params.toList ++ Rows.topPiecesSpec.plain.varTypes Tryz.pinned.checked.prog ++ Tryz.f4.resultTypes.toList).any (Tryz.pinned.checked.prog.wideKeysFrom ·))) = true := by kernel_rfl
theorem k19 : (Rows.topPiecesSpec.vars.all (Tryz.pinned.checked.prog.varReadable ·)) = true := by kernel_rfl
theorem k20 : (Tryz.f4.resultTypes.all (fun t => Tryz.pinned.checked.prog.readableRec t && decide (t < Tryz.pinned.checked.prog.types.size))) = true := by kernel_rfl
theorem k21 : ((Rows.topPiecesRow.ifacesOut == Tryz.f4.resultTypes.toList.any (Tryz.pinned.checked.prog.ifacesRec ·))) = true := by kernel_rfl
theorem k22 : ((Rows.topPiecesRow.loopsOut == Tryz.f4.resultTypes.toList.any (Tryz.pinned.checked.prog.loopsFrom ·))) = true := by kernel_rfl
theorem k23 : ((Rows.topPiecesRow.plainKeys == Tryz.pinned.checked.prog.plainKeys)) = true := by kernel_rfl
theorem k24 : (Rows.topPiecesRow.shortTexts.isNone) = true := by kernel_rfl
theorem k25 : (Tryz.pinned.checked.prog.stopsHeard) = true := by kernel_rfl
theorem k26 : (Tryz.pinned.checked.prog.mayEnter) = true := by kernel_rfl
theorem k27 : ((Rows.topPiecesRow.lifted == Tryz.pinned.checked.prog.liftsFinal)) = true := by kernel_rfl
theorem k28 : ((Tryz.pinned.checked.prog.make == some Rows.topPiecesRow.make)) = true := by kernel_rfl
theorem k29 : ((Rows.topPiecesRow.kinds == (if Rows.topPiecesRow.domain.isEmpty then [] else Tryz.f4.params.toList.map fun t => match Tryz.pinned.checked.prog.underlying t with | some (.int k) => some k | _ => none))) = true := by kernel_rfl
theorem k30 : ((Rows.topPiecesRow.pinned == Rows.topPiecesRow.pinnedBy)) = true := by kernel_rfl
theorem k31 : ((Rows.topPiecesRow.veiled == (Tryz.f4.params.toList ++ Rows.topPiecesSpec.plain.varTypes Tryz.pinned.checked.prog ++ Tryz.f4.resultTypes.toList).any (Tryz.pinned.checked.prog.veiledRec ·))) = true := by kernel_rfl
theorem k32 : (Rows.topPiecesRow.veiledFits Tryz.pinned.checked.prog Tryz.f4.params.toList (Tryz.f4.params.toList ++ Rows.topPiecesSpec.plain.varTypes Tryz.pinned.checked.prog ++ Tryz.f4.resultTypes.toList)) = true := by kernel_rfl
theorem closed : joinedFacts Tryz.pinned.checked.prog 4 Tryz.f4 Rows.topPiecesSpec Rows.topPiecesRow = true := by
  simp only [joinedFacts, Bool.and_eq_true]
  exact ⟨⟨⟨⟨⟨⟨⟨⟨⟨⟨⟨⟨⟨⟨⟨⟨⟨⟨⟨⟨⟨⟨⟨⟨⟨⟨⟨⟨⟨⟨⟨k1, k2⟩, k3⟩, k4⟩, k5⟩, k6⟩, k7⟩, k8⟩, k9⟩, k10⟩, k11⟩, k12⟩, k13⟩, k14⟩, k15⟩, k16⟩, k17⟩, k18⟩, k19⟩, k20⟩, k21⟩, k22⟩, k23⟩, k24⟩, k25⟩, k26⟩, k27⟩, k28⟩, k29⟩, k30⟩, k31⟩, k32⟩
theorem inst : Tryz.f4.isInstance Tryz.pinned.checked.prog Rows.topPiecesRow.origin Rows.topPiecesRow.targs := of_decide_eq_true (by kernel_rfl)
theorem wrap : Tryz.f4.isWrapper Tryz.pinned.checked.prog Rows.topPiecesRow.wrapper Rows.topPiecesRow.mainSum := by
  unfold Func.isWrapper
  first | (rw [if_pos (by decide +kernel)]; kernel_rfl) | (rw [if_neg (by decide +kernel)]; exact ⟨rfl, rfl⟩)
theorem named : Tryz.pinned.checked.prog.funcNamed Rows.topPiecesRow.func = some 4 := by kernel_rfl
end Go.Proofs.YtcjpofalahplbaaGreatDoor.pieces
end
