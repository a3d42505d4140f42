/- radiolinktop.TopPieces returns true, for every list of numbers, in every world whose tables are as the program's text lays them; the list reads afterwards as it read before. -/
import Derived.Test.YtcjpofalahplbaaGreatDoorFnTwo
import Derived.Test.YtcjpofalahplbaaGreatDoorCards
import Derived.Test.YtcjpofalahplbaaGreatDoorTie
section
namespace Go.Proofs.YtcjpofalahplbaaGreatDoor.pieces
open Go.ChangeShapes Go.WideShapes Go.ChangeAt Go.WideMaps Go.WideElems Go.RowKit
theorem said : Rows.TopPiecesSaid :=
  OpenClaim.holds_of_wide 4 Tryz.f4 rfl rfl rfl rfl rfl rfl rfl ⟨rfl, rfl, rfl, rfl, rfl⟩ rfl rfl rfl rfl rfl named Tryz.func4 closed inst wrap (fun os started H enc _ => lifted os started H enc)
theorem wft : Rows.topPiecesRow.wfByText (OpenSpec.ofChange Rows.topPiecesSpec) = true := by kernel_rfl
theorem mains : Tryz.pinned.checked.prog.mainIs = some (true, "15cf733b81aef274f5c98546f95da690e1cff41b0339e17b9f0f0521eb4d76aa".toList) := by kernel_rfl
theorem looked : false = Tryz.pinned.checked.prog.looks [] := by kernel_rfl
theorem stands : ([22].all fun u => !Tryz.prog.wantsStandIn u) = true := by kernel_rfl
theorem goes : false = Rows.topPiecesRow.goesBy Tryz.pinned.checked.prog := by kernel_rfl
theorem apart : ∀ f fn, Tryz.pinned.checked.prog.funcNamed Rows.topPiecesRow.func = some f → Tryz.pinned.checked.prog.funcs[f]? = some fn → false = Tryz.pinned.checked.prog.looks [] ∧ ∀ (j : Nat) t, fn.params[j]? = some t → Tryz.pinned.checked.prog.wantsStandIn t = false := fun f fn hf hfn => by
  obtain rfl : f = 4 := Option.some.inj (named.symm.trans hf) |>.symm
  obtain rfl : fn = Tryz.f4 := (Option.some.inj (Tryz.func4.symm.trans hfn)).symm
  exact ⟨looked, fun j t ht => by
    rw [Tryz.params4] at ht
    have hm : t ∈ [22] := by simpa using Array.mem_of_getElem? ht
    exact (show Tryz.prog.wantsStandIn t = false by simpa using List.all_eq_true.1 stands t hm)⟩
theorem card : Rows.TopPiecesCardSaid :=
  Claim7.holds_tied_plain_at .later [] [.data, .mapped] true (true, "15cf733b81aef274f5c98546f95da690e1cff41b0339e17b9f0f0521eb4d76aa") false
    said (fun _ h => by cases h) wft (fun _ h => by cases h) topPieces_row_tie rfl ⟨rfl, rfl⟩ mains rfl apart goes
end Go.Proofs.YtcjpofalahplbaaGreatDoor.pieces
end
