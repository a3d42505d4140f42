/- A part of the proof that radiolinktop.TopPieces returns true for every list of numbers. -/
import Derived.Test.YtcjpofalahplbaaGreatDoorLvOne
import Derived.Test.YtcjpofalahplbaaGreatDoorPcSix
import Derived.Test.YtcjpofalahplbaaGreatDoorPcSeven
import Derived.Test.YtcjpofalahplbaaGreatDoorPcEight
import Derived.Test.YtcjpofalahplbaaGreatDoorPcNine
import Derived.Test.YtcjpofalahplbaaGreatDoorPcTen
section
namespace Go.Eng
open Go Go.RowKit Go.Proofs
def tbl2 : List Ent := ⟨19, a19a, r19a⟩ :: ⟨20, a20a, r20a⟩ :: ⟨26, a26a, r26a⟩ :: ⟨27, a27a, r27a⟩ :: ⟨22, a22a, r22a⟩ :: tbl1
theorem tbl2_ok (p : Poly) : EntsOk p tbl2 :=
  EntsOk.cons (EntsOk.cons (EntsOk.cons (EntsOk.cons (EntsOk.cons (tbl1_ok p) (okU (tbl1_ok p) (c22a p))) (okU (tbl1_ok p) (c27a p))) (okU (tbl1_ok p) (c26a p))) (okU (tbl1_ok p) (c20a p))) (okU (tbl1_ok p) (c19a p))
set_option maxRecDepth 1000000
theorem c11 (p : Poly) : chk 100000 (envT p tbl2) 11 [] (bo true) = true := by kernel_rfl
theorem awake_tree (p : Poly) : TreeOk Tryz.prog (GZ p) 11 [] (bo true) := okT (tbl2_ok p) (c11 p)
theorem awake_true (p : Poly) (w : World) (h : GlobW (GZ p) w) : Calls Tryz.prog 11 #[] w fun e w' => e = .returned (.bool true) ∧ Fresh w w' := by
  refine ((awake_tree p).2 w [] h VRs.nil).mono ?_
  rintro e w' ⟨y, rfl, hf, hy⟩
  have := (hy noRho 0 (fun c _ => ⟨noRho_un c, Nat.zero_le c⟩)).sc_inv
  exact ⟨by rw [this], hf⟩
end Go.Eng
end
