/- A part of the proof that radiolinktop.TopPieces returns true for every list of numbers. -/
import Derived.Test.YtcjpofalahplbaaGreatDoorPcOne
import Derived.Test.YtcjpofalahplbaaGreatDoorPcTwo
import Derived.Test.YtcjpofalahplbaaGreatDoorPcThree
import Derived.Test.YtcjpofalahplbaaGreatDoorPcFour
import Derived.Test.YtcjpofalahplbaaGreatDoorPcFive
section
namespace Go.Eng
open Go Go.RowKit Go.Proofs
theorem okT {p : Poly} {l : List Ent} (hl : EntsOk p l) {g : Nat} {ts : List AV} {t : AV} (h : chk 100000 (envT p l) g ts t = true) : TreeOk Tryz.prog (GZ p) g ts t :=
  chk_ok (E := envT p l) (envT_P p l) (by unfold envT; exact Eq.refl _) (envT_ok hl) h
theorem okU {p : Poly} {l : List Ent} (hl : EntsOk p l) {g : Nat} {ts : List AV} {t : AV} (h : chk 100000 (envU p l 100000) g ts t = true) : TreeOk Tryz.prog (GZ p) g ts t :=
  chk_ok (E := envU p l 100000) (by unfold envU; exact Eq.refl _) (by unfold envU; exact Eq.refl _) (envU_ok hl 100000) h
def tbl1 : List Ent := ⟨253, a253a, r253a⟩ :: ⟨248, a248a, r248a⟩ :: ⟨177, a177a, r177a⟩ :: ⟨177, a177b, r177b⟩ :: ⟨309, a309a, r309a⟩ :: ⟨60, a60a, r60a⟩ :: tbl0
theorem tbl1_ok (p : Poly) : EntsOk p tbl1 :=
  EntsOk.cons (EntsOk.cons (EntsOk.cons (EntsOk.cons (EntsOk.cons (EntsOk.cons (tbl0_ok p) (okT (tbl0_ok p) (c60a p))) (okT (tbl0_ok p) (c309a p))) (okT (tbl0_ok p) (c177b p))) (okT (tbl0_ok p) (c177a p))) (okT (tbl0_ok p) (c248a p))) (okT (tbl0_ok p) (c253a p))
end Go.Eng
end
