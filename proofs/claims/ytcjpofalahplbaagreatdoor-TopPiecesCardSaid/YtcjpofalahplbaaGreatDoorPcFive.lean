/- A part of the proof that radiolinktop.TopPieces returns true for every list of numbers. -/
import Derived.Test.YtcjpofalahplbaaGreatDoorSeatOne
section
set_option linter.unusedVariables false
set_option maxRecDepth 1000000
namespace Go.Eng
open Go Go.RowKit Go.Proofs
def a60a : List AV := [(.agg [i64 1, i64 1, (.ro false [bo false, i64 0, i64 0, i64 0, i64 0, i64 0, i64 0, i64 0, nilS, bo false, i64 0, i64 0, i64 0, i64 0, i64 0, i64 0, i64 0, nilS, bo false, i64 0, i64 0, i64 0, i64 0, i64 0, i64 0, i64 0, nilS, bo false, i64 0, i64 0, i64 0, i64 0, i64 0, i64 0, i64 0, nilS, bo false, i64 0, i64 0, i64 0, i64 0, i64 0, i64 0, i64 0, nilS, bo false, i64 0, i64 0, i64 0, i64 0, i64 0, i64 0, i64 0, nilS, bo false, i64 0, i64 0, i64 0, i64 0, i64 0, i64 0, i64 0, nilS, bo false, i64 0, i64 0, i64 0, i64 0, i64 0, i64 0, i64 0, nilS, bo false, i64 0, i64 0, i64 0, i64 0, i64 0, i64 0, i64 0, nilS, bo false, i64 0, i64 0, i64 0, i64 0, i64 0, i64 0, i64 0, nilS, bo false, i64 0, i64 0, i64 0, i64 0, i64 0, i64 0, i64 0, nilS, bo false, i64 0, i64 0, i64 0, i64 0, i64 0, i64 0, i64 0, nilS, bo false, i64 0, i64 0, i64 0, i64 0, i64 0, i64 0, i64 0, nilS, bo false, i64 0, i64 0, i64 0, i64 0, i64 0, i64 0, i64 0, nilS, bo false, i64 0, i64 0, i64 0, i64 0, i64 0, i64 0, i64 0, nilS, bo false, i64 0, i64 0, i64 0, i64 0, i64 0, i64 0, i64 0, nilS] 16 (some 16) 9)])]
def r60a : AV := bo true
theorem c60a (p : Poly) : chk 100000 (envT p tbl0) 60 a60a r60a = true := by kernel_rfl
def tbl60 : List Ent := [⟨60, a60a, r60a⟩] ++ tbl0
end Go.Eng
end
