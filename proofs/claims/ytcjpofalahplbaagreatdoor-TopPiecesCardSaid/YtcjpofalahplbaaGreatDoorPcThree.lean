/- A part of the proof that radiolinktop.TopPieces returns true for every list of numbers. -/
import Derived.Test.YtcjpofalahplbaaGreatDoorSeatOne
section
set_option linter.unusedVariables false
set_option maxRecDepth 1000000
namespace Go.Eng
open Go Go.RowKit Go.Proofs
def a177a : List AV := [(.ro false [i64 8] 1 none 1), (.ro false [i64 210] 1 none 1)]
def r177a : AV := (.tup [(by8 true [210] 1 (some 1)), i64 0])
def a177b : List AV := [(.ro false [i64 8, i64 8, i64 32, i64 32, i64 16, i64 16, i64 8, i64 8, i64 1, i64 1, i64 1, i64 1, i64 4, i64 16, i64 8] 15 none 1), (.ro false [i64 209, i64 1, i64 0, i64 0, i64 0, i64 0, i64 0, i64 64, i64 0, i64 0, i64 0, i64 0, i64 0, i64 5, i64 111] 15 none 1)]
def r177b : AV := (.tup [(by8 true [209,1,0,0,0,0,0,0,0,0,0,0,0,0,0,64,0,0,5,111] 20 (some 20)), i64 0])
theorem c177a (p : Poly) : chk 100000 (envT p tbl0) 177 a177a r177a = true := by kernel_rfl
theorem c177b (p : Poly) : chk 100000 (envT p tbl0) 177 a177b r177b = true := by kernel_rfl
def tbl177 : List Ent := [⟨177, a177a, r177a⟩, ⟨177, a177b, r177b⟩] ++ tbl0
end Go.Eng
end
