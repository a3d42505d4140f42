/- A part of the proof that radiolinktop.TopPieces returns true for every list of numbers. -/
import Derived.Test.YtcjpofalahplbaaGreatDoorSeatOne
section
set_option linter.unusedVariables false
set_option maxRecDepth 1000000
namespace Go.Eng
open Go Go.RowKit Go.Proofs
def a253a : List AV := [i64 8, i64 255, (by8 false [69,0,0,0,0,5,0,0,64,17,0,0,0,0,0,0,0,0,0,0,0,0,0,0,0,0,0,0] 28 (some 40))]
def r253a : AV := (.tup [i64 111, i64 0])
theorem c253a (p : Poly) : chk 100000 (envT p tbl0) 253 a253a r253a = true := by kernel_rfl
def tbl253 : List Ent := [⟨253, a253a, r253a⟩] ++ tbl0
end Go.Eng
end
