/- A part of the proof that radiolinktop.TopPieces returns true for every list of numbers. -/
import Derived.Test.YtcjpofalahplbaaGreatDoorSeatOne
section
set_option linter.unusedVariables false
set_option maxRecDepth 1000000
namespace Go.Eng
open Go Go.RowKit Go.Proofs
def a309a : List AV := [(by8 false [2,9,16,23,30,37,44,51,58,65,72,79,86,93,100,107] 16 none), (by8 false [0,0,0,1,1,0,0,0,0,0,0,0,128,0,209,1,0,0,0,0,0,0,0,0,0,0,0,0,0,64,0,0,5,111,1,2] 36 none)]
def r309a : AV := (.tup [(by8 true [191,124,86,129,50,249,80,37] 8 (some 8)), i64 0])
theorem c309a (p : Poly) : chk 100000 (envT p tbl0) 309 a309a r309a = true := by kernel_rfl
def tbl309 : List Ent := [⟨309, a309a, r309a⟩] ++ tbl0
end Go.Eng
end
