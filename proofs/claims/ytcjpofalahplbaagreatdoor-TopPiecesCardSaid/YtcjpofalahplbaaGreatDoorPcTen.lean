/- A part of the proof that radiolinktop.TopPieces returns true for every list of numbers. -/
import Derived.Test.YtcjpofalahplbaaGreatDoorLvOne
section
set_option linter.unusedVariables false
set_option maxRecDepth 1000000
namespace Go.Eng
open Go Go.RowKit Go.Proofs
def a22a : List AV := [(.agg (ints [6,8,4,3,0,32])), (.ro false [(by8 false [128,0,24,8,55,157,92,174,109,254,255,85,84,201,128,104,45,21,149,226,138,237,134,149,254,127,238,99] 28 none)] 1 (some 1) 1), nilS, i64 3]
def r22a : AV := (.tup [(.ro true [(by8 true [128,0,24,8,55,157,92,174,109,254,255,85,84,201,128,104,45,21,149,226,138,237,134,149,254,127,238,99] 28 none)] 1 none 1), bo true, i64 0])
theorem c22a (p : Poly) : chk 100000 (envU p tbl1 100000) 22 a22a r22a = true := by kernel_rfl
def tbl22 : List Ent := [⟨22, a22a, r22a⟩] ++ tbl1
end Go.Eng
end
