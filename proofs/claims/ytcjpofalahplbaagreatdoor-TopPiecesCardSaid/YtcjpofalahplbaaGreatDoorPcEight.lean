/- A part of the proof that radiolinktop.TopPieces returns true for every list of numbers. -/
import Derived.Test.YtcjpofalahplbaaGreatDoorLvOne
section
set_option linter.unusedVariables false
set_option maxRecDepth 1000000
namespace Go.Eng
open Go Go.RowKit Go.Proofs
def a26a : List AV := [(.agg [i64 6, (by8 false [1,8,15,22,29,36,43,50,57,64,71,78,85,92,99,106,114,121,128,135,142,149,156,163,170,177,184,191,198,205,212,219] 32 none), (by8 false [2,9,16,23,30,37,44,51,58,65,72,79,86,93,100,107] 16 none), i64 1, i64 1, i64 0, i64 0, i64 0, i64 0, i64 0, i64 0, nilS]), (by8 false [128,0,24,8,55,157,92,174,109,254,255,85,84,201,128,104,45,21,149,226,138,237,134,149,254,127,238,99] 28 none)]
def r26a : AV := (.tup [(.agg [i64 6, (by8 true [1,8,15,22,29,36,43,50,57,64,71,78,85,92,99,106,114,121,128,135,142,149,156,163,170,177,184,191,198,205,212,219] 32 none), (by8 true [2,9,16,23,30,37,44,51,58,65,72,79,86,93,100,107] 16 none), i64 1, i64 1, i64 0, i64 1, i64 1, i64 0, i64 0, i64 0, nilS]), (.ro true [(by8 true [209,1,0,0,0,0,0,0,0,0,0,0,0,0,0,64,0,0,5,111,1,2] 22 (some 22))] 1 none 1), i64 0])
theorem c26a (p : Poly) : chk 100000 (envU p tbl1 100000) 26 a26a r26a = true := by kernel_rfl
def tbl26 : List Ent := [⟨26, a26a, r26a⟩] ++ tbl1
end Go.Eng
end
