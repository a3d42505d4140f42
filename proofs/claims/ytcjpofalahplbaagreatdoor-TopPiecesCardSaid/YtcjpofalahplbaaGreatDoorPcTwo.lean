/- A part of the proof that radiolinktop.TopPieces returns true for every list of numbers. -/
import Derived.Test.YtcjpofalahplbaaGreatDoorSeatOne
section
set_option linter.unusedVariables false
set_option maxRecDepth 1000000
namespace Go.Eng
open Go Go.RowKit Go.Proofs
def a248a : List AV := [(by8 false [1,8,15,22,29,36,43,50,57,64,71,78,85,92,99,106,114,121,128,135,142,149,156,163,170,177,184,191,198,205,212,219] 32 none), i64 0, (by8 false [0,0,0,1,1,0,0,0,0,0,0,0] 12 (some 12))]
def r248a : AV := (by8 true [201,9,55,157,92,174,109,254,255,85,84,201,128,104,45,85,149,226,143,130,135,151,65,3,184,226,54,145,17,156,82,183,142,238,31,155,214,90,71,29,11,218,210,101,31,55,22,255,150,185,169,38,119,174,177,177,133,113,107,74,184,226,7,218] 64 none)
theorem c248a (p : Poly) : chk 100000 (envT p tbl0) 248 a248a r248a = true := by kernel_rfl
def tbl248 : List Ent := [⟨248, a248a, r248a⟩] ++ tbl0
end Go.Eng
end
