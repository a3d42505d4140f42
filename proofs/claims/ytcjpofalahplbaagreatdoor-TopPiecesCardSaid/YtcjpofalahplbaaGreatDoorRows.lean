/-
  NARROWER THAN 'FOR EVERY INPUT', by the rows' own cells (each row's printed sentence says how): TopBearer: laid · TopPieces: laid · TopReports: laid · TopRun: laid · TopKeys: laid · TopFeedback: laid · TopTransparent: laid.
  DERIVED. THE GIVEN ROWS OF THIS SEAT. 7 by the template 'for every input the law returns true; each argument reads behind the call as it read before'; 0 by the template 'total and deterministic' (their statements: YtcjpofalahplbaaGreatDoorTotals.lean).
  GIVEN WITH THE SEED: the statements are not yours to turn. If you find one false, say at which input.
  Laid BY PROGRAM, IN A SANDBOX (cutbox-rows.mjs): the forced cells as the released guide's own fill.sh prints them over the translation 13f4b1c3b986db50… (all of the seat's roots in one cut). By AI agents, Wed Nov 11 2026. No macro, syntax, notation, axiom, sorry.
-/
import Derived.Test.YtcjpofalahplbaaGreatDoorChecked
import GoSem.Claim
import GoSem.ClaimJoined
import GoSem.ClaimMapViews
import Derived.JoinedTies
import Derived.KernelRfl
namespace Go.Proofs.YtcjpofalahplbaaGreatDoor
/- THE CELL 'sum', in the pinned program and in every row, IS THE sha256 OF THE DUMP (.gsa) THAT YtcjpofalahplbaaGreatDoorProg.lean LOADS. Nothing in Lean hashes anything: it is a label: what it is worth is what the hold of that sum in a sandbox is worth. -/
noncomputable def Tryz.pinned : Pinned := { name := "ytcjpofalahplbaagreatdoor", sum := "13f4b1c3b986db50bc60288839746bbce8f55e98a1f44f9b0db91b6ee550882c", checked := Tryz.checked }
namespace Rows
def none {H : Type} : Left H := { results := [], args := [] }

/- WHAT THE LISTED PACKAGE-LEVEL VARIABLES READ AS WHEN THE CALL BEGINS. Each datum BY PROGRAM (the guide's laid-datum.mjs) off the statement by which the dump's own 'gosem.cut.vars' lays the variable. In a bare row this is a premise. The card (YtcjpofalahplbaaGreatDoorCards.lean) ties it to the program's text. -/
def laid_radiolink_stream_lanes {H : Type} : DataW H := .agg [.agg [.lit (.int .i64 0), .lit (.int .i64 4), .lit (.int .i64 8), .lit (.int .i64 12)], .agg [.lit (.int .i64 1), .lit (.int .i64 5), .lit (.int .i64 9), .lit (.int .i64 13)], .agg [.lit (.int .i64 2), .lit (.int .i64 6), .lit (.int .i64 10), .lit (.int .i64 14)], .agg [.lit (.int .i64 3), .lit (.int .i64 7), .lit (.int .i64 11), .lit (.int .i64 15)], .agg [.lit (.int .i64 0), .lit (.int .i64 5), .lit (.int .i64 10), .lit (.int .i64 15)], .agg [.lit (.int .i64 1), .lit (.int .i64 6), .lit (.int .i64 11), .lit (.int .i64 12)], .agg [.lit (.int .i64 2), .lit (.int .i64 7), .lit (.int .i64 8), .lit (.int .i64 13)], .agg [.lit (.int .i64 3), .lit (.int .i64 4), .lit (.int .i64 9), .lit (.int .i64 14)]]
def laid_radiolink_check_polynomials {H : Type} : DataW H := .map [(.int .i64 3, .lit (.int .i64 3)), (.int .i64 7, .lit (.int .i64 9)), (.int .i64 8, .lit (.int .i64 7)), (.int .i64 16, .lit (.int .i64 4129)), (.int .i64 24, .lit (.int .i64 8801531))]

/-- 'radiolinktop.TopBearer': WHATEVER THE INPUT: true; the input reads as it did. -/
def topBearerSpec : ChangeSpec := { name := "topBearer", fn := fun _ => fun
  | [d1, d2] => { results := [.lit (.bool true)], args := [d1, d2] }
  | _ => none }
def topBearerRow : OpenClaim := { program := "ytcjpofalahplbaagreatdoor", sum := "13f4b1c3b986db50bc60288839746bbce8f55e98a1f44f9b0db91b6ee550882c", func := "radiolink/radiolinktop.TopBearer", spec := "topBearer", inPlace := ["slices.overlaps[radiolink/api.Partial]", "slices.overlaps[radiolink/api.Held]"], unfollowed := true, recurses := true, named := ["radiolink/check.polynomials", "radiolink/stream.lanes"], apart := false, laid := [("radiolink/stream.lanes", laid_radiolink_stream_lanes), ("radiolink/check.polynomials", laid_radiolink_check_polynomials)] }
def TopBearerSaid : Prop := topBearerRow.holds Tryz.pinned (OpenSpec.ofChange topBearerSpec)

/-- ITS FALSE NEIGHBOUR: 'it returns false'. Refute it at one input. -/
def topBearerWrong : ChangeSpec := { name := "topBearer", fn := fun _ => fun
  | [d1, d2] => { results := [.lit (.bool false)], args := [d1, d2] }
  | _ => none }
def TopBearerWrongFalsely : Prop := topBearerRow.holds Tryz.pinned (OpenSpec.ofChange topBearerWrong)

/-- 'radiolinktop.TopPieces': WHATEVER THE INPUT: true; the input reads as it did. -/
def topPiecesSpec : ChangeSpec := { name := "topPieces", fn := fun _ => fun
  | [d] => { results := [.lit (.bool true)], args := [d] }
  | _ => none }
def topPiecesRow : OpenClaim := { program := "ytcjpofalahplbaagreatdoor", sum := "13f4b1c3b986db50bc60288839746bbce8f55e98a1f44f9b0db91b6ee550882c", func := "radiolink/radiolinktop.TopPieces", spec := "topPieces", inPlace := ["slices.overlaps[radiolink/api.Partial]", "slices.overlaps[radiolink/api.Held]"], unfollowed := true, recurses := true, named := ["radiolink/check.polynomials", "radiolink/stream.lanes"], apart := false, laid := [("radiolink/stream.lanes", laid_radiolink_stream_lanes), ("radiolink/check.polynomials", laid_radiolink_check_polynomials)] }
def TopPiecesSaid : Prop := topPiecesRow.holds Tryz.pinned (OpenSpec.ofChange topPiecesSpec)

/-- ITS FALSE NEIGHBOUR: 'it returns false'. Refute it at one input. -/
def topPiecesWrong : ChangeSpec := { name := "topPieces", fn := fun _ => fun
  | [d] => { results := [.lit (.bool false)], args := [d] }
  | _ => none }
def TopPiecesWrongFalsely : Prop := topPiecesRow.holds Tryz.pinned (OpenSpec.ofChange topPiecesWrong)

/-- 'radiolinktop.TopReports': WHATEVER THE INPUT: true; the input reads as it did. -/
def topReportsSpec : ChangeSpec := { name := "topReports", fn := fun _ => fun
  | [d] => { results := [.lit (.bool true)], args := [d] }
  | _ => none }
def topReportsRow : OpenClaim := { program := "ytcjpofalahplbaagreatdoor", sum := "13f4b1c3b986db50bc60288839746bbce8f55e98a1f44f9b0db91b6ee550882c", func := "radiolink/radiolinktop.TopReports", spec := "topReports", inPlace := ["slices.overlaps[radiolink/api.Partial]", "slices.overlaps[radiolink/api.Held]"], unfollowed := true, recurses := true, named := ["radiolink/check.polynomials", "radiolink/stream.lanes"], apart := false, laid := [("radiolink/stream.lanes", laid_radiolink_stream_lanes), ("radiolink/check.polynomials", laid_radiolink_check_polynomials)] }
def TopReportsSaid : Prop := topReportsRow.holds Tryz.pinned (OpenSpec.ofChange topReportsSpec)

/-- ITS FALSE NEIGHBOUR: 'it returns false'. Refute it at one input. -/
def topReportsWrong : ChangeSpec := { name := "topReports", fn := fun _ => fun
  | [d] => { results := [.lit (.bool false)], args := [d] }
  | _ => none }
def TopReportsWrongFalsely : Prop := topReportsRow.holds Tryz.pinned (OpenSpec.ofChange topReportsWrong)

/-- 'radiolinktop.TopRun': WHATEVER THE INPUT: true; the input reads as it did. -/
def topRunSpec : ChangeSpec := { name := "topRun", fn := fun _ => fun
  | [d] => { results := [.lit (.bool true)], args := [d] }
  | _ => none }
def topRunRow : OpenClaim := { program := "ytcjpofalahplbaagreatdoor", sum := "13f4b1c3b986db50bc60288839746bbce8f55e98a1f44f9b0db91b6ee550882c", func := "radiolink/radiolinktop.TopRun", spec := "topRun", inPlace := ["slices.overlaps[radiolink/api.Partial]", "slices.overlaps[radiolink/api.Held]"], unfollowed := true, recurses := true, named := ["radiolink/check.polynomials", "radiolink/stream.lanes"], apart := false, laid := [("radiolink/stream.lanes", laid_radiolink_stream_lanes), ("radiolink/check.polynomials", laid_radiolink_check_polynomials)] }
def TopRunSaid : Prop := topRunRow.holds Tryz.pinned (OpenSpec.ofChange topRunSpec)

/-- ITS FALSE NEIGHBOUR: 'it returns false'. Refute it at one input. -/
def topRunWrong : ChangeSpec := { name := "topRun", fn := fun _ => fun
  | [d] => { results := [.lit (.bool false)], args := [d] }
  | _ => none }
def TopRunWrongFalsely : Prop := topRunRow.holds Tryz.pinned (OpenSpec.ofChange topRunWrong)

/-- 'radiolinktop.TopKeys': WHATEVER THE INPUT: true; the input reads as it did. -/
def topKeysSpec : ChangeSpec := { name := "topKeys", fn := fun _ => fun
  | [d] => { results := [.lit (.bool true)], args := [d] }
  | _ => none }
def topKeysRow : OpenClaim := { program := "ytcjpofalahplbaagreatdoor", sum := "13f4b1c3b986db50bc60288839746bbce8f55e98a1f44f9b0db91b6ee550882c", func := "radiolink/radiolinktop.TopKeys", spec := "topKeys", inPlace := ["slices.overlaps[radiolink/api.Partial]", "slices.overlaps[radiolink/api.Held]"], unfollowed := true, recurses := true, named := ["radiolink/check.polynomials", "radiolink/stream.lanes"], apart := false, laid := [("radiolink/stream.lanes", laid_radiolink_stream_lanes), ("radiolink/check.polynomials", laid_radiolink_check_polynomials)] }
def TopKeysSaid : Prop := topKeysRow.holds Tryz.pinned (OpenSpec.ofChange topKeysSpec)

/-- ITS FALSE NEIGHBOUR: 'it returns false'. Refute it at one input. -/
def topKeysWrong : ChangeSpec := { name := "topKeys", fn := fun _ => fun
  | [d] => { results := [.lit (.bool false)], args := [d] }
  | _ => none }
def TopKeysWrongFalsely : Prop := topKeysRow.holds Tryz.pinned (OpenSpec.ofChange topKeysWrong)

/-- 'radiolinktop.TopFeedback': WHATEVER THE INPUT: true; the input reads as it did. -/
def topFeedbackSpec : ChangeSpec := { name := "topFeedback", fn := fun _ => fun
  | [d] => { results := [.lit (.bool true)], args := [d] }
  | _ => none }
def topFeedbackRow : OpenClaim := { program := "ytcjpofalahplbaagreatdoor", sum := "13f4b1c3b986db50bc60288839746bbce8f55e98a1f44f9b0db91b6ee550882c", func := "radiolink/radiolinktop.TopFeedback", spec := "topFeedback", inPlace := ["slices.overlaps[radiolink/api.Partial]", "slices.overlaps[radiolink/api.Held]"], unfollowed := true, recurses := true, named := ["radiolink/check.polynomials", "radiolink/stream.lanes"], apart := false, laid := [("radiolink/stream.lanes", laid_radiolink_stream_lanes), ("radiolink/check.polynomials", laid_radiolink_check_polynomials)] }
def TopFeedbackSaid : Prop := topFeedbackRow.holds Tryz.pinned (OpenSpec.ofChange topFeedbackSpec)

/-- ITS FALSE NEIGHBOUR: 'it returns false'. Refute it at one input. -/
def topFeedbackWrong : ChangeSpec := { name := "topFeedback", fn := fun _ => fun
  | [d] => { results := [.lit (.bool false)], args := [d] }
  | _ => none }
def TopFeedbackWrongFalsely : Prop := topFeedbackRow.holds Tryz.pinned (OpenSpec.ofChange topFeedbackWrong)

/-- 'radiolinktop.TopTransparent': WHATEVER THE INPUT: true; the input reads as it did. -/
def topTransparentSpec : ChangeSpec := { name := "topTransparent", fn := fun _ => fun
  | [d1, d2] => { results := [.lit (.bool true)], args := [d1, d2] }
  | _ => none }
def topTransparentRow : OpenClaim := { program := "ytcjpofalahplbaagreatdoor", sum := "13f4b1c3b986db50bc60288839746bbce8f55e98a1f44f9b0db91b6ee550882c", func := "radiolink/radiolinktop.TopTransparent", spec := "topTransparent", inPlace := ["slices.overlaps[radiolink/api.Partial]", "slices.overlaps[radiolink/api.Held]"], unfollowed := true, recurses := true, named := ["radiolink/check.polynomials", "radiolink/stream.lanes"], apart := false, laid := [("radiolink/stream.lanes", laid_radiolink_stream_lanes), ("radiolink/check.polynomials", laid_radiolink_check_polynomials)] }
def TopTransparentSaid : Prop := topTransparentRow.holds Tryz.pinned (OpenSpec.ofChange topTransparentSpec)

/-- ITS FALSE NEIGHBOUR: 'it returns false'. Refute it at one input. -/
def topTransparentWrong : ChangeSpec := { name := "topTransparent", fn := fun _ => fun
  | [d1, d2] => { results := [.lit (.bool false)], args := [d1, d2] }
  | _ => none }
def TopTransparentWrongFalsely : Prop := topTransparentRow.holds Tryz.pinned (OpenSpec.ofChange topTransparentWrong)

/- THE SECOND FORM. 'bulk': how many values and letters a reading holds, each counted each time it is reached (what is shared counts as often as it is met; a slice's spare places count too). A statement '..UptoSaid' is the law's where the arguments, and the package variables that the reading takes, are together of bulk at most 1048576: NARROWER than '..Said'. Prove '..Said' where nothing that the law and all that it calls make is longer than what came in: it says more and counts as full. Else prove '..UptoSaid'. A law counts once. -/
mutual
def uptoBulk {H : Type} : DataW H → Nat
  | .lit (.string bytes) => bytes.length + 1
  | .lit _ => 1
  | .nil => 1
  | .ptr d => uptoBulk d + 1
  | .slice elems spare => uptoBulkAll elems + uptoBulkAll spare + 1
  | .agg parts => uptoBulkAll parts + 1
  | .iface _ d => uptoBulk d + 1
  | .map entries => uptoBulkEntries entries + 1
  | .held _ => 1
def uptoBulkAll {H : Type} : List (DataW H) → Nat
  | [] => 0
  | d :: r => uptoBulk d + uptoBulkAll r
def uptoBulkEntries {H : Type} : List (Lit × DataW H) → Nat
  | [] => 0
  | x :: r => uptoBulkEntry x + uptoBulkEntries r
def uptoBulkEntry {H : Type} : Lit × DataW H → Nat
  | (.string bytes, d) => bytes.length + uptoBulk d + 1
  | (_, d) => uptoBulk d + 1
 end
def uptoSmall : (H : Type) → List (DataW H) → Bool := fun _ ds => decide (uptoBulkAll ds ≤ 1048576)
def OpenSpec.upto (s : _root_.Go.ChangeSpec) : _root_.Go.OpenSpec := { _root_.Go.OpenSpec.ofChange s with cond := some uptoSmall }

/-- 'radiolinktop.TopBearer', WHERE WHAT IT READS IS OF BULK AT MOST 1048576: true; the input reads as it did. -/
def topBearerUptoRow : OpenClaim := { program := "ytcjpofalahplbaagreatdoor", sum := "13f4b1c3b986db50bc60288839746bbce8f55e98a1f44f9b0db91b6ee550882c", func := "radiolink/radiolinktop.TopBearer", spec := "topBearer", inPlace := ["slices.overlaps[radiolink/api.Partial]", "slices.overlaps[radiolink/api.Held]"], unfollowed := true, recurses := true, named := ["radiolink/check.polynomials", "radiolink/stream.lanes"], apart := false, laid := [("radiolink/stream.lanes", laid_radiolink_stream_lanes), ("radiolink/check.polynomials", laid_radiolink_check_polynomials)], narrowed := true }
def TopBearerUptoSaid : Prop := topBearerUptoRow.holds Tryz.pinned (OpenSpec.upto topBearerSpec)

/-- 'radiolinktop.TopPieces', WHERE WHAT IT READS IS OF BULK AT MOST 1048576: true; the input reads as it did. -/
def topPiecesUptoRow : OpenClaim := { program := "ytcjpofalahplbaagreatdoor", sum := "13f4b1c3b986db50bc60288839746bbce8f55e98a1f44f9b0db91b6ee550882c", func := "radiolink/radiolinktop.TopPieces", spec := "topPieces", inPlace := ["slices.overlaps[radiolink/api.Partial]", "slices.overlaps[radiolink/api.Held]"], unfollowed := true, recurses := true, named := ["radiolink/check.polynomials", "radiolink/stream.lanes"], apart := false, laid := [("radiolink/stream.lanes", laid_radiolink_stream_lanes), ("radiolink/check.polynomials", laid_radiolink_check_polynomials)], narrowed := true }
def TopPiecesUptoSaid : Prop := topPiecesUptoRow.holds Tryz.pinned (OpenSpec.upto topPiecesSpec)

/-- 'radiolinktop.TopReports', WHERE WHAT IT READS IS OF BULK AT MOST 1048576: true; the input reads as it did. -/
def topReportsUptoRow : OpenClaim := { program := "ytcjpofalahplbaagreatdoor", sum := "13f4b1c3b986db50bc60288839746bbce8f55e98a1f44f9b0db91b6ee550882c", func := "radiolink/radiolinktop.TopReports", spec := "topReports", inPlace := ["slices.overlaps[radiolink/api.Partial]", "slices.overlaps[radiolink/api.Held]"], unfollowed := true, recurses := true, named := ["radiolink/check.polynomials", "radiolink/stream.lanes"], apart := false, laid := [("radiolink/stream.lanes", laid_radiolink_stream_lanes), ("radiolink/check.polynomials", laid_radiolink_check_polynomials)], narrowed := true }
def TopReportsUptoSaid : Prop := topReportsUptoRow.holds Tryz.pinned (OpenSpec.upto topReportsSpec)

/-- 'radiolinktop.TopRun', WHERE WHAT IT READS IS OF BULK AT MOST 1048576: true; the input reads as it did. -/
def topRunUptoRow : OpenClaim := { program := "ytcjpofalahplbaagreatdoor", sum := "13f4b1c3b986db50bc60288839746bbce8f55e98a1f44f9b0db91b6ee550882c", func := "radiolink/radiolinktop.TopRun", spec := "topRun", inPlace := ["slices.overlaps[radiolink/api.Partial]", "slices.overlaps[radiolink/api.Held]"], unfollowed := true, recurses := true, named := ["radiolink/check.polynomials", "radiolink/stream.lanes"], apart := false, laid := [("radiolink/stream.lanes", laid_radiolink_stream_lanes), ("radiolink/check.polynomials", laid_radiolink_check_polynomials)], narrowed := true }
def TopRunUptoSaid : Prop := topRunUptoRow.holds Tryz.pinned (OpenSpec.upto topRunSpec)

/-- 'radiolinktop.TopKeys', WHERE WHAT IT READS IS OF BULK AT MOST 1048576: true; the input reads as it did. -/
def topKeysUptoRow : OpenClaim := { program := "ytcjpofalahplbaagreatdoor", sum := "13f4b1c3b986db50bc60288839746bbce8f55e98a1f44f9b0db91b6ee550882c", func := "radiolink/radiolinktop.TopKeys", spec := "topKeys", inPlace := ["slices.overlaps[radiolink/api.Partial]", "slices.overlaps[radiolink/api.Held]"], unfollowed := true, recurses := true, named := ["radiolink/check.polynomials", "radiolink/stream.lanes"], apart := false, laid := [("radiolink/stream.lanes", laid_radiolink_stream_lanes), ("radiolink/check.polynomials", laid_radiolink_check_polynomials)], narrowed := true }
def TopKeysUptoSaid : Prop := topKeysUptoRow.holds Tryz.pinned (OpenSpec.upto topKeysSpec)

/-- 'radiolinktop.TopFeedback', WHERE WHAT IT READS IS OF BULK AT MOST 1048576: true; the input reads as it did. -/
def topFeedbackUptoRow : OpenClaim := { program := "ytcjpofalahplbaagreatdoor", sum := "13f4b1c3b986db50bc60288839746bbce8f55e98a1f44f9b0db91b6ee550882c", func := "radiolink/radiolinktop.TopFeedback", spec := "topFeedback", inPlace := ["slices.overlaps[radiolink/api.Partial]", "slices.overlaps[radiolink/api.Held]"], unfollowed := true, recurses := true, named := ["radiolink/check.polynomials", "radiolink/stream.lanes"], apart := false, laid := [("radiolink/stream.lanes", laid_radiolink_stream_lanes), ("radiolink/check.polynomials", laid_radiolink_check_polynomials)], narrowed := true }
def TopFeedbackUptoSaid : Prop := topFeedbackUptoRow.holds Tryz.pinned (OpenSpec.upto topFeedbackSpec)

/-- 'radiolinktop.TopTransparent', WHERE WHAT IT READS IS OF BULK AT MOST 1048576: true; the input reads as it did. -/
def topTransparentUptoRow : OpenClaim := { program := "ytcjpofalahplbaagreatdoor", sum := "13f4b1c3b986db50bc60288839746bbce8f55e98a1f44f9b0db91b6ee550882c", func := "radiolink/radiolinktop.TopTransparent", spec := "topTransparent", inPlace := ["slices.overlaps[radiolink/api.Partial]", "slices.overlaps[radiolink/api.Held]"], unfollowed := true, recurses := true, named := ["radiolink/check.polynomials", "radiolink/stream.lanes"], apart := false, laid := [("radiolink/stream.lanes", laid_radiolink_stream_lanes), ("radiolink/check.polynomials", laid_radiolink_check_polynomials)], narrowed := true }
def TopTransparentUptoSaid : Prop := topTransparentUptoRow.holds Tryz.pinned (OpenSpec.upto topTransparentSpec)

end Rows
end Go.Proofs.YtcjpofalahplbaaGreatDoor
