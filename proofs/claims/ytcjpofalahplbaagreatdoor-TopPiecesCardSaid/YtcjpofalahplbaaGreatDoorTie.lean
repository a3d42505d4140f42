/-
  DERIVED. GIVEN WITH THE SEED: THE PROGRAM's TIES (one call each: nine closed facts by the kernel) AND EACH ROW's TIE, after the 31st guide's Derived/Test/Toyas{Tie, Card}.lean. No idea stands in it: it is a product of the set-up. Laid BY PROGRAM, IN A SANDBOX (cutbox-door.mjs). By AI agents, Wed Nov 11 2026. No macro, syntax, notation, axiom, sorry.
-/
import Derived.Test.YtcjpofalahplbaaGreatDoorRows
import Derived.LaidByTextLater
import Derived.SevenTiedAt
import Derived.LaidSub
import Derived.LaidOnce
namespace Go.Proofs.YtcjpofalahplbaaGreatDoor
open Go
set_option maxRecDepth 100000
theorem seatTie1 : Tryz.prog.laidByTextLater [("radiolink/stream.lanes", Rows.laid_radiolink_stream_lanes), ("radiolink/check.polynomials", Rows.laid_radiolink_check_polynomials)] [.data, .mapped] true :=
  Program.laidByTextLater_by_one 52 8 33 (by kernel_rfl) (by kernel_rfl) (by kernel_rfl) (by kernel_rfl) (by kernel_rfl) (by kernel_rfl) (fun _ _ => by kernel_rfl)
theorem noOwnUnsafe : Tryz.pinned.checked.prog.headLifts.contains "ownunsafe" = false := by kernel_rfl
theorem tie : Tryz.prog.laidByTextLater [("radiolink/stream.lanes", Rows.laid_radiolink_stream_lanes), ("radiolink/check.polynomials", Rows.laid_radiolink_check_polynomials)] [.data, .mapped] true :=
  Program.laidByTextLater.sub seatTie1 ["radiolink/stream.lanes", "radiolink/check.polynomials"] (by kernel_rfl) (by kernel_rfl)
theorem topBearer_row_tie : Rows.topBearerRow.laidByTextAt .later Tryz.pinned [.data, .mapped] true :=
  OpenClaim.laidByTextAt_later rfl rfl tie noOwnUnsafe
theorem topPieces_row_tie : Rows.topPiecesRow.laidByTextAt .later Tryz.pinned [.data, .mapped] true :=
  OpenClaim.laidByTextAt_later rfl rfl tie noOwnUnsafe
theorem topReports_row_tie : Rows.topReportsRow.laidByTextAt .later Tryz.pinned [.data, .mapped] true :=
  OpenClaim.laidByTextAt_later rfl rfl tie noOwnUnsafe
theorem topRun_row_tie : Rows.topRunRow.laidByTextAt .later Tryz.pinned [.data, .mapped] true :=
  OpenClaim.laidByTextAt_later rfl rfl tie noOwnUnsafe
theorem topKeys_row_tie : Rows.topKeysRow.laidByTextAt .later Tryz.pinned [.data, .mapped] true :=
  OpenClaim.laidByTextAt_later rfl rfl tie noOwnUnsafe
theorem topFeedback_row_tie : Rows.topFeedbackRow.laidByTextAt .later Tryz.pinned [.data, .mapped] true :=
  OpenClaim.laidByTextAt_later rfl rfl tie noOwnUnsafe
theorem topTransparent_row_tie : Rows.topTransparentRow.laidByTextAt .later Tryz.pinned [.data, .mapped] true :=
  OpenClaim.laidByTextAt_later rfl rfl tie noOwnUnsafe
theorem topBearerUpto_row_tie : Rows.topBearerUptoRow.laidByTextAt .later Tryz.pinned [.data, .mapped] true :=
  OpenClaim.laidByTextAt_later rfl rfl tie noOwnUnsafe
theorem topPiecesUpto_row_tie : Rows.topPiecesUptoRow.laidByTextAt .later Tryz.pinned [.data, .mapped] true :=
  OpenClaim.laidByTextAt_later rfl rfl tie noOwnUnsafe
theorem topReportsUpto_row_tie : Rows.topReportsUptoRow.laidByTextAt .later Tryz.pinned [.data, .mapped] true :=
  OpenClaim.laidByTextAt_later rfl rfl tie noOwnUnsafe
theorem topRunUpto_row_tie : Rows.topRunUptoRow.laidByTextAt .later Tryz.pinned [.data, .mapped] true :=
  OpenClaim.laidByTextAt_later rfl rfl tie noOwnUnsafe
theorem topKeysUpto_row_tie : Rows.topKeysUptoRow.laidByTextAt .later Tryz.pinned [.data, .mapped] true :=
  OpenClaim.laidByTextAt_later rfl rfl tie noOwnUnsafe
theorem topFeedbackUpto_row_tie : Rows.topFeedbackUptoRow.laidByTextAt .later Tryz.pinned [.data, .mapped] true :=
  OpenClaim.laidByTextAt_later rfl rfl tie noOwnUnsafe
theorem topTransparentUpto_row_tie : Rows.topTransparentUptoRow.laidByTextAt .later Tryz.pinned [.data, .mapped] true :=
  OpenClaim.laidByTextAt_later rfl rfl tie noOwnUnsafe
end Go.Proofs.YtcjpofalahplbaaGreatDoor
