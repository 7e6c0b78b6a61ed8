/-
  DERIVED. GIVEN WITH THE SEED: THE PROGRAM's TIES (one call each: nine closed facts by the kernel) AND EACH ROW's TIE, after the 31st guide's Derived/Test/Toyas{Tie, Card}.lean. No idea stands in it: it is a product of the set-up. Laid BY PROGRAM, IN A SANDBOX (cutbox-door.mjs). By AI agents, Wed Nov 11 2026. No macro, syntax, notation, axiom, sorry.
-/
import Derived.Test.YtfccnoccfhgcbaaGreatDoorRows
import Derived.LaidByTextLater
import Derived.SevenTiedAt
import Derived.LaidSub
import Derived.LaidOnce
namespace Go.Proofs.YtfccnoccfhgcbaaGreatDoor
open Go
set_option maxRecDepth 100000
theorem seatTie1 : Tryz.prog.laidByTextLater [("embrasure/view.players", Rows.laid_embrasure_view_players), ("embrasure/view.shots", Rows.laid_embrasure_view_shots)] [.wider, .wider] true :=
  Program.laidByTextLater_by_one 19 8 4 (by kernel_rfl) (by kernel_rfl) (by kernel_rfl) (by kernel_rfl) (by kernel_rfl) (by kernel_rfl) (fun _ _ => by kernel_rfl)
theorem noOwnUnsafe : Tryz.pinned.checked.prog.headLifts.contains "ownunsafe" = false := by kernel_rfl
theorem tie : Tryz.prog.laidByTextLater [("embrasure/view.players", Rows.laid_embrasure_view_players), ("embrasure/view.shots", Rows.laid_embrasure_view_shots)] [.wider, .wider] true :=
  Program.laidByTextLater.sub seatTie1 ["embrasure/view.players", "embrasure/view.shots"] (by kernel_rfl) (by kernel_rfl)
theorem viewSees_row_tie : Rows.viewSeesRow.laidByTextAt .later Tryz.pinned [.wider, .wider] true :=
  OpenClaim.laidByTextAt_later rfl rfl tie noOwnUnsafe
theorem viewWrites_row_tie : Rows.viewWritesRow.laidByTextAt .later Tryz.pinned [.wider, .wider] true :=
  OpenClaim.laidByTextAt_later rfl rfl tie noOwnUnsafe
theorem viewReads_row_tie : Rows.viewReadsRow.laidByTextAt .later Tryz.pinned [.wider, .wider] true :=
  OpenClaim.laidByTextAt_later rfl rfl tie noOwnUnsafe
theorem viewBack_row_tie : Rows.viewBackRow.laidByTextAt .later Tryz.pinned [.wider, .wider] true :=
  OpenClaim.laidByTextAt_later rfl rfl tie noOwnUnsafe
theorem viewHidden_row_tie : Rows.viewHiddenRow.laidByTextAt .later Tryz.pinned [.wider, .wider] true :=
  OpenClaim.laidByTextAt_later rfl rfl tie noOwnUnsafe
theorem viewBudget_row_tie : Rows.viewBudgetRow.laidByTextAt .later Tryz.pinned [.wider, .wider] true :=
  OpenClaim.laidByTextAt_later rfl rfl tie noOwnUnsafe
theorem viewChain_row_tie : Rows.viewChainRow.laidByTextAt .later Tryz.pinned [.wider, .wider] true :=
  OpenClaim.laidByTextAt_later rfl rfl tie noOwnUnsafe
theorem viewUnlike_row_tie : Rows.viewUnlikeRow.laidByTextAt .later Tryz.pinned [.wider, .wider] true :=
  OpenClaim.laidByTextAt_later rfl rfl tie noOwnUnsafe
theorem viewOwn_row_tie : Rows.viewOwnRow.laidByTextAt .later Tryz.pinned [.wider, .wider] true :=
  OpenClaim.laidByTextAt_later rfl rfl tie noOwnUnsafe
theorem viewGone_row_tie : Rows.viewGoneRow.laidByTextAt .later Tryz.pinned [.wider, .wider] true :=
  OpenClaim.laidByTextAt_later rfl rfl tie noOwnUnsafe
theorem viewNearest_row_tie : Rows.viewNearestRow.laidByTextAt .later Tryz.pinned [.wider, .wider] true :=
  OpenClaim.laidByTextAt_later rfl rfl tie noOwnUnsafe
theorem viewSeesUpto_row_tie : Rows.viewSeesUptoRow.laidByTextAt .later Tryz.pinned [.wider, .wider] true :=
  OpenClaim.laidByTextAt_later rfl rfl tie noOwnUnsafe
theorem viewWritesUpto_row_tie : Rows.viewWritesUptoRow.laidByTextAt .later Tryz.pinned [.wider, .wider] true :=
  OpenClaim.laidByTextAt_later rfl rfl tie noOwnUnsafe
theorem viewReadsUpto_row_tie : Rows.viewReadsUptoRow.laidByTextAt .later Tryz.pinned [.wider, .wider] true :=
  OpenClaim.laidByTextAt_later rfl rfl tie noOwnUnsafe
theorem viewBackUpto_row_tie : Rows.viewBackUptoRow.laidByTextAt .later Tryz.pinned [.wider, .wider] true :=
  OpenClaim.laidByTextAt_later rfl rfl tie noOwnUnsafe
theorem viewHiddenUpto_row_tie : Rows.viewHiddenUptoRow.laidByTextAt .later Tryz.pinned [.wider, .wider] true :=
  OpenClaim.laidByTextAt_later rfl rfl tie noOwnUnsafe
theorem viewBudgetUpto_row_tie : Rows.viewBudgetUptoRow.laidByTextAt .later Tryz.pinned [.wider, .wider] true :=
  OpenClaim.laidByTextAt_later rfl rfl tie noOwnUnsafe
theorem viewChainUpto_row_tie : Rows.viewChainUptoRow.laidByTextAt .later Tryz.pinned [.wider, .wider] true :=
  OpenClaim.laidByTextAt_later rfl rfl tie noOwnUnsafe
theorem viewUnlikeUpto_row_tie : Rows.viewUnlikeUptoRow.laidByTextAt .later Tryz.pinned [.wider, .wider] true :=
  OpenClaim.laidByTextAt_later rfl rfl tie noOwnUnsafe
theorem viewOwnUpto_row_tie : Rows.viewOwnUptoRow.laidByTextAt .later Tryz.pinned [.wider, .wider] true :=
  OpenClaim.laidByTextAt_later rfl rfl tie noOwnUnsafe
theorem viewGoneUpto_row_tie : Rows.viewGoneUptoRow.laidByTextAt .later Tryz.pinned [.wider, .wider] true :=
  OpenClaim.laidByTextAt_later rfl rfl tie noOwnUnsafe
theorem viewNearestUpto_row_tie : Rows.viewNearestUptoRow.laidByTextAt .later Tryz.pinned [.wider, .wider] true :=
  OpenClaim.laidByTextAt_later rfl rfl tie noOwnUnsafe
end Go.Proofs.YtfccnoccfhgcbaaGreatDoor
