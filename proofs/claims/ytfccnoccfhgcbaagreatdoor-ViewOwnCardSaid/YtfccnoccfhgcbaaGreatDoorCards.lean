/-
  DERIVED. GIVEN WITH THE SEED: THE CARDS: each row of YtfccnoccfhgcbaaGreatDoorRows.lean that lists a variable, with what it lists TIED to the program's text (the seventh form; the later family's looks); each row that meets fmt, with fmt's text TOLD by the authors' own Lean function (tested against real Go, not proved from fmt's source: count such statements apart). THE CARD IS WHAT COUNTS. Prove the row's statement (the work); the ties are given (YtfccnoccfhgcbaaGreatDoorTie.lean); close each card by the builder's one call (the guide's Derived/Test/ToyasCard.lean, 'card_holds'). Laid BY PROGRAM, IN A SANDBOX (cutbox-door.mjs). By AI agents, Wed Nov 11 2026. No macro, syntax, notation, axiom, sorry.
-/
import Derived.Test.YtfccnoccfhgcbaaGreatDoorRows
import GoSem.ClaimSeven
namespace Go.Proofs.YtfccnoccfhgcbaaGreatDoor
namespace Rows

/-- THE TIED CARD OF 'embrasurelaw18.ViewSees'. -/
def viewSeesCard : Claim7 := { stood := { row := viewSeesRow, standIns := [], harness := (true, "4eaa47956d02c688950758280d0594a06d21b47fca31964564c4137525720bfd"), looks := false }, kinds := [], alts := [], laidByText := true, laidKinds := [.wider, .wider], laidTests := true, laidLooks := .later }
def ViewSeesCardSaid : Prop := Claim7.holds Tryz.pinned (.plain (OpenSpec.ofChange viewSeesSpec)) viewSeesCard

/-- THE TIED CARD OF 'embrasurelaw18.ViewWrites'. -/
def viewWritesCard : Claim7 := { stood := { row := viewWritesRow, standIns := [], harness := (true, "4eaa47956d02c688950758280d0594a06d21b47fca31964564c4137525720bfd"), looks := false }, kinds := [], alts := [], laidByText := true, laidKinds := [.wider, .wider], laidTests := true, laidLooks := .later }
def ViewWritesCardSaid : Prop := Claim7.holds Tryz.pinned (.plain (OpenSpec.ofChange viewWritesSpec)) viewWritesCard

/-- THE TIED CARD OF 'embrasurelaw18.ViewReads'. -/
def viewReadsCard : Claim7 := { stood := { row := viewReadsRow, standIns := [], harness := (true, "4eaa47956d02c688950758280d0594a06d21b47fca31964564c4137525720bfd"), looks := false }, kinds := [], alts := [], laidByText := true, laidKinds := [.wider, .wider], laidTests := true, laidLooks := .later }
def ViewReadsCardSaid : Prop := Claim7.holds Tryz.pinned (.plain (OpenSpec.ofChange viewReadsSpec)) viewReadsCard

/-- THE TIED CARD OF 'embrasurelaw18.ViewBack'. -/
def viewBackCard : Claim7 := { stood := { row := viewBackRow, standIns := [], harness := (true, "4eaa47956d02c688950758280d0594a06d21b47fca31964564c4137525720bfd"), looks := false }, kinds := [], alts := [], laidByText := true, laidKinds := [.wider, .wider], laidTests := true, laidLooks := .later }
def ViewBackCardSaid : Prop := Claim7.holds Tryz.pinned (.plain (OpenSpec.ofChange viewBackSpec)) viewBackCard

/-- THE TIED CARD OF 'embrasurelaw18.ViewHidden'. -/
def viewHiddenCard : Claim7 := { stood := { row := viewHiddenRow, standIns := [], harness := (true, "4eaa47956d02c688950758280d0594a06d21b47fca31964564c4137525720bfd"), looks := false }, kinds := [], alts := [], laidByText := true, laidKinds := [.wider, .wider], laidTests := true, laidLooks := .later }
def ViewHiddenCardSaid : Prop := Claim7.holds Tryz.pinned (.plain (OpenSpec.ofChange viewHiddenSpec)) viewHiddenCard

/-- THE TIED CARD OF 'embrasurelaw18.ViewBudget'. -/
def viewBudgetCard : Claim7 := { stood := { row := viewBudgetRow, standIns := [], harness := (true, "4eaa47956d02c688950758280d0594a06d21b47fca31964564c4137525720bfd"), looks := false }, kinds := [], alts := [], laidByText := true, laidKinds := [.wider, .wider], laidTests := true, laidLooks := .later }
def ViewBudgetCardSaid : Prop := Claim7.holds Tryz.pinned (.plain (OpenSpec.ofChange viewBudgetSpec)) viewBudgetCard

/-- THE TIED CARD OF 'embrasurelaw18.ViewChain'. -/
def viewChainCard : Claim7 := { stood := { row := viewChainRow, standIns := [], harness := (true, "4eaa47956d02c688950758280d0594a06d21b47fca31964564c4137525720bfd"), looks := false }, kinds := [], alts := [], laidByText := true, laidKinds := [.wider, .wider], laidTests := true, laidLooks := .later }
def ViewChainCardSaid : Prop := Claim7.holds Tryz.pinned (.plain (OpenSpec.ofChange viewChainSpec)) viewChainCard

/-- THE TIED CARD OF 'embrasurelaw18.ViewUnlike'. -/
def viewUnlikeCard : Claim7 := { stood := { row := viewUnlikeRow, standIns := [], harness := (true, "4eaa47956d02c688950758280d0594a06d21b47fca31964564c4137525720bfd"), looks := false }, kinds := [], alts := [], laidByText := true, laidKinds := [.wider, .wider], laidTests := true, laidLooks := .later }
def ViewUnlikeCardSaid : Prop := Claim7.holds Tryz.pinned (.plain (OpenSpec.ofChange viewUnlikeSpec)) viewUnlikeCard

/-- THE TIED CARD OF 'embrasurelaw18.ViewOwn'. -/
def viewOwnCard : Claim7 := { stood := { row := viewOwnRow, standIns := [], harness := (true, "4eaa47956d02c688950758280d0594a06d21b47fca31964564c4137525720bfd"), looks := false }, kinds := [], alts := [], laidByText := true, laidKinds := [.wider, .wider], laidTests := true, laidLooks := .later }
def ViewOwnCardSaid : Prop := Claim7.holds Tryz.pinned (.plain (OpenSpec.ofChange viewOwnSpec)) viewOwnCard

/-- THE TIED CARD OF 'embrasurelaw18.ViewGone'. -/
def viewGoneCard : Claim7 := { stood := { row := viewGoneRow, standIns := [], harness := (true, "4eaa47956d02c688950758280d0594a06d21b47fca31964564c4137525720bfd"), looks := false }, kinds := [], alts := [], laidByText := true, laidKinds := [.wider, .wider], laidTests := true, laidLooks := .later }
def ViewGoneCardSaid : Prop := Claim7.holds Tryz.pinned (.plain (OpenSpec.ofChange viewGoneSpec)) viewGoneCard

/-- THE TIED CARD OF 'embrasurelaw18.ViewNearest'. -/
def viewNearestCard : Claim7 := { stood := { row := viewNearestRow, standIns := [], harness := (true, "4eaa47956d02c688950758280d0594a06d21b47fca31964564c4137525720bfd"), looks := false }, kinds := [], alts := [], laidByText := true, laidKinds := [.wider, .wider], laidTests := true, laidLooks := .later }
def ViewNearestCardSaid : Prop := Claim7.holds Tryz.pinned (.plain (OpenSpec.ofChange viewNearestSpec)) viewNearestCard

/-- THE SECOND FORM's CARD OF 'embrasurelaw18.ViewSees'. -/
def viewSeesUptoCard : Claim7 := { stood := { row := viewSeesUptoRow, standIns := [], harness := (true, "4eaa47956d02c688950758280d0594a06d21b47fca31964564c4137525720bfd"), looks := false }, kinds := [], alts := [], laidByText := true, laidKinds := [.wider, .wider], laidTests := true, laidLooks := .later }
def ViewSeesUptoCardSaid : Prop := Claim7.holds Tryz.pinned (.plain (OpenSpec.upto viewSeesSpec)) viewSeesUptoCard

/-- THE SECOND FORM's CARD OF 'embrasurelaw18.ViewWrites'. -/
def viewWritesUptoCard : Claim7 := { stood := { row := viewWritesUptoRow, standIns := [], harness := (true, "4eaa47956d02c688950758280d0594a06d21b47fca31964564c4137525720bfd"), looks := false }, kinds := [], alts := [], laidByText := true, laidKinds := [.wider, .wider], laidTests := true, laidLooks := .later }
def ViewWritesUptoCardSaid : Prop := Claim7.holds Tryz.pinned (.plain (OpenSpec.upto viewWritesSpec)) viewWritesUptoCard

/-- THE SECOND FORM's CARD OF 'embrasurelaw18.ViewReads'. -/
def viewReadsUptoCard : Claim7 := { stood := { row := viewReadsUptoRow, standIns := [], harness := (true, "4eaa47956d02c688950758280d0594a06d21b47fca31964564c4137525720bfd"), looks := false }, kinds := [], alts := [], laidByText := true, laidKinds := [.wider, .wider], laidTests := true, laidLooks := .later }
def ViewReadsUptoCardSaid : Prop := Claim7.holds Tryz.pinned (.plain (OpenSpec.upto viewReadsSpec)) viewReadsUptoCard

/-- THE SECOND FORM's CARD OF 'embrasurelaw18.ViewBack'. -/
def viewBackUptoCard : Claim7 := { stood := { row := viewBackUptoRow, standIns := [], harness := (true, "4eaa47956d02c688950758280d0594a06d21b47fca31964564c4137525720bfd"), looks := false }, kinds := [], alts := [], laidByText := true, laidKinds := [.wider, .wider], laidTests := true, laidLooks := .later }
def ViewBackUptoCardSaid : Prop := Claim7.holds Tryz.pinned (.plain (OpenSpec.upto viewBackSpec)) viewBackUptoCard

/-- THE SECOND FORM's CARD OF 'embrasurelaw18.ViewHidden'. -/
def viewHiddenUptoCard : Claim7 := { stood := { row := viewHiddenUptoRow, standIns := [], harness := (true, "4eaa47956d02c688950758280d0594a06d21b47fca31964564c4137525720bfd"), looks := false }, kinds := [], alts := [], laidByText := true, laidKinds := [.wider, .wider], laidTests := true, laidLooks := .later }
def ViewHiddenUptoCardSaid : Prop := Claim7.holds Tryz.pinned (.plain (OpenSpec.upto viewHiddenSpec)) viewHiddenUptoCard

/-- THE SECOND FORM's CARD OF 'embrasurelaw18.ViewBudget'. -/
def viewBudgetUptoCard : Claim7 := { stood := { row := viewBudgetUptoRow, standIns := [], harness := (true, "4eaa47956d02c688950758280d0594a06d21b47fca31964564c4137525720bfd"), looks := false }, kinds := [], alts := [], laidByText := true, laidKinds := [.wider, .wider], laidTests := true, laidLooks := .later }
def ViewBudgetUptoCardSaid : Prop := Claim7.holds Tryz.pinned (.plain (OpenSpec.upto viewBudgetSpec)) viewBudgetUptoCard

/-- THE SECOND FORM's CARD OF 'embrasurelaw18.ViewChain'. -/
def viewChainUptoCard : Claim7 := { stood := { row := viewChainUptoRow, standIns := [], harness := (true, "4eaa47956d02c688950758280d0594a06d21b47fca31964564c4137525720bfd"), looks := false }, kinds := [], alts := [], laidByText := true, laidKinds := [.wider, .wider], laidTests := true, laidLooks := .later }
def ViewChainUptoCardSaid : Prop := Claim7.holds Tryz.pinned (.plain (OpenSpec.upto viewChainSpec)) viewChainUptoCard

/-- THE SECOND FORM's CARD OF 'embrasurelaw18.ViewUnlike'. -/
def viewUnlikeUptoCard : Claim7 := { stood := { row := viewUnlikeUptoRow, standIns := [], harness := (true, "4eaa47956d02c688950758280d0594a06d21b47fca31964564c4137525720bfd"), looks := false }, kinds := [], alts := [], laidByText := true, laidKinds := [.wider, .wider], laidTests := true, laidLooks := .later }
def ViewUnlikeUptoCardSaid : Prop := Claim7.holds Tryz.pinned (.plain (OpenSpec.upto viewUnlikeSpec)) viewUnlikeUptoCard

/-- THE SECOND FORM's CARD OF 'embrasurelaw18.ViewOwn'. -/
def viewOwnUptoCard : Claim7 := { stood := { row := viewOwnUptoRow, standIns := [], harness := (true, "4eaa47956d02c688950758280d0594a06d21b47fca31964564c4137525720bfd"), looks := false }, kinds := [], alts := [], laidByText := true, laidKinds := [.wider, .wider], laidTests := true, laidLooks := .later }
def ViewOwnUptoCardSaid : Prop := Claim7.holds Tryz.pinned (.plain (OpenSpec.upto viewOwnSpec)) viewOwnUptoCard

/-- THE SECOND FORM's CARD OF 'embrasurelaw18.ViewGone'. -/
def viewGoneUptoCard : Claim7 := { stood := { row := viewGoneUptoRow, standIns := [], harness := (true, "4eaa47956d02c688950758280d0594a06d21b47fca31964564c4137525720bfd"), looks := false }, kinds := [], alts := [], laidByText := true, laidKinds := [.wider, .wider], laidTests := true, laidLooks := .later }
def ViewGoneUptoCardSaid : Prop := Claim7.holds Tryz.pinned (.plain (OpenSpec.upto viewGoneSpec)) viewGoneUptoCard

/-- THE SECOND FORM's CARD OF 'embrasurelaw18.ViewNearest'. -/
def viewNearestUptoCard : Claim7 := { stood := { row := viewNearestUptoRow, standIns := [], harness := (true, "4eaa47956d02c688950758280d0594a06d21b47fca31964564c4137525720bfd"), looks := false }, kinds := [], alts := [], laidByText := true, laidKinds := [.wider, .wider], laidTests := true, laidLooks := .later }
def ViewNearestUptoCardSaid : Prop := Claim7.holds Tryz.pinned (.plain (OpenSpec.upto viewNearestSpec)) viewNearestUptoCard
end Rows
end Go.Proofs.YtfccnoccfhgcbaaGreatDoor
