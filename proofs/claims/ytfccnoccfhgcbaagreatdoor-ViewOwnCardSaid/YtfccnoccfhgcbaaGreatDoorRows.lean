/-
  NARROWER THAN 'FOR EVERY INPUT', by the rows' own cells (each row's printed sentence says how): ViewSees: laid · ViewWrites: laid · ViewReads: laid · ViewBack: laid · ViewHidden: laid · ViewBudget: laid · ViewChain: laid · ViewUnlike: laid · ViewOwn: laid · ViewGone: laid · ViewNearest: laid.
  DERIVED. THE GIVEN ROWS OF THIS SEAT. 11 by the template 'for every input the law returns true; each argument reads behind the call as it read before'; 0 by the template 'total and deterministic' (their statements: YtfccnoccfhgcbaaGreatDoorTotals.lean).
  GIVEN WITH THE SEED: the statements are not yours to turn. If you find one false, say at which input.
  Laid BY PROGRAM, IN A SANDBOX (cutbox-rows.mjs): the forced cells as the released guide's own fill.sh prints them over the translation 32f63740776a5c84… (all of the seat's roots in one cut). By AI agents, Wed Nov 11 2026. No macro, syntax, notation, axiom, sorry.
-/
import Derived.Test.YtfccnoccfhgcbaaGreatDoorChecked
import GoSem.Claim
import GoSem.ClaimJoined
import GoSem.ClaimMapViews
import Derived.JoinedTies
import Derived.KernelRfl
namespace Go.Proofs.YtfccnoccfhgcbaaGreatDoor
/- THE CELL 'sum', in the pinned program and in every row, IS THE sha256 OF THE DUMP (.gsa) THAT YtfccnoccfhgcbaaGreatDoorProg.lean LOADS. Nothing in Lean hashes anything: it is a label: what it is worth is what the hold of that sum in a sandbox is worth. -/
noncomputable def Tryz.pinned : Pinned := { name := "ytfccnoccfhgcbaagreatdoor", sum := "32f63740776a5c846067d2f413411140d233b1bf7c568e657a7c96019431e535", checked := Tryz.checked }
namespace Rows
def none {H : Type} : Left H := { results := [], args := [] }

/- WHAT THE LISTED PACKAGE-LEVEL VARIABLES READ AS WHEN THE CALL BEGINS. Each datum BY PROGRAM (the guide's laid-datum.mjs) off the statement by which the dump's own 'gosem.cut.vars' lays the variable. In a bare row this is a premise. The card (YtfccnoccfhgcbaaGreatDoorCards.lean) ties it to the program's text. -/
def laid_embrasure_view_players {H : Type} : DataW H := .agg [.lit (.int .i64 14), .lit (.int .i64 6), .lit (.int .i64 8)]
def laid_embrasure_view_shots {H : Type} : DataW H := .agg [.lit (.int .i64 10), .lit (.int .i64 9), .lit (.int .i64 64)]

/-- 'embrasurelaw18.ViewSees': WHATEVER THE INPUT: true; the input reads as it did. -/
def viewSeesSpec : ChangeSpec := { name := "viewSees", fn := fun _ => fun
  | [d1, d2, d3] => { results := [.lit (.bool true)], args := [d1, d2, d3] }
  | _ => none }
def viewSeesRow : OpenClaim := { program := "ytfccnoccfhgcbaagreatdoor", sum := "32f63740776a5c846067d2f413411140d233b1bf7c568e657a7c96019431e535", func := "embrasure/embrasurelaw18.ViewSees", spec := "viewSees", inPlace := ["math/bits.Add64", "slices.overlaps[embrasure/view.row]"], unfollowed := true, recurses := true, named := ["embrasure/view.players", "embrasure/view.shots"], apart := false, laid := [("embrasure/view.players", laid_embrasure_view_players), ("embrasure/view.shots", laid_embrasure_view_shots)] }
def ViewSeesSaid : Prop := viewSeesRow.holds Tryz.pinned (OpenSpec.ofChange viewSeesSpec)

/-- ITS FALSE NEIGHBOUR: 'it returns false'. Refute it at one input. -/
def viewSeesWrong : ChangeSpec := { name := "viewSees", fn := fun _ => fun
  | [d1, d2, d3] => { results := [.lit (.bool false)], args := [d1, d2, d3] }
  | _ => none }
def ViewSeesWrongFalsely : Prop := viewSeesRow.holds Tryz.pinned (OpenSpec.ofChange viewSeesWrong)

/-- 'embrasurelaw18.ViewWrites': WHATEVER THE INPUT: true; the input reads as it did. -/
def viewWritesSpec : ChangeSpec := { name := "viewWrites", fn := fun _ => fun
  | [d1, d2] => { results := [.lit (.bool true)], args := [d1, d2] }
  | _ => none }
def viewWritesRow : OpenClaim := { program := "ytfccnoccfhgcbaagreatdoor", sum := "32f63740776a5c846067d2f413411140d233b1bf7c568e657a7c96019431e535", func := "embrasure/embrasurelaw18.ViewWrites", spec := "viewWrites", inPlace := ["math/bits.Add64", "slices.overlaps[embrasure/view.row]"], unfollowed := true, recurses := true, named := ["embrasure/view.players", "embrasure/view.shots"], apart := false, laid := [("embrasure/view.players", laid_embrasure_view_players), ("embrasure/view.shots", laid_embrasure_view_shots)] }
def ViewWritesSaid : Prop := viewWritesRow.holds Tryz.pinned (OpenSpec.ofChange viewWritesSpec)

/-- ITS FALSE NEIGHBOUR: 'it returns false'. Refute it at one input. -/
def viewWritesWrong : ChangeSpec := { name := "viewWrites", fn := fun _ => fun
  | [d1, d2] => { results := [.lit (.bool false)], args := [d1, d2] }
  | _ => none }
def ViewWritesWrongFalsely : Prop := viewWritesRow.holds Tryz.pinned (OpenSpec.ofChange viewWritesWrong)

/-- 'embrasurelaw18.ViewReads': WHATEVER THE INPUT: true; the input reads as it did. -/
def viewReadsSpec : ChangeSpec := { name := "viewReads", fn := fun _ => fun
  | [d1, d2] => { results := [.lit (.bool true)], args := [d1, d2] }
  | _ => none }
def viewReadsRow : OpenClaim := { program := "ytfccnoccfhgcbaagreatdoor", sum := "32f63740776a5c846067d2f413411140d233b1bf7c568e657a7c96019431e535", func := "embrasure/embrasurelaw18.ViewReads", spec := "viewReads", inPlace := ["math/bits.Add64", "slices.overlaps[embrasure/view.row]"], unfollowed := true, recurses := true, named := ["embrasure/view.players", "embrasure/view.shots"], apart := false, laid := [("embrasure/view.players", laid_embrasure_view_players), ("embrasure/view.shots", laid_embrasure_view_shots)] }
def ViewReadsSaid : Prop := viewReadsRow.holds Tryz.pinned (OpenSpec.ofChange viewReadsSpec)

/-- ITS FALSE NEIGHBOUR: 'it returns false'. Refute it at one input. -/
def viewReadsWrong : ChangeSpec := { name := "viewReads", fn := fun _ => fun
  | [d1, d2] => { results := [.lit (.bool false)], args := [d1, d2] }
  | _ => none }
def ViewReadsWrongFalsely : Prop := viewReadsRow.holds Tryz.pinned (OpenSpec.ofChange viewReadsWrong)

/-- 'embrasurelaw18.ViewBack': WHATEVER THE INPUT: true; the input reads as it did. -/
def viewBackSpec : ChangeSpec := { name := "viewBack", fn := fun _ => fun
  | [d1, d2, d3, d4] => { results := [.lit (.bool true)], args := [d1, d2, d3, d4] }
  | _ => none }
def viewBackRow : OpenClaim := { program := "ytfccnoccfhgcbaagreatdoor", sum := "32f63740776a5c846067d2f413411140d233b1bf7c568e657a7c96019431e535", func := "embrasure/embrasurelaw18.ViewBack", spec := "viewBack", inPlace := ["math/bits.Add64", "slices.overlaps[embrasure/view.row]"], unfollowed := true, recurses := true, named := ["embrasure/view.players", "embrasure/view.shots"], apart := false, laid := [("embrasure/view.players", laid_embrasure_view_players), ("embrasure/view.shots", laid_embrasure_view_shots)] }
def ViewBackSaid : Prop := viewBackRow.holds Tryz.pinned (OpenSpec.ofChange viewBackSpec)

/-- ITS FALSE NEIGHBOUR: 'it returns false'. Refute it at one input. -/
def viewBackWrong : ChangeSpec := { name := "viewBack", fn := fun _ => fun
  | [d1, d2, d3, d4] => { results := [.lit (.bool false)], args := [d1, d2, d3, d4] }
  | _ => none }
def ViewBackWrongFalsely : Prop := viewBackRow.holds Tryz.pinned (OpenSpec.ofChange viewBackWrong)

/-- 'embrasurelaw18.ViewHidden': WHATEVER THE INPUT: true; the input reads as it did. -/
def viewHiddenSpec : ChangeSpec := { name := "viewHidden", fn := fun _ => fun
  | [d1, d2, d3, d4, d5] => { results := [.lit (.bool true)], args := [d1, d2, d3, d4, d5] }
  | _ => none }
def viewHiddenRow : OpenClaim := { program := "ytfccnoccfhgcbaagreatdoor", sum := "32f63740776a5c846067d2f413411140d233b1bf7c568e657a7c96019431e535", func := "embrasure/embrasurelaw18.ViewHidden", spec := "viewHidden", inPlace := ["math/bits.Add64", "slices.overlaps[embrasure/view.row]"], unfollowed := true, recurses := true, named := ["embrasure/view.players", "embrasure/view.shots"], apart := false, laid := [("embrasure/view.players", laid_embrasure_view_players), ("embrasure/view.shots", laid_embrasure_view_shots)] }
def ViewHiddenSaid : Prop := viewHiddenRow.holds Tryz.pinned (OpenSpec.ofChange viewHiddenSpec)

/-- ITS FALSE NEIGHBOUR: 'it returns false'. Refute it at one input. -/
def viewHiddenWrong : ChangeSpec := { name := "viewHidden", fn := fun _ => fun
  | [d1, d2, d3, d4, d5] => { results := [.lit (.bool false)], args := [d1, d2, d3, d4, d5] }
  | _ => none }
def ViewHiddenWrongFalsely : Prop := viewHiddenRow.holds Tryz.pinned (OpenSpec.ofChange viewHiddenWrong)

/-- 'embrasurelaw18.ViewBudget': WHATEVER THE INPUT: true; the input reads as it did. -/
def viewBudgetSpec : ChangeSpec := { name := "viewBudget", fn := fun _ => fun
  | [d1, d2, d3, d4] => { results := [.lit (.bool true)], args := [d1, d2, d3, d4] }
  | _ => none }
def viewBudgetRow : OpenClaim := { program := "ytfccnoccfhgcbaagreatdoor", sum := "32f63740776a5c846067d2f413411140d233b1bf7c568e657a7c96019431e535", func := "embrasure/embrasurelaw18.ViewBudget", spec := "viewBudget", inPlace := ["math/bits.Add64", "slices.overlaps[embrasure/view.row]"], unfollowed := true, recurses := true, named := ["embrasure/view.players", "embrasure/view.shots"], apart := false, laid := [("embrasure/view.players", laid_embrasure_view_players), ("embrasure/view.shots", laid_embrasure_view_shots)] }
def ViewBudgetSaid : Prop := viewBudgetRow.holds Tryz.pinned (OpenSpec.ofChange viewBudgetSpec)

/-- ITS FALSE NEIGHBOUR: 'it returns false'. Refute it at one input. -/
def viewBudgetWrong : ChangeSpec := { name := "viewBudget", fn := fun _ => fun
  | [d1, d2, d3, d4] => { results := [.lit (.bool false)], args := [d1, d2, d3, d4] }
  | _ => none }
def ViewBudgetWrongFalsely : Prop := viewBudgetRow.holds Tryz.pinned (OpenSpec.ofChange viewBudgetWrong)

/-- 'embrasurelaw18.ViewChain': WHATEVER THE INPUT: true; the input reads as it did. -/
def viewChainSpec : ChangeSpec := { name := "viewChain", fn := fun _ => fun
  | [d1, d2, d3] => { results := [.lit (.bool true)], args := [d1, d2, d3] }
  | _ => none }
def viewChainRow : OpenClaim := { program := "ytfccnoccfhgcbaagreatdoor", sum := "32f63740776a5c846067d2f413411140d233b1bf7c568e657a7c96019431e535", func := "embrasure/embrasurelaw18.ViewChain", spec := "viewChain", inPlace := ["math/bits.Add64", "slices.overlaps[embrasure/view.row]"], unfollowed := true, recurses := true, named := ["embrasure/view.players", "embrasure/view.shots"], apart := false, laid := [("embrasure/view.players", laid_embrasure_view_players), ("embrasure/view.shots", laid_embrasure_view_shots)] }
def ViewChainSaid : Prop := viewChainRow.holds Tryz.pinned (OpenSpec.ofChange viewChainSpec)

/-- ITS FALSE NEIGHBOUR: 'it returns false'. Refute it at one input. -/
def viewChainWrong : ChangeSpec := { name := "viewChain", fn := fun _ => fun
  | [d1, d2, d3] => { results := [.lit (.bool false)], args := [d1, d2, d3] }
  | _ => none }
def ViewChainWrongFalsely : Prop := viewChainRow.holds Tryz.pinned (OpenSpec.ofChange viewChainWrong)

/-- 'embrasurelaw18.ViewUnlike': WHATEVER THE INPUT: true; the input reads as it did. -/
def viewUnlikeSpec : ChangeSpec := { name := "viewUnlike", fn := fun _ => fun
  | [d1, d2, d3] => { results := [.lit (.bool true)], args := [d1, d2, d3] }
  | _ => none }
def viewUnlikeRow : OpenClaim := { program := "ytfccnoccfhgcbaagreatdoor", sum := "32f63740776a5c846067d2f413411140d233b1bf7c568e657a7c96019431e535", func := "embrasure/embrasurelaw18.ViewUnlike", spec := "viewUnlike", inPlace := ["math/bits.Add64", "slices.overlaps[embrasure/view.row]"], unfollowed := true, recurses := true, named := ["embrasure/view.players", "embrasure/view.shots"], apart := false, laid := [("embrasure/view.players", laid_embrasure_view_players), ("embrasure/view.shots", laid_embrasure_view_shots)] }
def ViewUnlikeSaid : Prop := viewUnlikeRow.holds Tryz.pinned (OpenSpec.ofChange viewUnlikeSpec)

/-- ITS FALSE NEIGHBOUR: 'it returns false'. Refute it at one input. -/
def viewUnlikeWrong : ChangeSpec := { name := "viewUnlike", fn := fun _ => fun
  | [d1, d2, d3] => { results := [.lit (.bool false)], args := [d1, d2, d3] }
  | _ => none }
def ViewUnlikeWrongFalsely : Prop := viewUnlikeRow.holds Tryz.pinned (OpenSpec.ofChange viewUnlikeWrong)

/-- 'embrasurelaw18.ViewOwn': WHATEVER THE INPUT: true; the input reads as it did. -/
def viewOwnSpec : ChangeSpec := { name := "viewOwn", fn := fun _ => fun
  | [d1, d2] => { results := [.lit (.bool true)], args := [d1, d2] }
  | _ => none }
def viewOwnRow : OpenClaim := { program := "ytfccnoccfhgcbaagreatdoor", sum := "32f63740776a5c846067d2f413411140d233b1bf7c568e657a7c96019431e535", func := "embrasure/embrasurelaw18.ViewOwn", spec := "viewOwn", inPlace := ["math/bits.Add64", "slices.overlaps[embrasure/view.row]"], unfollowed := true, recurses := true, named := ["embrasure/view.players", "embrasure/view.shots"], apart := false, laid := [("embrasure/view.players", laid_embrasure_view_players), ("embrasure/view.shots", laid_embrasure_view_shots)] }
def ViewOwnSaid : Prop := viewOwnRow.holds Tryz.pinned (OpenSpec.ofChange viewOwnSpec)

/-- ITS FALSE NEIGHBOUR: 'it returns false'. Refute it at one input. -/
def viewOwnWrong : ChangeSpec := { name := "viewOwn", fn := fun _ => fun
  | [d1, d2] => { results := [.lit (.bool false)], args := [d1, d2] }
  | _ => none }
def ViewOwnWrongFalsely : Prop := viewOwnRow.holds Tryz.pinned (OpenSpec.ofChange viewOwnWrong)

/-- 'embrasurelaw18.ViewGone': WHATEVER THE INPUT: true; the input reads as it did. -/
def viewGoneSpec : ChangeSpec := { name := "viewGone", fn := fun _ => fun
  | [d] => { results := [.lit (.bool true)], args := [d] }
  | _ => none }
def viewGoneRow : OpenClaim := { program := "ytfccnoccfhgcbaagreatdoor", sum := "32f63740776a5c846067d2f413411140d233b1bf7c568e657a7c96019431e535", func := "embrasure/embrasurelaw18.ViewGone", spec := "viewGone", inPlace := ["math/bits.Add64", "slices.overlaps[embrasure/view.row]"], unfollowed := true, recurses := true, named := ["embrasure/view.players", "embrasure/view.shots"], apart := false, laid := [("embrasure/view.players", laid_embrasure_view_players), ("embrasure/view.shots", laid_embrasure_view_shots)] }
def ViewGoneSaid : Prop := viewGoneRow.holds Tryz.pinned (OpenSpec.ofChange viewGoneSpec)

/-- ITS FALSE NEIGHBOUR: 'it returns false'. Refute it at one input. -/
def viewGoneWrong : ChangeSpec := { name := "viewGone", fn := fun _ => fun
  | [d] => { results := [.lit (.bool false)], args := [d] }
  | _ => none }
def ViewGoneWrongFalsely : Prop := viewGoneRow.holds Tryz.pinned (OpenSpec.ofChange viewGoneWrong)

/-- 'embrasurelaw18.ViewNearest': WHATEVER THE INPUT: true; the input reads as it did. -/
def viewNearestSpec : ChangeSpec := { name := "viewNearest", fn := fun _ => fun
  | [d1, d2, d3] => { results := [.lit (.bool true)], args := [d1, d2, d3] }
  | _ => none }
def viewNearestRow : OpenClaim := { program := "ytfccnoccfhgcbaagreatdoor", sum := "32f63740776a5c846067d2f413411140d233b1bf7c568e657a7c96019431e535", func := "embrasure/embrasurelaw18.ViewNearest", spec := "viewNearest", inPlace := ["math/bits.Add64", "slices.overlaps[embrasure/view.row]"], unfollowed := true, recurses := true, named := ["embrasure/view.players", "embrasure/view.shots"], apart := false, laid := [("embrasure/view.players", laid_embrasure_view_players), ("embrasure/view.shots", laid_embrasure_view_shots)] }
def ViewNearestSaid : Prop := viewNearestRow.holds Tryz.pinned (OpenSpec.ofChange viewNearestSpec)

/-- ITS FALSE NEIGHBOUR: 'it returns false'. Refute it at one input. -/
def viewNearestWrong : ChangeSpec := { name := "viewNearest", fn := fun _ => fun
  | [d1, d2, d3] => { results := [.lit (.bool false)], args := [d1, d2, d3] }
  | _ => none }
def ViewNearestWrongFalsely : Prop := viewNearestRow.holds Tryz.pinned (OpenSpec.ofChange viewNearestWrong)

/- THE SECOND FORM. 'bulk': how many values and letters a reading holds, each counted each time it is reached (what is shared counts as often as it is met; a slice's spare places count too). A statement '..UptoSaid' is the law's where the arguments, and the package variables that the reading takes, are together of bulk at most 1048576: NARROWER than '..Said'. Prove '..Said' where nothing that the law and all that it calls make is longer than what came in: it says more and counts as full. Else prove '..UptoSaid'. A law counts once. -/
mutual
def uptoBulk {H : Type} : DataW H → Nat
  | .lit (.string bytes) => bytes.length + 1
  | .lit _ => 1
  | .nil => 1
  | .ptr d => uptoBulk d + 1
  | .slice elems spare => uptoBulkAll elems + uptoBulkAll spare + 1
  | .agg parts => uptoBulkAll parts + 1
  | .iface _ d => uptoBulk d + 1
  | .map entries => uptoBulkEntries entries + 1
  | .held _ => 1
def uptoBulkAll {H : Type} : List (DataW H) → Nat
  | [] => 0
  | d :: r => uptoBulk d + uptoBulkAll r
def uptoBulkEntries {H : Type} : List (Lit × DataW H) → Nat
  | [] => 0
  | x :: r => uptoBulkEntry x + uptoBulkEntries r
def uptoBulkEntry {H : Type} : Lit × DataW H → Nat
  | (.string bytes, d) => bytes.length + uptoBulk d + 1
  | (_, d) => uptoBulk d + 1
 end
def uptoSmall : (H : Type) → List (DataW H) → Bool := fun _ ds => decide (uptoBulkAll ds ≤ 1048576)
def OpenSpec.upto (s : _root_.Go.ChangeSpec) : _root_.Go.OpenSpec := { _root_.Go.OpenSpec.ofChange s with cond := some uptoSmall }

/-- 'embrasurelaw18.ViewSees', WHERE WHAT IT READS IS OF BULK AT MOST 1048576: true; the input reads as it did. -/
def viewSeesUptoRow : OpenClaim := { program := "ytfccnoccfhgcbaagreatdoor", sum := "32f63740776a5c846067d2f413411140d233b1bf7c568e657a7c96019431e535", func := "embrasure/embrasurelaw18.ViewSees", spec := "viewSees", inPlace := ["math/bits.Add64", "slices.overlaps[embrasure/view.row]"], unfollowed := true, recurses := true, named := ["embrasure/view.players", "embrasure/view.shots"], apart := false, laid := [("embrasure/view.players", laid_embrasure_view_players), ("embrasure/view.shots", laid_embrasure_view_shots)], narrowed := true }
def ViewSeesUptoSaid : Prop := viewSeesUptoRow.holds Tryz.pinned (OpenSpec.upto viewSeesSpec)

/-- 'embrasurelaw18.ViewWrites', WHERE WHAT IT READS IS OF BULK AT MOST 1048576: true; the input reads as it did. -/
def viewWritesUptoRow : OpenClaim := { program := "ytfccnoccfhgcbaagreatdoor", sum := "32f63740776a5c846067d2f413411140d233b1bf7c568e657a7c96019431e535", func := "embrasure/embrasurelaw18.ViewWrites", spec := "viewWrites", inPlace := ["math/bits.Add64", "slices.overlaps[embrasure/view.row]"], unfollowed := true, recurses := true, named := ["embrasure/view.players", "embrasure/view.shots"], apart := false, laid := [("embrasure/view.players", laid_embrasure_view_players), ("embrasure/view.shots", laid_embrasure_view_shots)], narrowed := true }
def ViewWritesUptoSaid : Prop := viewWritesUptoRow.holds Tryz.pinned (OpenSpec.upto viewWritesSpec)

/-- 'embrasurelaw18.ViewReads', WHERE WHAT IT READS IS OF BULK AT MOST 1048576: true; the input reads as it did. -/
def viewReadsUptoRow : OpenClaim := { program := "ytfccnoccfhgcbaagreatdoor", sum := "32f63740776a5c846067d2f413411140d233b1bf7c568e657a7c96019431e535", func := "embrasure/embrasurelaw18.ViewReads", spec := "viewReads", inPlace := ["math/bits.Add64", "slices.overlaps[embrasure/view.row]"], unfollowed := true, recurses := true, named := ["embrasure/view.players", "embrasure/view.shots"], apart := false, laid := [("embrasure/view.players", laid_embrasure_view_players), ("embrasure/view.shots", laid_embrasure_view_shots)], narrowed := true }
def ViewReadsUptoSaid : Prop := viewReadsUptoRow.holds Tryz.pinned (OpenSpec.upto viewReadsSpec)

/-- 'embrasurelaw18.ViewBack', WHERE WHAT IT READS IS OF BULK AT MOST 1048576: true; the input reads as it did. -/
def viewBackUptoRow : OpenClaim := { program := "ytfccnoccfhgcbaagreatdoor", sum := "32f63740776a5c846067d2f413411140d233b1bf7c568e657a7c96019431e535", func := "embrasure/embrasurelaw18.ViewBack", spec := "viewBack", inPlace := ["math/bits.Add64", "slices.overlaps[embrasure/view.row]"], unfollowed := true, recurses := true, named := ["embrasure/view.players", "embrasure/view.shots"], apart := false, laid := [("embrasure/view.players", laid_embrasure_view_players), ("embrasure/view.shots", laid_embrasure_view_shots)], narrowed := true }
def ViewBackUptoSaid : Prop := viewBackUptoRow.holds Tryz.pinned (OpenSpec.upto viewBackSpec)

/-- 'embrasurelaw18.ViewHidden', WHERE WHAT IT READS IS OF BULK AT MOST 1048576: true; the input reads as it did. -/
def viewHiddenUptoRow : OpenClaim := { program := "ytfccnoccfhgcbaagreatdoor", sum := "32f63740776a5c846067d2f413411140d233b1bf7c568e657a7c96019431e535", func := "embrasure/embrasurelaw18.ViewHidden", spec := "viewHidden", inPlace := ["math/bits.Add64", "slices.overlaps[embrasure/view.row]"], unfollowed := true, recurses := true, named := ["embrasure/view.players", "embrasure/view.shots"], apart := false, laid := [("embrasure/view.players", laid_embrasure_view_players), ("embrasure/view.shots", laid_embrasure_view_shots)], narrowed := true }
def ViewHiddenUptoSaid : Prop := viewHiddenUptoRow.holds Tryz.pinned (OpenSpec.upto viewHiddenSpec)

/-- 'embrasurelaw18.ViewBudget', WHERE WHAT IT READS IS OF BULK AT MOST 1048576: true; the input reads as it did. -/
def viewBudgetUptoRow : OpenClaim := { program := "ytfccnoccfhgcbaagreatdoor", sum := "32f63740776a5c846067d2f413411140d233b1bf7c568e657a7c96019431e535", func := "embrasure/embrasurelaw18.ViewBudget", spec := "viewBudget", inPlace := ["math/bits.Add64", "slices.overlaps[embrasure/view.row]"], unfollowed := true, recurses := true, named := ["embrasure/view.players", "embrasure/view.shots"], apart := false, laid := [("embrasure/view.players", laid_embrasure_view_players), ("embrasure/view.shots", laid_embrasure_view_shots)], narrowed := true }
def ViewBudgetUptoSaid : Prop := viewBudgetUptoRow.holds Tryz.pinned (OpenSpec.upto viewBudgetSpec)

/-- 'embrasurelaw18.ViewChain', WHERE WHAT IT READS IS OF BULK AT MOST 1048576: true; the input reads as it did. -/
def viewChainUptoRow : OpenClaim := { program := "ytfccnoccfhgcbaagreatdoor", sum := "32f63740776a5c846067d2f413411140d233b1bf7c568e657a7c96019431e535", func := "embrasure/embrasurelaw18.ViewChain", spec := "viewChain", inPlace := ["math/bits.Add64", "slices.overlaps[embrasure/view.row]"], unfollowed := true, recurses := true, named := ["embrasure/view.players", "embrasure/view.shots"], apart := false, laid := [("embrasure/view.players", laid_embrasure_view_players), ("embrasure/view.shots", laid_embrasure_view_shots)], narrowed := true }
def ViewChainUptoSaid : Prop := viewChainUptoRow.holds Tryz.pinned (OpenSpec.upto viewChainSpec)

/-- 'embrasurelaw18.ViewUnlike', WHERE WHAT IT READS IS OF BULK AT MOST 1048576: true; the input reads as it did. -/
def viewUnlikeUptoRow : OpenClaim := { program := "ytfccnoccfhgcbaagreatdoor", sum := "32f63740776a5c846067d2f413411140d233b1bf7c568e657a7c96019431e535", func := "embrasure/embrasurelaw18.ViewUnlike", spec := "viewUnlike", inPlace := ["math/bits.Add64", "slices.overlaps[embrasure/view.row]"], unfollowed := true, recurses := true, named := ["embrasure/view.players", "embrasure/view.shots"], apart := false, laid := [("embrasure/view.players", laid_embrasure_view_players), ("embrasure/view.shots", laid_embrasure_view_shots)], narrowed := true }
def ViewUnlikeUptoSaid : Prop := viewUnlikeUptoRow.holds Tryz.pinned (OpenSpec.upto viewUnlikeSpec)

/-- 'embrasurelaw18.ViewOwn', WHERE WHAT IT READS IS OF BULK AT MOST 1048576: true; the input reads as it did. -/
def viewOwnUptoRow : OpenClaim := { program := "ytfccnoccfhgcbaagreatdoor", sum := "32f63740776a5c846067d2f413411140d233b1bf7c568e657a7c96019431e535", func := "embrasure/embrasurelaw18.ViewOwn", spec := "viewOwn", inPlace := ["math/bits.Add64", "slices.overlaps[embrasure/view.row]"], unfollowed := true, recurses := true, named := ["embrasure/view.players", "embrasure/view.shots"], apart := false, laid := [("embrasure/view.players", laid_embrasure_view_players), ("embrasure/view.shots", laid_embrasure_view_shots)], narrowed := true }
def ViewOwnUptoSaid : Prop := viewOwnUptoRow.holds Tryz.pinned (OpenSpec.upto viewOwnSpec)

/-- 'embrasurelaw18.ViewGone', WHERE WHAT IT READS IS OF BULK AT MOST 1048576: true; the input reads as it did. -/
def viewGoneUptoRow : OpenClaim := { program := "ytfccnoccfhgcbaagreatdoor", sum := "32f63740776a5c846067d2f413411140d233b1bf7c568e657a7c96019431e535", func := "embrasure/embrasurelaw18.ViewGone", spec := "viewGone", inPlace := ["math/bits.Add64", "slices.overlaps[embrasure/view.row]"], unfollowed := true, recurses := true, named := ["embrasure/view.players", "embrasure/view.shots"], apart := false, laid := [("embrasure/view.players", laid_embrasure_view_players), ("embrasure/view.shots", laid_embrasure_view_shots)], narrowed := true }
def ViewGoneUptoSaid : Prop := viewGoneUptoRow.holds Tryz.pinned (OpenSpec.upto viewGoneSpec)

/-- 'embrasurelaw18.ViewNearest', WHERE WHAT IT READS IS OF BULK AT MOST 1048576: true; the input reads as it did. -/
def viewNearestUptoRow : OpenClaim := { program := "ytfccnoccfhgcbaagreatdoor", sum := "32f63740776a5c846067d2f413411140d233b1bf7c568e657a7c96019431e535", func := "embrasure/embrasurelaw18.ViewNearest", spec := "viewNearest", inPlace := ["math/bits.Add64", "slices.overlaps[embrasure/view.row]"], unfollowed := true, recurses := true, named := ["embrasure/view.players", "embrasure/view.shots"], apart := false, laid := [("embrasure/view.players", laid_embrasure_view_players), ("embrasure/view.shots", laid_embrasure_view_shots)], narrowed := true }
def ViewNearestUptoSaid : Prop := viewNearestUptoRow.holds Tryz.pinned (OpenSpec.upto viewNearestSpec)

end Rows
end Go.Proofs.YtfccnoccfhgcbaaGreatDoor
