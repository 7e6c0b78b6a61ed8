/- What the laws on views share: each function of the program that they reach, what it computes; no conditions beyond those that each theorem states. -/
import Derived.WalkKit
import Derived.OrdersHeld
import Derived.Deep.LoopGhost
import Derived.Deep.RegionHeld3
import Derived.Test.YtfccnoccfhgcbaaGreatDoorProg
import Derived.Lib.Mul64
import Derived.Laws.BitsLemmas
import Derived.Laws.MathBits
import Derived.Laws.Externs
import Derived.Laws.StructEq
set_option linter.unusedVariables false
set_option linter.unusedSimpArgs false
set_option maxRecDepth 20000
set_option maxHeartbeats 400000
namespace Go.Proofs.YtfccnoccfhgcbaaGreatDoor
open Go Go.RowKit

/-! ### The frame -/
abbrev Slots := List (Nat × Value)
def look : Slots → Nat → Option Value
 | [], _ => none
 | (k, v) :: r, t => match Nat.beq k t with
  | true => some v
  | false => look r t
def Has (n : Nat) (a : Act) (L : Slots) : Prop := a.tmps.size = n ∧ a.defers = [] ∧ ∀ t v, look L t = some v → a.tmps.getD t undef = v
def opv (L : Slots) : Operand → Option Value
 | .tmp t => look L t
 | .const v => some v
 | .global g => some (.pointer (some ⟨g, 0, none⟩))
 | .func f => some (.func (.func f) #[] #[])
def opvs (L : Slots) : List Operand → Option (List Value)
 | [] => some []
 | x :: r => match opv L x with
  | none => none
  | some v => match opvs L r with
   | none => none
   | some vs => some (v :: vs)
section
variable {n : Nat} {a : Act} {L L' : Slots}
theorem Has.eval {x : Operand} {v : Value} (h : Has n a L) (e : opv L x = some v) : a.eval x = v := by
 cases x with
 | tmp t => exact h.2.2 t v e
 | const u => exact Option.some.inj e
 | global g => exact Option.some.inj e
 | func f => exact Option.some.inj e
theorem Has.evals (h : Has n a L) : ∀ {xs : List Operand} {vs : List Value}, opvs L xs = some vs → xs.map a.eval = vs := by
 intro xs
 induction xs with
 | nil => intro vs e; exact Option.some.inj e
 | cons x r ih =>
  intro vs e
  simp only [opvs] at e
  cases hx : opv L x with
  | none => simp [hx] at e
  | some v =>
   cases hr : opvs L r with
   | none => simp [hx, hr] at e
   | some us =>
    simp [hx, hr] at e
    rw [List.map_cons, h.eval hx, ih hr, ← e]
theorem Has.put {d : Nat} {v : Value} (h : Has n a L) (hd : Nat.blt d n = true) : Has n (a.put (some d) v) ((d, v) :: L) := by
 have hd' : d < n := by simpa [Nat.blt_eq] using hd
 obtain ⟨h1, h2, h3⟩ := h
 refine ⟨by simp [Act.put, h1], by simp [Act.put, h2], fun t u e => ?_⟩
 simp only [look] at e
 simp only [Act.put]
 cases hb : Nat.beq d t with
 | true =>
  rw [hb] at e
  have : d = t := Nat.eq_of_beq_eq_true hb
  subst this
  have e' : v = u := by simpa using e
  rw [← e']
  simp [h1, hd']
 | false =>
  rw [hb] at e
  have hne : d ≠ t := fun he => by subst he; simp at hb
  have := h3 t u (by simpa using e)
  rw [← this]
  simp [Array.getElem?_setIfInBounds_ne hne]
/-- What is known of fewer slots. -/
theorem Has.weaken (h : Has n a L) (hl : ∀ t v, look L' t = some v → look L t = some v) : Has n a L' := ⟨h.1, h.2.1, fun t v e => h.2.2 t v (hl t v e)⟩
inductive Sub (L : Slots) : Slots → Prop
 | nil : Sub L []
 | cons {k : Nat} {v : Value} {r : Slots} : Go.Proofs.YtfccnoccfhgcbaaGreatDoor.look L k = some v → Sub L r → Sub L ((k, v) :: r)
theorem Sub.look {L : Slots} : ∀ {L' : Slots}, Sub L L' → ∀ t v, look L' t = some v → Go.Proofs.YtfccnoccfhgcbaaGreatDoor.look L t = some v
 | _, .nil, t, v, e => by simp [Go.Proofs.YtfccnoccfhgcbaaGreatDoor.look] at e
 | _, .cons (k := k) (v := u) (r := r) h1 h2, t, v, e => by
  simp only [Go.Proofs.YtfccnoccfhgcbaaGreatDoor.look] at e
  cases hb : Nat.beq k t with
  | true =>
   rw [hb] at e
   have : k = t := Nat.eq_of_beq_eq_true hb
   subst this
   rw [h1]
   simpa using e
  | false => rw [hb] at e; exact Sub.look h2 t v (by simpa using e)
end

/-! ### The memory -/
/-- What a call owns: a block written out; a row of its own that is appended to; anything else with its blocks. -/
inductive Ent where
 | blk (b : Nat) (vs : List Value) (t : TypeId)
 | row (e : TypeId) (sz : Nat) (a : Option Addr) (n cap : Nat) (xs : List Value)
 | abs (fp : Nat → Prop) (ok : World → Prop)
def Ent.fp : Ent → Nat → Prop
 | .blk b _ _ => fun k => k = b
 | .row _ _ a _ _ _ => fun k => a.map (·.block) = some k
 | .abs f _ => f
def Ent.ok : Ent → World → Prop
 | .blk b vs t => fun w => w.heap[b]? = some (.cells vs.toArray t (0, 0))
 | .row e sz a n cap xs => fun w => w.ownsRow 0 e sz (.slice a n cap) n xs
 | .abs _ ok => ok
/-- An entry hangs on its own blocks alone. -/
def Ent.loc (e : Ent) : Prop := ∀ w w' : World, (∀ b, e.fp b → w'.heap[b]? = w.heap[b]?) → e.ok w → e.ok w'
theorem Ent.loc_blk (b : Nat) (vs : List Value) (t : TypeId) : (Ent.blk b vs t).loc := fun _ _ h hk => (h b rfl).trans hk
theorem Ent.loc_row (e : TypeId) (sz : Nat) (a : Option Addr) (n cap : Nat) (xs : List Value) : (Ent.row e sz a n cap xs).loc := by
 intro w w' h hk
 obtain ⟨h1, h2⟩ := hk
 refine ⟨h1, ?_⟩
 rcases h2 with h2 | ⟨g, cap', cur, hv, hg, hh, r⟩
 ·exact .inl h2
 ·refine .inr ⟨g, cap', cur, hv, hg, ?_, r⟩
  have : a = some ⟨g, 0, none⟩ := by injection hv
  rw [h g (by simp [Ent.fp, this])]
  exact hh
def Ent.apart (e f : Ent) : Prop := ∀ b, e.fp b → ¬ f.fp b
theorem Ent.apart.symm {e f : Ent} (h : e.apart f) : f.apart e := fun b hf he => h b he hf

/-- Outside 'M' all that was there in 'w0' is as1 it was; the entries hold, and lie apart. -/
structure St (w0 : World) (M : Nat → Prop) (E : List Ent) (w : World) : Prop where
 os : w.os = w0.os
 tape : w.tape = w0.tape
 output : w.output = w0.output
 size : w0.heap.size ≤ w.heap.size
 base : ∀ b, b < w0.heap.size → ¬ M b → w.heap[b]? = w0.heap[b]?
 ents : ∀ e ∈ E, e.loc ∧ e.ok w ∧ ∀ b, e.fp b → b < w.heap.size ∧ (M b ∨ w0.heap.size ≤ b)
 pair : E.Pairwise Ent.apart
def nix : Nat → Prop := fun _ => False
def fpOf (E : List Ent) : Nat → Prop := fun b => ∃ e ∈ E, e.fp b

section
variable {w0 w w' : World} {M : Nat → Prop} {E E' : List Ent}
theorem St.start (w : World) (M : Nat → Prop) : St w M [] w := ⟨rfl, rfl, rfl, Nat.le_refl _, fun _ _ _ => rfl, (fun _ h => by cases h), List.Pairwise.nil⟩
theorem St.below (h : St w0 nix E w) : Below w0.heap.size w0 w := ⟨h.os, h.tape, h.output, h.size, fun k hk => h.base k hk (fun h => h)⟩
theorem St.drawn (h : St w0 M E w) (k : Nat) : St w0 M E { w with drawn := k } := by
 refine ⟨h.os, h.tape, h.output, h.size, h.base, fun e he => ?_, h.pair⟩
 obtain ⟨h1, h2, h3⟩ := h.ents e he
 exact ⟨h1, h1 w _ (fun _ _ => rfl) h2, h3⟩
/-- The world is the old one but for the draws. -/
theorem St.of_heap (h : St w0 M E w) (h1 : w'.heap = w.heap) (h2 : w'.os = w.os) (h3 : w'.tape = w.tape) (h4 : w'.output = w.output) : St w0 M E w' := by
 refine ⟨h2.trans h.os, h3.trans h.tape, h4.trans h.output, by rw [h1]; exact h.size, by rw [h1]; exact h.base, fun e he => ?_, h.pair⟩
 obtain ⟨k1, k2, k3⟩ := h.ents e he
 exact ⟨k1, k1 w _ (fun _ _ => by rw [h1]) k2, by rw [h1]; exact k3⟩
/-- Fewer entries. -/
theorem St.sub (h : St w0 M E w) (hs : E'.Sublist E) : St w0 M E' w :=
 ⟨h.os, h.tape, h.output, h.size, h.base, fun e he => h.ents e (hs.subset he), h.pair.sublist hs⟩
theorem St.sb (h : St w0 M E w) (hs : E'.Sublist E := by repeat (first | exact List.Sublist.refl _ | exact List.nil_sublist _ | apply List.Sublist.cons_cons | apply List.Sublist.cons)) : St w0 M E' w := h.sub hs
theorem St.perm (h : St w0 M E w) (hs : E'.Perm E) : St w0 M E' w :=
 ⟨h.os, h.tape, h.output, h.size, h.base, fun e he => h.ents e (hs.subset he), h.pair.perm hs.symm (fun h => h.symm)⟩
/-- One entry more, of blocks that are new (or may be written), apart from the others. -/
theorem St.add {e : Ent} (h : St w0 M E w) (hl : e.loc) (hk : e.ok w) (hf : ∀ b, e.fp b → b < w.heap.size ∧ (M b ∨ w0.heap.size ≤ b)) (ha : ∀ f ∈ E, e.apart f) : St w0 M (e :: E) w :=
 ⟨h.os, h.tape, h.output, h.size, h.base, fun f hm => by rcases List.mem_cons.1 hm with rfl | hm; exact ⟨hl, hk, hf⟩; exact h.ents f hm, .cons ha h.pair⟩
/-- A change of one entry's blocks alone. -/
theorem St.change {e e' : Ent} (h : St w0 M (e :: E) w) (hos : w'.os = w.os) (htape : w'.tape = w.tape) (hout : w'.output = w.output) (hsz : w.heap.size ≤ w'.heap.size)
  (hb : ∀ b, b < w.heap.size → ¬ e.fp b → w'.heap[b]? = w.heap[b]?) (hl : e'.loc) (hk : e'.ok w') (hf : ∀ b, e'.fp b → b < w'.heap.size ∧ (e.fp b ∨ w.heap.size ≤ b)) : St w0 M (e' :: E) w' := by
 have he := h.ents e (by simp)
 have hp := List.pairwise_cons.1 h.pair
 refine ⟨hos.trans h.os, htape.trans h.tape, hout.trans h.output, Nat.le_trans h.size hsz, fun b hb0 hM => ?_, fun f hm => ?_, .cons (fun f hm b h1 h2 => ?_) hp.2⟩
 ·have h1 := h.size
  rw [hb b (by omega) (fun hfp => by rcases (he.2.2 b hfp).2 with h2 | h2; exact hM h2; omega)]
  exact h.base b hb0 hM
 ·rcases List.mem_cons.1 hm with rfl | hm
  ·refine ⟨hl, hk, fun b hfp => ⟨(hf b hfp).1, ?_⟩⟩
   rcases (hf b hfp).2 with h1 | h1
   ·exact (he.2.2 b h1).2
   ·exact .inr (Nat.le_trans h.size h1)
  ·obtain ⟨k1, k2, k3⟩ := h.ents f (List.mem_cons_of_mem _ hm)
   refine ⟨k1, k1 w _ (fun b hfp => hb b (k3 b hfp).1 (fun h1 => hp.1 f hm b h1 hfp)) k2, fun b hfp => ⟨Nat.lt_of_lt_of_le (k3 b hfp).1 hsz, (k3 b hfp).2⟩⟩
 ·rcases (hf b h1).2 with h3 | h3
  ·exact hp.1 f hm b h3 h2
  ·have := (h.ents f (List.mem_cons_of_mem _ hm)).2.2 b h2
   omega
/-- The frame rule. -/
theorem St.frame {Ec Ec' : List Ent} (h : St w0 M (Ec ++ E) w) (hc : St w (fpOf Ec) Ec' w') : St w0 M (Ec' ++ E) w' := by
 have hp := List.pairwise_append.1 h.pair
 have hcM : ∀ b, fpOf Ec b → b < w.heap.size ∧ (M b ∨ w0.heap.size ≤ b) := fun b ⟨e, he, hb⟩ => (h.ents e (List.mem_append_left _ he)).2.2 b hb
 have hnot : ∀ f ∈ E, ∀ b, f.fp b → ¬ fpOf Ec b := fun f hf b hb ⟨e, he, heb⟩ => hp.2.2 e he f hf b heb hb
 refine ⟨hc.os.trans h.os, hc.tape.trans h.tape, hc.output.trans h.output, Nat.le_trans h.size hc.size, fun b hb0 hM => ?_, fun f hm => ?_, List.pairwise_append.2 ⟨hc.pair, hp.2.1, fun e he f hf b h1 h2 => ?_⟩⟩
 ·have h1 := h.size
  rw [hc.base b (by omega) (fun hfp => by rcases (hcM b hfp).2 with h2 | h2; exact hM h2; omega)]
  exact h.base b hb0 hM
 ·rcases List.mem_append.1 hm with hm | hm
  ·obtain ⟨k1, k2, k3⟩ := hc.ents f hm
   refine ⟨k1, k2, fun b hb => ⟨(k3 b hb).1, ?_⟩⟩
   rcases (k3 b hb).2 with h1 | h1
   ·exact (hcM b h1).2
   ·exact .inr (Nat.le_trans h.size h1)
  ·obtain ⟨k1, k2, k3⟩ := h.ents f (List.mem_append_right _ hm)
   refine ⟨k1, k1 w _ (fun b hb => hc.base b (k3 b hb).1 (hnot f hm b hb)) k2, fun b hb => ⟨Nat.lt_of_lt_of_le (k3 b hb).1 hc.size, (k3 b hb).2⟩⟩
 ·rcases ((hc.ents e he).2.2 b h1).2 with h3 | h3
  ·exact hnot f hf b h2 h3
  ·have := (h.ents f (List.mem_append_right _ hf)).2.2 b h2
   omega
/-- The caller's entries as1 the callee's own beginning. -/
theorem St.own {Ec : List Ent} (h : St w0 M (Ec ++ E) w) : St w (fpOf Ec) Ec w :=
 ⟨rfl, rfl, rfl, Nat.le_refl _, fun _ _ _ => rfl, fun e he => by
  obtain ⟨k1, k2, k3⟩ := h.ents e (List.mem_append_left _ he)
  exact ⟨k1, k2, fun b hb => ⟨(k3 b hb).1, .inl ⟨e, he, hb⟩⟩⟩, (List.pairwise_append.1 h.pair).1⟩
theorem St.blk {b : Nat} {vs : List Value} {t : TypeId} (h : St w0 M E w) (hm : Ent.blk b vs t ∈ E) : w.heap[b]? = some (.cells vs.toArray t (0, 0)) := (h.ents _ hm).2.1
theorem St.alloc (h : St w0 M E w) (vs : List Value) (t : TypeId) : St w0 M (.blk w.heap.size vs t :: E) (w.alloc (.cells vs.toArray t)) := by
 have h0 : St w0 M E (w.alloc (.cells vs.toArray t)) := by
  refine ⟨h.os, h.tape, h.output, by simp; exact Nat.le_succ_of_le h.size, fun b hb hM => ?_, fun e he => ?_, h.pair⟩
  ·have := h.size
   rw [Below.heap_alloc _ _ _ (by omega)]
   exact h.base b hb hM
  ·obtain ⟨k1, k2, k3⟩ := h.ents e he
   refine ⟨k1, k1 w _ (fun b hb => Below.heap_alloc _ _ _ (k3 b hb).1) k2, fun b hb => ⟨?_, (k3 b hb).2⟩⟩
   have := (k3 b hb).1
   simp
   omega
 refine h0.add (Ent.loc_blk _ _ _) ?_ ?_ ?_
 ·show ((w.heap.push _)[w.heap.size]? = _)
  simp
 ·rintro b rfl
  exact ⟨by simp, .inr h.size⟩
 ·rintro f hf b rfl hfb
  have := ((h.ents f hf).2.2 _ hfb).1
  omega
end
end Go.Proofs.YtfccnoccfhgcbaaGreatDoor
namespace Go.Proofs.YtfccnoccfhgcbaaGreatDoor
open Go Go.RowKit

/-! ### Judgements -/
def WL (P : Program) (ops : Array Oper) (Q : Exit → Act → World → Prop) (n : Nat) (rest : List Oper) (w0 : World) (M : Nat → Prop) (E : List Ent) (L : Slots) : Prop :=
 ∀ a w, Has n a L → St w0 M E w → wpList P ops Q rest a w
def WC (P : Program) (Q : Exit → Act → World → Prop) (n : Nat) (c : Code) (w0 : World) (M : Nat → Prop) (E : List Ent) (L : Slots) : Prop :=
 ∀ a w, Has n a L → St w0 M E w → c.wp P Q a w
def Fin (Q : Exit → Act → World → Prop) (e : Exit) (n : Nat) (w0 : World) (M : Nat → Prop) (E : List Ent) (L : Slots) : Prop :=
 ∀ a w, Has n a L → St w0 M E w → Q e a w
def Rd (P : Program) (S : World → Prop) (n : Nat) (L : Slots) (o : Oper) (v : Value) : Prop :=
 ∀ a w, Has n a L → S w → (execOp a.eval o).run P w = .ok (.value v) w
/-- An operation that turns the state. -/
def Ef (P : Program) (n : Nat) (w0 : World) (M : Nat → Prop) (E : List Ent) (L : Slots) (o : Oper) (C : (Act → World → Prop) → Prop) : Prop :=
 ∀ (K : Act → World → Prop) Q a w, C K → Has n a L → St w0 M E w → o.wp P a w K Q
def To (n : Nat) (w0 : World) (M : Nat → Prop) (E : List Ent) (L : Slots) (K : Act → World → Prop) : Prop := ∀ a w, Has n a L → St w0 M E w → K a w

section
variable {P : Program} {ops : Array Oper} {Q Q' : Exit → Act → World → Prop} {n : Nat} {rest : List Oper} {w0 : World} {M : Nat → Prop} {E E' : List Ent} {L L' : Slots}
 {op : Op} {ty d : Nat} {pos : String} {af : Array Edge} {v : Value}

theorem sq (hr : Rd P (St w0 M E) n L ⟨some d, op, ty, pos, af, none⟩ v) (hn : Nat.blt d n = true) (k : WL P ops Q n rest w0 M E ((d, v) :: L)) :
  WL P ops Q n (⟨some d, op, ty, pos, af, none⟩ :: rest) w0 M E L := by
 intro a w hA hS
 refine wpList_plain rfl fun K hK => ?_
 unfold Oper.wp
 rw [hr a w hA hS]
 exact hK _ _ (k _ _ (hA.put hn) hS)
/-- A value that nobody looks at. -/
theorem sq0 (hr : Rd P (St w0 M E) n L ⟨none, op, ty, pos, af, none⟩ v) (k : WL P ops Q n rest w0 M E L) :
  WL P ops Q n (⟨none, op, ty, pos, af, none⟩ :: rest) w0 M E L := by
 intro a w hA hS
 refine wpList_plain rfl fun K hK => ?_
 unfold Oper.wp
 rw [hr a w hA hS]
 exact hK _ _ (k _ _ hA hS)
theorem se {o : Oper} (he : Ef P n w0 M E L o (fun K => To n w0 M E' L' K)) (hg : o.guard = none) (k : WL P ops Q n rest w0 M E' L') : WL P ops Q n (o :: rest) w0 M E L := by
 intro a w hA hS
 exact wpList_plain hg fun K hK => he K _ a w (fun a w h1 h2 => hK _ _ (k a w h1 h2)) hA hS
theorem sx {α : Type} {o : Oper} {Φ : α → Prop} {E1 : α → List Ent} {L1 : α → Slots} (he : Ef P n w0 M E L o (fun K => ∀ x, Φ x → To n w0 M (E1 x) (L1 x) K)) (hg : o.guard = none)
  (k : ∀ x, Φ x → WL P ops Q n rest w0 M (E1 x) (L1 x)) : WL P ops Q n (o :: rest) w0 M E L := by
 intro a w hA hS
 exact wpList_plain hg fun K hK => he K _ a w (fun x hx a w h1 h2 => hK _ _ (k x hx a w h1 h2)) hA hS
/-- A guarded operation whose guard says no. -/
theorem sg0 {j : Nat} {b : Bool} (hy : ∀ a, Has n a L → Region.wanted ⟨some d, op, ty, pos, af, some (j, b)⟩ (yielded ops a.tmps) = false) (hn : Nat.blt d n = true) (k : WL P ops Q n rest w0 M E ((d, undef) :: L)) :
  WL P ops Q n (⟨some d, op, ty, pos, af, some (j, b)⟩ :: rest) w0 M E L := by
 intro a w hA hS
 unfold wpList
 rw [if_neg (by rw [hy a hA]; simp)]
 exact k _ _ (hA.put hn) hS
/-- A guarded operation whose guard says yes. -/
theorem sg1 {j : Nat} {b : Bool} (hy : ∀ a, Has n a L → Region.wanted ⟨some d, op, ty, pos, af, some (j, b)⟩ (yielded ops a.tmps) = true) (hr : Rd P (St w0 M E) n L ⟨some d, op, ty, pos, af, some (j, b)⟩ v) (hn : Nat.blt d n = true) (k : WL P ops Q n rest w0 M E ((d, v) :: L)) :
  WL P ops Q n (⟨some d, op, ty, pos, af, some (j, b)⟩ :: rest) w0 M E L := by
 intro a w hA hS
 unfold wpList
 rw [if_pos (hy a hA)]
 refine .inl ?_
 unfold Oper.wp
 rw [hr a w hA hS]
 exact k _ _ (hA.put hn) hS
theorem s_end (k : Fin Q .normal n w0 M E L) : WL P ops Q n [] w0 M E L := fun a w hA hS => wpList_nil (k a w hA hS)
theorem s_know {p : Prop} (h : ∀ w, St w0 M E w → p) (k : p → WL P ops Q n rest w0 M E L) : WL P ops Q n rest w0 M E L := fun a w hA hS => k (h w hS) a w hA hS
theorem s_keep (hs : Sub L L') (k : WL P ops Q n rest w0 M E L') : WL P ops Q n rest w0 M E L := fun a w hA hS => k a w (hA.weaken hs.look) hS
theorem s_ents (hs : ∀ w, St w0 M E w → St w0 M E' w) (k : WL P ops Q n rest w0 M E' L) : WL P ops Q n rest w0 M E L := fun a w hA hS => k a w hA (hs w hS)

/-! ### Code -/
theorem c_reg {id : Nat} {l : List Oper} (k : WL P l.toArray Q n l w0 M E L) : WC P Q n (.region id l.toArray false) w0 M E L := fun a w hA hS => wp_region_lit (k a w hA hS)
theorem c_seq {x y : Code} (k : WC P (Exit.then (y.wp P Q) Q) n x w0 M E L) : WC P Q n (.seq x y) w0 M E L := fun a w hA hS => wp_seq (k a w hA hS)
theorem c_skip (k : Fin Q .normal n w0 M E L) : WC P Q n .skip w0 M E L := fun a w hA hS => wp_skip (k a w hA hS)
theorem c_exit {id : Nat} (k : Fin Q (.exit id) n w0 M E L) : WC P Q n (.exit id) w0 M E L := fun a w hA hS => wp_exit (k a w hA hS)
theorem c_ret (k : Fin Q .ret n w0 M E L) : WC P Q n .ret w0 M E L := fun a w hA hS => wp_ret (k a w hA hS)
theorem c_block {id : Nat} {c : Code} (k : WC P (Exit.inBlock id Q) n c w0 M E L) : WC P Q n (.block id c) w0 M E L := fun a w hA hS => wp_block (k a w hA hS)
theorem c_cond {c : Operand} {x y : Code} {t : Bool} (hc : opv L c = some (.bool t)) (kt : t = true → WC P Q n x w0 M E L) (kf : t = false → WC P Q n y w0 M E L) : WC P Q n (.cond c x y) w0 M E L :=
 fun a w hA hS => wp_cond_split (hA.eval hc) (fun h => kt h a w hA hS) (fun h => kf h a w hA hS)
theorem c_if {c : Operand} {x y : Code} {p : Prop} [Decidable p] (hc : opv L c = some (.bool (decide p))) (kt : p → WC P Q n x w0 M E L) (kf : ¬ p → WC P Q n y w0 M E L) : WC P Q n (.cond c x y) w0 M E L :=
 c_cond hc (fun h => kt (of_decide_eq_true h)) (fun h => kf (of_decide_eq_false h))
theorem c_know {p : Prop} {c : Code} (h : ∀ w, St w0 M E w → p) (k : p → WC P Q n c w0 M E L) : WC P Q n c w0 M E L := fun a w hA hS => k (h w hS) a w hA hS
theorem c_keep {c : Code} (hs : Sub L L') (k : WC P Q n c w0 M E L') : WC P Q n c w0 M E L := fun a w hA hS => k a w (hA.weaken hs.look) hS
theorem c_ents {c : Code} (hs : ∀ w, St w0 M E w → St w0 M E' w) (k : WC P Q n c w0 M E' L) : WC P Q n c w0 M E L := fun a w hA hS => k a w hA (hs w hS)
/-- What holds at a place where ways meet. -/
def Cut {α : Type} (n : Nat) (w0 : World) (M : Nat → Prop) (Φ : α → Prop) (E1 : α → List Ent) (L1 : α → Slots) : Act → World → Prop := fun a w => ∃ x, Φ x ∧ Has n a (L1 x) ∧ St w0 M (E1 x) w
theorem c_cut {α : Type} {x y : Code} (Φ : α → Prop) (E1 : α → List Ent) (L1 : α → Slots) (hx : WC P (Exit.then (Cut n w0 M Φ E1 L1) Q) n x w0 M E L) (hy : ∀ t, Φ t → WC P Q n y w0 M (E1 t) (L1 t)) :
  WC P Q n (.seq x y) w0 M E L := fun a w hA hS =>
 wp_seq (wp_mono (hx a w hA hS) fun e a w h => by
  cases e with
  | normal => obtain ⟨t, h1, h2, h3⟩ := h; exact hy t h1 a w h2 h3
  | exit i => exact h
  | goto l => exact h
  | ret => exact h
  | panic c => exact h
  | outgrown => exact h)
/-- A loop: 'Φ' at each round's head, 'μ' goes down. -/
def Again {α : Type} (n : Nat) (w0 : World) (M : Nat → Prop) (Φ : α → Prop) (E1 : α → List Ent) (L1 : α → Slots) (μ : α → Nat) (x : α) : Act → World → Prop :=
 fun a w => ∃ y, Φ y ∧ μ y < μ x ∧ Has n a (L1 y) ∧ St w0 M (E1 y) w
theorem c_loop {α : Type} {c : Code} (Φ : α → Prop) (E1 : α → List Ent) (L1 : α → Slots) (μ : α → Nat) (x0 : α) (h0 : Φ x0) (hL : Sub L (L1 x0)) (hE : ∀ w, St w0 M E w → St w0 M (E1 x0) w)
  (round : ∀ x, Φ x → WC P (Exit.then (Again n w0 M Φ E1 L1 μ x) Q) n c w0 M (E1 x) (L1 x)) : WC P Q n (.loop c) w0 M E L := by
 intro a w hA hS
 refine wp_loop_ghost (fun m a w => ∃ x, μ x = m ∧ Φ x ∧ Has n a (L1 x) ∧ St w0 M (E1 x) w) (μ x0) ⟨x0, rfl, h0, hA.weaken hL.look, hE w hS⟩ ?_
 rintro m a w ⟨x, rfl, hx, h1, h2⟩
 refine wp_mono (round x hx a w h1 h2) fun e a w h => ?_
 cases e with
 | normal => obtain ⟨y, h1, h2, h3, h4⟩ := h; exact ⟨μ y, h2, y, rfl, h1, h3, h4⟩
 | exit i => exact h
 | goto l => exact h
 | ret => exact h
 | panic c => exact h
 | outgrown => exact h
end
end Go.Proofs.YtfccnoccfhgcbaaGreatDoor
namespace Go.Proofs.YtfccnoccfhgcbaaGreatDoor
open Go Go.RowKit

/-! ### Types, by the kernel -/
def isAggD : TypeDesc → Bool
 | .struct _ | .array _ _ => true
 | _ => false
/-- A type of one cell. -/
def cellTy (P : Program) (t : TypeId) : Prop := (P.underlying t).map isAggD = some false ∧ (P.info? t).map (·.size) = some 1
def aggTy (P : Program) (t : TypeId) (sz : Nat) : Prop := (P.underlying t).map isAggD = some true ∧ (P.info? t).map (·.size) = some sz
def zeroTy (P : Program) (t : TypeId) (zs : List Value) : Prop := ((P.info? t).bind (·.zero)).map (fun z => z.cells) = some zs.toArray
section
variable {P : Program} {t : TypeId} {sz : Nat}
theorem cellTy.agg (h : cellTy P t) (w : World) : (isAgg t).run P w = .ok false w := by
 have h1 := h.1
 cases hu : P.underlying t with
 | none => rw [hu] at h1; cases h1
 | some d =>
  unfold isAgg
  rw [Sem.run_bind, run_underlying hu w]
  rw [hu] at h1
  cases d <;> simp_all [isAggD]
theorem aggTy.agg (h : aggTy P t sz) (w : World) : (isAgg t).run P w = .ok true w := by
 have h1 := h.1
 cases hu : P.underlying t with
 | none => rw [hu] at h1; cases h1
 | some d =>
  unfold isAgg
  rw [Sem.run_bind, run_underlying hu w]
  rw [hu] at h1
  cases d <;> simp_all [isAggD]
theorem size_run {k : Nat} (h : (P.info? t).map (·.size) = some k) (w : World) : (sizeOf t).run P w = .ok k w := by
 cases hq : P.info? t with
 | none => rw [hq] at h; cases h
 | some i =>
  rw [hq] at h
  have : i.size = k := by simpa using h
  simp [sizeOf, typeInfo, hq, this]
theorem zeroTy.run {zs : List Value} (h : zeroTy P t zs) (w : World) : ∃ z, (zeroValue t).run P w = .ok z w ∧ z.cells = zs.toArray := by
 unfold zeroTy at h
 cases hq : P.info? t with
 | none => rw [hq] at h; cases h
 | some i =>
  rw [hq] at h
  cases hz : i.zero with
  | none => simp [hz] at h
  | some z =>
   refine ⟨z, by simp [zeroValue, typeInfo, hq, hz], ?_⟩
   simpa [hz] using h
end

/-! ### Lists of values, by constructors -/
inductive SetR : List Value → Nat → List Value → List Value → Prop
 | nil {vs} : SetR vs 0 [] vs
 | cons {x xs c cs ys} : SetR xs 0 cs ys → SetR (x :: xs) 0 (c :: cs) (c :: ys)
 | skip {x xs k cs ys} : SetR xs k cs ys → SetR (x :: xs) (k + 1) cs (x :: ys)
inductive GetR : List Value → Nat → Nat → List Value → Prop
 | nil {vs} : GetR vs 0 0 []
 | cons {x xs m cs} : GetR xs 0 m cs → GetR (x :: xs) 0 (m + 1) (x :: cs)
 | skip {x xs k m cs} : GetR xs k m cs → GetR (x :: xs) (k + 1) m cs
theorem GetR.spec {vs : List Value} {k m : Nat} {cs : List Value} (h : GetR vs k m cs) : cs.length = m ∧ ∀ j, j < m → vs[k + j]? = cs[j]? := by
 induction h with
 | nil => exact ⟨rfl, fun j hj => by omega⟩
 | cons h ih =>
  refine ⟨by simp [ih.1], fun j hj => ?_⟩
  cases j with
  | zero => simp
  | succ j => have := ih.2 j (by omega); simpa [Nat.add_comm, Nat.add_left_comm] using this
 | skip h ih =>
  refine ⟨ih.1, fun j hj => ?_⟩
  have := ih.2 j hj
  rw [← this]
  rw [show ∀ a b : Nat, a + 1 + b = (a + b) + 1 from fun a b => by omega]
  simp
theorem SetR.spec {vs : List Value} {k : Nat} {cs ys : List Value} (h : SetR vs k cs ys) : k + cs.length ≤ vs.length ∧ ys.length = vs.length ∧ ∀ j, ys[j]? = if k ≤ j ∧ j < k + cs.length then cs[j - k]? else vs[j]? := by
 induction h with
 | nil => exact ⟨by simp, rfl, fun j => by rw [if_neg (by simp)]⟩
 | cons h ih =>
  refine ⟨by have := ih.1; simp at *; omega, by simp [ih.2.1], fun j => ?_⟩
  cases j with
  | zero => simp
  | succ j => have := ih.2.2 j; simp at this ⊢; rw [this]
 | @skip x xs k cs ys h ih =>
  refine ⟨by have := ih.1; simp at *; omega, by simp [ih.2.1], fun j => ?_⟩
  cases j with
  | zero => simp
  | succ j =>
   have := ih.2.2 j
   simp only [List.getElem?_cons_succ, this]
   by_cases hc : k ≤ j ∧ j < k + cs.length
   ·rw [if_pos hc, if_pos (by omega), show j + 1 - (k + 1) = j - k from by omega]
   ·rw [if_neg hc, if_neg (by omega)]
/-- One entry for another in its place. -/
inductive Repl : List Ent → Ent → Ent → List Ent → Prop
 | here {e e' : Ent} {xs : List Ent} : Repl (e :: xs) e e' (e' :: xs)
 | there {x e e' : Ent} {xs ys : List Ent} : Repl xs e e' ys → Repl (x :: xs) e e' (x :: ys)
theorem Repl.perm {xs ys : List Ent} {e e' : Ent} (h : Repl xs e e' ys) : ∃ zs : List Ent, xs.Perm (e :: zs) ∧ ys.Perm (e' :: zs) := by
 induction h with
 | @here e e' xs => exact ⟨xs, .refl _, .refl _⟩
 | @there x e e' xs ys h ih =>
  obtain ⟨zs, h1, h2⟩ := ih
  exact ⟨x :: zs, (h1.cons x).trans (.swap ..), (h2.cons x).trans (.swap ..)⟩
theorem Repl.mem {xs ys : List Ent} {e e' : Ent} (h : Repl xs e e' ys) : e ∈ xs := by
 induction h with
 | here => simp
 | there _ ih => exact List.mem_cons_of_mem _ ih
theorem St.repl {w0 w w' : World} {M : Nat → Prop} {E E' : List Ent} {e e' : Ent} (h : St w0 M E w) (hr : Repl E e e' E') (hos : w'.os = w.os) (htape : w'.tape = w.tape) (hout : w'.output = w.output) (hsz : w.heap.size ≤ w'.heap.size)
  (hb : ∀ b, b < w.heap.size → ¬ e.fp b → w'.heap[b]? = w.heap[b]?) (hl : e'.loc) (hk : e'.ok w') (hf : ∀ b, e'.fp b → b < w'.heap.size ∧ (e.fp b ∨ w.heap.size ≤ b)) : St w0 M E' w' := by
 obtain ⟨zs, h1, h2⟩ := hr.perm
 exact ((h.perm h1.symm).change hos htape hout hsz hb hl hk hf).perm h2

/-! ### Cells in a state -/
theorem addr_add (b o k : Nat) : (⟨b, o, none⟩ : Addr).add k = ⟨b, o + k, none⟩ := by unfold Addr.add; split <;> simp_all
section
variable {P : Program} {w0 w : World} {M : Nat → Prop} {E E' : List Ent} {b off : Nat} {vs : List Value} {te : TypeId}
theorem St.cell (h : St w0 M E w) (hm : Ent.blk b vs te ∈ E) (k : Nat) : w.cell? ⟨b, k, none⟩ = vs[k]? := by
 rw [cell_of_row w b k _ te (0, 0) (h.blk hm)]
 simp
theorem St.free (h : St w0 M E w) (hm : Ent.blk b vs te ∈ E) (k : Nat) : w.frozen? ⟨b, k, none⟩ = false := by
 simp [World.frozen?, h.blk hm]
theorem run_loadCells' (w : World) (b o : Nat) (cs : List Value) (h : ∀ j, j < cs.length → w.cell? ⟨b, o + j, none⟩ = cs[j]?) : (loadCells ⟨b, o, none⟩ cs.length).run P w = .ok cs.toArray w :=
 run_loadCells_list (P := P) w ⟨b, o, none⟩ cs (fun j v hv => by
  rw [addr_add]
  have hj : j < cs.length := (List.getElem?_eq_some_iff.1 hv).1
  rw [h j hj]
  exact hv)
theorem run_loadVar_agg {t : TypeId} (cs : List Value) (ht : aggTy P t cs.length) (w : World) (b o : Nat) (h : ∀ j, j < cs.length → w.cell? ⟨b, o + j, none⟩ = cs[j]?) : (loadVar t ⟨b, o, none⟩).run P w = .ok (.agg cs.toArray) w := by
 unfold loadVar
 simp only [Sem.run_bind, ht.agg w, Result.andThen_ok, if_true, size_run ht.2 w, run_loadCells' w b o cs h, Sem.run_pure]
theorem run_loadVar_cell {t : TypeId} (ht : cellTy P t) (w : World) (a : Addr) (v : Value) (h : w.cell? a = some v) : (loadVar t a).run P w = .ok v w := by
 unfold loadVar
 simp [Sem.run_bind, ht.agg w, Result.andThen_ok, h]
/-- What the cells of one block become. -/
def setCells (w : World) (b : Nat) (vs : List Value) (te : TypeId) : World := { w with heap := w.heap.setIfInBounds b (.cells vs.toArray te (0, 0)) }
theorem setCell_eq (w : World) (b k : Nat) (vs : List Value) (te : TypeId) (v : Value) (hb : w.heap[b]? = some (.cells vs.toArray te (0, 0))) : w.setCell ⟨b, k, none⟩ v = setCells w b (vs.set k v) te := by
 have hlt : b < w.heap.size := (Array.getElem?_eq_some_iff.1 hb).1
 unfold World.setCell setCells
 congr 1
 apply Array.ext_getElem?
 intro i
 rw [Array.getElem?_modify, Array.getElem?_setIfInBounds]
 by_cases h : b = i
 ·subst h
  rw [hb]
  simp only [if_true, hlt]
  show some (Obj.cells (vs.toArray.setIfInBounds k v) te (0, 0)) = some _
  rw [List.setIfInBounds_toArray]
 ·simp [h]
theorem setCells_heap (w : World) (b : Nat) (vs : List Value) (te : TypeId) (hb : b < w.heap.size) : (setCells w b vs te).heap[b]? = some (.cells vs.toArray te (0, 0)) := by
 simp [setCells, hb]
theorem setCells_ne (w : World) (b : Nat) (vs : List Value) (te : TypeId) (c : Nat) (h : c ≠ b) : (setCells w b vs te).heap[c]? = w.heap[c]? := by
 simp [setCells, Array.getElem?_setIfInBounds, Ne.symm h]
theorem setCells_twice (w : World) (b : Nat) (vs us : List Value) (te : TypeId) : setCells (setCells w b vs te) b us te = setCells w b us te := by
 simp [setCells]
theorem run_storeCells_blk (te : TypeId) : ∀ (cs : List Value) (w : World) (b o i : Nat) (vs : List Value), w.heap[b]? = some (.cells vs.toArray te (0, 0)) → (∀ c ∈ cs, c.oneCell' = true) → o + i + cs.length ≤ vs.length →
  ∃ us : List Value, (storeCells ⟨b, o, none⟩ cs i).run P w = .ok () (setCells w b us te) ∧ us.length = vs.length ∧ ∀ j, us[j]? = if o + i ≤ j ∧ j < o + i + cs.length then cs[j - (o + i)]? else vs[j]? := by
 intro cs
 induction cs with
 | nil =>
  intro w b o i vs hb _ _
  refine ⟨vs, ?_, rfl, fun j => by rw [if_neg (by simp)]⟩
  have hlt : b < w.heap.size := (Array.getElem?_eq_some_iff.1 hb).1
  simp only [storeCells, Sem.run_pure]
  congr 1
  unfold setCells
  have : w.heap.setIfInBounds b (.cells vs.toArray te (0, 0)) = w.heap := by
   apply Array.ext_getElem?
   intro k
   rw [Array.getElem?_setIfInBounds]
   by_cases h : b = k
   ·subst h; have hg := (Array.getElem?_eq_some_iff.1 hb).2; simp [hlt, hg]
   ·simp [h]
  rw [this]
 | cons c cs ih =>
  intro w b o i vs hb hc hl
  have hlt : b < w.heap.size := (Array.getElem?_eq_some_iff.1 hb).1
  simp only [List.length_cons] at hl
  have hcell : w.cell? ⟨b, o + i, none⟩ = some (vs[o + i]'(by omega)) := by
   rw [cell_of_row w b _ _ te (0, 0) hb]; simp
  have hfr : w.frozen? ⟨b, o + i, none⟩ = false := by simp [World.frozen?, hb]
  obtain ⟨us, h1, h2, h3⟩ := ih (setCells w b (vs.set (o + i) c) te) b o (i + 1) (vs.set (o + i) c) (setCells_heap w b _ te hlt) (fun x hx => hc x (List.mem_cons_of_mem _ hx)) (by simp; omega)
  refine ⟨us, ?_, by simpa using h2, fun j => ?_⟩
  ·simp only [storeCells, Sem.run_bind, addr_add, run_store P w _ c .plain (hc c (by simp)), hcell, hfr, Bool.false_eq_true, if_false, Result.andThen_ok, setCell_eq w b (o + i) vs te c hb, h1, setCells_twice]
  ·rw [h3 j]
   simp only [List.length_cons]
   by_cases hj : j = o + i
   ·subst hj
    rw [if_neg (by omega), if_pos (by omega)]
    have : o + i < vs.length := by omega
    simp [this]
   ·by_cases hc2 : o + (i + 1) ≤ j ∧ j < o + (i + 1) + cs.length
    ·rw [if_pos hc2, if_pos (by omega), show j - (o + i) = (j - (o + (i + 1))) + 1 from by omega]
     simp
    ·rw [if_neg hc2, if_neg (by omega), List.getElem?_set_ne (by omega)]
end
end Go.Proofs.YtfccnoccfhgcbaaGreatDoor
namespace Go.Proofs.YtfccnoccfhgcbaaGreatDoor
open Go Go.RowKit

section
variable {P : Program} {S : World → Prop} {n : Nat} {L : Slots} {dst : Option Nat} {ty : Nat} {pos : String} {af : Array Edge} {g : Option (Nat × Bool)} {x y z : Operand} {v u : Value} {t t' : TypeId}
 {k : IntKind} {a b c : Int}

theorem rd_move (hx : opv L x = some v) : Rd P S n L ⟨dst, .move x, ty, pos, af, g⟩ v := fun A w hA _ => by simp [execOp, hA.eval hx]
theorem rd_assign (hx : opv L x = some v) : Rd P S n L ⟨dst, .assign x, ty, pos, af, g⟩ v := fun A w hA _ => by simp [execOp, hA.eval hx]
theorem rd_pick {q : Bool} (hx : opv L x = some (.bool q)) (hy : opv L y = some v) (hz : opv L z = some u) : Rd P S n L ⟨dst, .pick x y z, ty, pos, af, g⟩ (if q then v else u) :=
 fun A w hA _ => by simp [execOp, hA.eval hx, hA.eval hy, hA.eval hz, asBool]
theorem rd_pick_t (hx : opv L x = some (.bool true)) (hy : opv L y = some v) : Rd P S n L ⟨dst, .pick x y z, ty, pos, af, g⟩ v :=
 fun A w hA _ => by simp [execOp, hA.eval hx, hA.eval hy, asBool]
theorem rd_pick_f (hx : opv L x = some (.bool false)) (hz : opv L z = some u) : Rd P S n L ⟨dst, .pick x y z, ty, pos, af, g⟩ u :=
 fun A w hA _ => by simp [execOp, hA.eval hx, hA.eval hz, asBool]
theorem rd_nil {ad : Addr} (hx : opv L x = some (.pointer (some ad))) : Rd P S n L ⟨dst, .nilCheck x, ty, pos, af, g⟩ (.pointer (some ad)) :=
 fun A w hA _ => by simp [execOp, hA.eval hx]
theorem rd_bin {op : BinOp} (hx : opv L x = some v) (hy : opv L y = some u) {r : Value} (h : ∀ w, (do eqGuard op t x y v u; binOp op t v u : Sem Value).run P w = .ok r w) :
  Rd P S n L ⟨dst, .binOp op t x y t', ty, pos, af, g⟩ r := fun A w hA _ => by
 have h' := h w
 simp only [execOp, hA.eval hx, hA.eval hy]
 simp only [Sem.run_bind] at h' ⊢
 rw [h']
 simp
theorem eqGuard_int (op : BinOp) (t : TypeId) (x y : Operand) (k k' : IntKind) (a b : Int) (w : World) : (eqGuard op t x y (.int k a) (.int k' b)).run P w = .ok () w := by
 unfold eqGuard; cases op <;> simp
theorem eqGuard_bool (op : BinOp) (t : TypeId) (x y : Operand) (a b : Bool) (w : World) : (eqGuard op t x y (.bool a) (.bool b)).run P w = .ok () w := by
 unfold eqGuard; cases op <;> simp
theorem eqGuard_str (op : BinOp) (t : TypeId) (x y : Operand) (a b : ByteArray) (w : World) : (eqGuard op t x y (.string a) (.string b)).run P w = .ok () w := by
 unfold eqGuard; cases op <;> simp
/-- Two whole numbers. -/
theorem rd_int {op : BinOp} (hx : opv L x = some (.int k a)) (hy : opv L y = some (.int k b)) {r : Value} (h : ∀ w, (binOp op t (.int k a) (.int k b)).run P w = .ok r w) :
  Rd P S n L ⟨dst, .binOp op t x y t', ty, pos, af, g⟩ r := rd_bin hx hy fun w => by simp only [Sem.run_bind, eqGuard_int, Result.andThen_ok, h w]
theorem rd_add (hx : opv L x = some (.int k a)) (hy : opv L y = some (.int k b)) (h : k.wrap (a + b) = c) : Rd P S n L ⟨dst, .binOp .add t x y t', ty, pos, af, g⟩ (.int k c) :=
 rd_int hx hy fun w => by simp [binOp, Op.intArith, h]
theorem rd_sub (hx : opv L x = some (.int k a)) (hy : opv L y = some (.int k b)) (h : k.wrap (a - b) = c) : Rd P S n L ⟨dst, .binOp .sub t x y t', ty, pos, af, g⟩ (.int k c) :=
 rd_int hx hy fun w => by simp [binOp, Op.intArith, h]
theorem rd_mul (hx : opv L x = some (.int k a)) (hy : opv L y = some (.int k b)) (h : k.wrap (a * b) = c) : Rd P S n L ⟨dst, .binOp .mul t x y t', ty, pos, af, g⟩ (.int k c) :=
 rd_int hx hy fun w => by simp [binOp, Op.intArith, h]
theorem rd_quo (hx : opv L x = some (.int k a)) (hy : opv L y = some (.int k b)) (h0 : b ≠ 0) (h : k.wrap (a.tdiv b) = c) : Rd P S n L ⟨dst, .binOp .quo t x y t', ty, pos, af, g⟩ (.int k c) :=
 rd_int hx hy fun w => by simp [binOp, Op.intDiv, h0, h]
theorem rd_rem (hx : opv L x = some (.int k a)) (hy : opv L y = some (.int k b)) (h0 : b ≠ 0) (h : a.tmod b = c) : Rd P S n L ⟨dst, .binOp .rem t x y t', ty, pos, af, g⟩ (.int k c) :=
 rd_int hx hy fun w => by simp [binOp, Op.intDiv, h0, h]
theorem rd_and (hx : opv L x = some (.int k a)) (hy : opv L y = some (.int k b)) (h : k.wrap (BitVec.ofInt k.bits a &&& BitVec.ofInt k.bits b).toNat = c) : Rd P S n L ⟨dst, .binOp .and t x y t', ty, pos, af, g⟩ (.int k c) :=
 rd_int hx hy fun w => by rw [← h]; simp only [binOp, ne_eq, not_true_eq_false, if_false]; rfl
theorem rd_or (hx : opv L x = some (.int k a)) (hy : opv L y = some (.int k b)) (h : k.wrap (BitVec.ofInt k.bits a ||| BitVec.ofInt k.bits b).toNat = c) : Rd P S n L ⟨dst, .binOp .or t x y t', ty, pos, af, g⟩ (.int k c) :=
 rd_int hx hy fun w => by rw [← h]; simp only [binOp, ne_eq, not_true_eq_false, if_false]; rfl
theorem rd_xor (hx : opv L x = some (.int k a)) (hy : opv L y = some (.int k b)) (h : k.wrap (BitVec.ofInt k.bits a ^^^ BitVec.ofInt k.bits b).toNat = c) : Rd P S n L ⟨dst, .binOp .xor t x y t', ty, pos, af, g⟩ (.int k c) :=
 rd_int hx hy fun w => by rw [← h]; simp only [binOp, ne_eq, not_true_eq_false, if_false]; rfl
theorem rd_shl {k' : IntKind} (hx : opv L x = some (.int k a)) (hy : opv L y = some (.int k' b)) (h0 : 0 ≤ b) (h : k.wrap (a * 2 ^ (min b.toNat k.bits)) = c) : Rd P S n L ⟨dst, .binOp .shl t x y t', ty, pos, af, g⟩ (.int k c) :=
 rd_bin hx hy fun w => by
  have h1 : ¬ b < 0 := by omega
  simp [eqGuard_int, binOp, Op.shift, h1, h]
theorem rd_shr {k' : IntKind} (hx : opv L x = some (.int k a)) (hy : opv L y = some (.int k' b)) (h0 : 0 ≤ b) (h : a.fdiv (2 ^ (min b.toNat k.bits)) = c) : Rd P S n L ⟨dst, .binOp .shr t x y t', ty, pos, af, g⟩ (.int k c) :=
 rd_bin hx hy fun w => by
  have h1 : ¬ b < 0 := by omega
  simp [eqGuard_int, binOp, Op.shift, h1, h]
theorem rd_lss (hx : opv L x = some (.int k a)) (hy : opv L y = some (.int k b)) : Rd P S n L ⟨dst, .binOp .lss t x y t', ty, pos, af, g⟩ (.bool (decide (a < b))) := rd_int hx hy fun w => by simp [binOp, Op.intCmp]
theorem rd_leq (hx : opv L x = some (.int k a)) (hy : opv L y = some (.int k b)) : Rd P S n L ⟨dst, .binOp .leq t x y t', ty, pos, af, g⟩ (.bool (decide (a ≤ b))) := rd_int hx hy fun w => by simp [binOp, Op.intCmp]
theorem rd_gtr (hx : opv L x = some (.int k a)) (hy : opv L y = some (.int k b)) : Rd P S n L ⟨dst, .binOp .gtr t x y t', ty, pos, af, g⟩ (.bool (decide (b < a))) := rd_int hx hy fun w => by simp [binOp, Op.intCmp]
theorem rd_geq (hx : opv L x = some (.int k a)) (hy : opv L y = some (.int k b)) : Rd P S n L ⟨dst, .binOp .geq t x y t', ty, pos, af, g⟩ (.bool (decide (b ≤ a))) := rd_int hx hy fun w => by simp [binOp, Op.intCmp]
theorem rd_eql (hx : opv L x = some (.int k a)) (hy : opv L y = some (.int k b)) : Rd P S n L ⟨dst, .binOp .eql t x y t', ty, pos, af, g⟩ (.bool (decide (a = b))) := rd_int hx hy fun w => by
 have e : (a == b) = decide (a = b) := by rw [Bool.eq_iff_iff]; simp
 simp only [binOp, Op.intCmp, ne_eq, not_true_eq_false, if_false, e]
 rfl
theorem rd_neq (hx : opv L x = some (.int k a)) (hy : opv L y = some (.int k b)) : Rd P S n L ⟨dst, .binOp .neq t x y t', ty, pos, af, g⟩ (.bool (decide (a ≠ b))) := rd_int hx hy fun w => by
 have e : (a != b) = decide (a ≠ b) := by rw [Bool.eq_iff_iff]; simp
 simp only [binOp, Op.intCmp, ne_eq, not_true_eq_false, if_false, e]
 rfl
theorem run_equal_bool (ht : P.underlying t = some .bool) (p q : Bool) (w : World) : (Op.equal t (.bool p) (.bool q)).run P w = .ok (p == q) w := by
 have key : ∀ d, (Op.equalIn (d + 1) t (.bool p) (.bool q)).run P w = .ok (p == q) w := fun d => by simp [Op.equalIn, run_underlying ht]
 exact key 9999
theorem rd_eqb {p q : Bool} (ht : P.underlying t = some .bool) (hx : opv L x = some (.bool p)) (hy : opv L y = some (.bool q)) : Rd P S n L ⟨dst, .binOp .eql t x y t', ty, pos, af, g⟩ (.bool (p == q)) :=
 rd_bin hx hy fun w => by simp only [Sem.run_bind, eqGuard_bool, Result.andThen_ok, binOp, run_equal_bool ht, Sem.run_pure]
theorem rd_neb {p q : Bool} (ht : P.underlying t = some .bool) (hx : opv L x = some (.bool p)) (hy : opv L y = some (.bool q)) : Rd P S n L ⟨dst, .binOp .neq t x y t', ty, pos, af, g⟩ (.bool (!(p == q))) :=
 rd_bin hx hy fun w => by simp only [Sem.run_bind, eqGuard_bool, Result.andThen_ok, binOp, run_equal_bool ht, Sem.run_pure]
theorem rd_not {p : Bool} (hx : opv L x = some (.bool p)) : Rd P S n L ⟨dst, .unOp .not t x, ty, pos, af, g⟩ (.bool (!p)) := fun A w hA _ => by simp [execOp, hA.eval hx, Op.unary]
theorem rd_notd {p : Prop} [Decidable p] (hx : opv L x = some (.bool (decide p))) : Rd P S n L ⟨dst, .unOp .not t x, ty, pos, af, g⟩ (.bool (decide (¬ p))) := fun A w hA _ => by simp [execOp, hA.eval hx, Op.unary]
theorem rd_neg (hx : opv L x = some (.int k a)) (h : k.wrap (0 - a) = c) : Rd P S n L ⟨dst, .unOp .neg t x, ty, pos, af, g⟩ (.int k c) := fun A w hA _ => by
 simp only [execOp, hA.eval hx, Op.unary, Op.intArith, h]
 simp
theorem rd_conv {k' : IntKind} (hs : ∃ d, P.underlying t = some d) (ht : P.underlying t' = some (.int k')) (hx : opv L x = some (.int k a)) (h : k'.wrap a = c) : Rd P S n L ⟨dst, .convert t t' x, ty, pos, af, g⟩ (.int k' c) := fun A w hA _ => by
 obtain ⟨d, hd⟩ := hs
 simp only [execOp, hA.eval hx, convert, Sem.run_bind, run_underlying hd, run_underlying ht, Result.andThen_ok]
 cases d <;> simp [Conv.intToInt, h]
theorem rd_extract {vs : List Value} {i : Nat} (hx : opv L x = some (.tuple vs.toArray)) (h : vs[i]? = some v) : Rd P S n L ⟨dst, .extract x i, ty, pos, af, g⟩ v := fun A w hA _ => by
 simp [execOp, hA.eval hx, Instr.extract, h]
theorem rd_func {fn : Fn} {f1 c1 : List Operand} {fs cs : List Value} (h1 : opvs L f1 = some fs) (h2 : opvs L c1 = some cs) : Rd P S n L ⟨dst, .makeFunc fn f1.toArray c1.toArray, ty, pos, af, g⟩ (.func fn fs.toArray cs.toArray) := fun A w hA _ => by
 simp [execOp, Instr.makeFunc, hA.evals h1, hA.evals h2]
/-- Where a field of a struct begins. -/
def fieldTy (P : Program) (s f o : Nat) : Prop := ∀ (b off : Nat) (w : World), (Instr.fieldAt s (.pointer (some ⟨b, off, none⟩)) f).run P w = .ok (.pointer (some ⟨b, off + o, none⟩)) w
theorem fieldTy.mk' {s f o : Nat} {fs : Array Field} {fd : Field} (h1 : P.underlying s = some (.struct fs)) (h2 : fs[f]? = some fd) (h3 : (P.info? fd.type).map (fun i => decide (i.size = 0)) = some false) (h4 : fd.offset = o) : fieldTy P s f o := by
 intro b off w
 cases hq : P.info? fd.type with
 | none => rw [hq] at h3; cases h3
 | some i =>
  rw [hq] at h3
  have hs : i.size ≠ 0 := by simpa using h3
  simp [Instr.fieldAt, run_underlying h1, h2, Instr.sureAddr, fieldPlace, sizeOf, typeInfo, hq, hs, addr_add, h4]
theorem rd_field {s f o bl off : Nat} (hf : fieldTy P s f o) (hx : opv L x = some (.pointer (some ⟨bl, off, none⟩))) : Rd P S n L ⟨dst, .fieldAddr s x f, ty, pos, af, g⟩ (.pointer (some ⟨bl, off + o, none⟩)) := fun A w hA _ => by
 have := hf bl off w
 simp [execOp, hA.eval hx, this]
/-- The beginning of a slice. -/
def ab (a : Option Addr) : Nat := (a.map (·.block)).getD 0
def ao (a : Option Addr) : Nat := (a.map (·.off)).getD 0
def plainA (a : Option Addr) : Prop := a = some ⟨ab a, ao a, none⟩
/-- The elements' type of a slice type, and their size. -/
def sliceTy (P : Program) (t e sz : Nat) : Prop := P.underlying t = some (.slice e) ∧ (P.info? e).map (·.size) = some sz
theorem rd_index {A0 : Option Addr} {m cap e sz : Nat} (hs : sliceTy P t e sz) (hx : opv L x = some (.slice A0 m cap)) (hy : opv L y = some (.int k a)) (hp : 0 < m → plainA A0) (h0 : 0 ≤ a) (h1 : a < m) :
  Rd P S n L ⟨dst, .indexAddr t x y, ty, pos, af, g⟩ (.pointer (some ⟨ab A0, ao A0 + a.toNat * sz, none⟩)) := fun A w hA _ => by
 have hm : 0 < m := by omega
 have hpl : A0 = some ⟨ab A0, ao A0, none⟩ := hp hm
 have hc : 0 ≤ a ∧ a < (m : Int) := ⟨h0, h1⟩
 generalize ab A0 = B at *
 generalize ao A0 = O at *
 subst hpl
 simp [execOp, hA.eval hx, hA.eval hy, Instr.indexAt, asIntOf, run_underlying hs.1, size_run hs.2, hc, addr_add]
def arrTy (P : Program) (t m e sz : Nat) : Prop := P.underlying t = some (.array m e) ∧ (P.info? e).map (·.size) = some sz
theorem rd_index_arr {m e sz bl off : Nat} (hs : arrTy P t m e sz) (hx : opv L x = some (.pointer (some ⟨bl, off, none⟩))) (hy : opv L y = some (.int k a)) (h0 : 0 ≤ a) (h1 : a < m) :
  Rd P S n L ⟨dst, .indexAddr t x y, ty, pos, af, g⟩ (.pointer (some ⟨bl, off + a.toNat * sz, none⟩)) := fun A w hA _ => by
 have hc : 0 ≤ a ∧ a < (m : Int) := ⟨h0, h1⟩
 simp [execOp, hA.eval hx, hA.eval hy, Instr.indexAt, asIntOf, run_underlying hs.1, size_run hs.2, hc, addr_add, Instr.sureAddr]
theorem rd_load {ad : Addr} (ht : cellTy P t) (hx : opv L x = some (.pointer (some ad))) (h : ∀ w, S w → w.cell? ad = some v) : Rd P S n L ⟨dst, .load t x, ty, pos, af, g⟩ v := fun A w hA hS => by
 simp [execOp, hA.eval hx, Instr.loadAt, Instr.sureAddr, run_loadVar_cell ht w ad v (h w hS)]
theorem rd_loads {bl off sz : Nat} {cs : List Value} (ht : aggTy P t sz) (hx : opv L x = some (.pointer (some ⟨bl, off, none⟩))) (hl : cs.length = sz) (h : ∀ w, S w → ∀ j, j < sz → w.cell? ⟨bl, off + j, none⟩ = cs[j]?) :
  Rd P S n L ⟨dst, .load t x, ty, pos, af, g⟩ (.agg cs.toArray) := fun A w hA hS => by
 subst hl
 simp [execOp, hA.eval hx, Instr.loadAt, Instr.sureAddr, run_loadVar_agg cs ht w bl off (h w hS)]
theorem rd_len {A0 : Option Addr} {m cap e sz : Nat} {ats : Array TypeId} (hs : sliceTy P t e sz) (h0 : ats[0]? = some t) (hx : opv L x = some (.slice A0 m cap)) :
  Rd P S n L ⟨dst, .call ⟨.builtin .len, #[x], ats⟩, ty, pos, af, g⟩ (.int .i64 m) := fun A w hA _ => by
 simp [execOp, resolve, invoke, builtin, Builtin.len_, hA.eval hx, h0, run_underlying hs.1, goInt]
theorem rd_len_str {s : ByteArray} {ats : Array TypeId} (hs : P.underlying t = some .string) (h0 : ats[0]? = some t) (hx : opv L x = some (.string s)) :
  Rd P S n L ⟨dst, .call ⟨.builtin .len, #[x], ats⟩, ty, pos, af, g⟩ (.int .i64 s.size) := fun A w hA _ => by
 simp [execOp, resolve, invoke, builtin, Builtin.len_, hA.eval hx, h0, run_underlying hs, goInt]
theorem rd_min {ats : Array TypeId} (hx : opv L x = some (.int k a)) (hy : opv L y = some (.int k b)) : Rd P S n L ⟨dst, .call ⟨.builtin .min, #[x, y], ats⟩, ty, pos, af, g⟩ (.int k (if b < a then b else a)) := fun A w hA _ => by
 simp [execOp, resolve, invoke, builtin, Builtin.min_, Builtin.min2, hA.eval hx, hA.eval hy]
theorem rd_max {ats : Array TypeId} (hx : opv L x = some (.int k a)) (hy : opv L y = some (.int k b)) : Rd P S n L ⟨dst, .call ⟨.builtin .max, #[x, y], ats⟩, ty, pos, af, g⟩ (.int k (if a < b then b else a)) := fun A w hA _ => by
 simp [execOp, resolve, invoke, builtin, Builtin.max_, Builtin.max2, hA.eval hx, hA.eval hy]
end
end Go.Proofs.YtfccnoccfhgcbaaGreatDoor
namespace Go.Proofs.YtfccnoccfhgcbaaGreatDoor
open Go Go.RowKit

section
variable {P : Program} {Q Q' : Exit → Act → World → Prop} {n : Nat} {w0 w : World} {M : Nat → Prop} {E E' : List Ent} {L : Slots} {d ty : Nat} {dst : Option Nat} {pos : String} {af : Array Edge} {g : Option (Nat × Bool)} {x y z : Operand} {v u : Value} {t t' te : TypeId}
 {k : IntKind} {a b c : Int} {bl off : Nat} {vs vs' cs : List Value}

theorem cells_one (h : v.oneCell' = true) : v.cells.toList = [v] := by cases v <;> first | rfl | cases h
theorem Act.put_none (a : Act) (v : Value) : a.put none v = a := rfl
theorem run_storeVar_blk (hst : St w0 M E w) (hm : Ent.blk bl vs te ∈ E) (hsz : (P.info? t).map (·.size) = some cs.length) (hv : v.cells.toList = cs) (hs : SetR vs off cs vs') (h1 : ∀ c ∈ cs, c.oneCell' = true) :
  (storeVar t ⟨bl, off, none⟩ v).run P w = .ok () (setCells w bl vs' te) := by
 have hb := hst.blk hm
 obtain ⟨s1, s2, s3⟩ := hs.spec
 obtain ⟨us, r1, r2, r3⟩ := run_storeCells_blk (P := P) te cs w bl off 0 vs hb h1 (by omega)
 have hus : us = vs' := by
  apply List.ext_getElem?
  intro j
  rw [r3 j, s3 j]
  simp
 subst hus
 have hcs : v.cells.size = cs.length := by rw [← hv]; simp
 unfold storeVar
 simp only [Sem.run_bind, size_run hsz w, Result.andThen_ok, hcs, ne_eq, not_true_eq_false, if_false, hv]
 simpa using r1
theorem St.set (h : St w0 M E w) (hr : Repl E (.blk bl vs te) (.blk bl vs' te) E') : St w0 M E' (setCells w bl vs' te) := by
 have hb := h.blk hr.mem
 have hlt : bl < w.heap.size := (Array.getElem?_eq_some_iff.1 hb).1
 refine h.repl hr rfl rfl rfl (by simp [setCells]) (fun c hc hne => setCells_ne w bl vs' te c hne) (Ent.loc_blk _ _ _) (setCells_heap w bl vs' te hlt) ?_
 rintro c rfl
 exact ⟨by simpa [setCells] using hlt, .inl rfl⟩
/-- A store of one cell. -/
theorem ef_store (ht : cellTy P t) (hx : opv L x = some (.pointer (some ⟨bl, off, none⟩))) (hy : opv L y = some u) (hr : Repl E (.blk bl vs te) (.blk bl vs' te) E') (hs : SetR vs off [u] vs') (h1 : u.oneCell' = true) :
  Ef P n w0 M E L ⟨none, .store t x y, ty, pos, af, g⟩ (fun K => To n w0 M E' L K) := by
 intro K Q a w hK hA hS
 unfold Oper.wp
 simp only [execOp, hA.eval hx, hA.eval hy, Instr.storeAt, Instr.sureAddr, Sem.run_bind, Sem.run_pure, Result.andThen_ok, run_storeVar_blk (P := P) hS hr.mem ht.2 (cells_one h1) hs (by simpa using h1), Oper.upon, Act.put_none]
 exact hK _ _ hA (hS.set hr)
/-- A store of a struct or an array. -/
theorem ef_stores {sz : Nat} (ht : aggTy P t sz) (hx : opv L x = some (.pointer (some ⟨bl, off, none⟩))) (hy : opv L y = some (.agg cs.toArray)) (hl : cs.length = sz) (hr : Repl E (.blk bl vs te) (.blk bl vs' te) E') (hs : SetR vs off cs vs') (h1 : cs.all Value.oneCell' = true) :
  Ef P n w0 M E L ⟨none, .store t x y, ty, pos, af, g⟩ (fun K => To n w0 M E' L K) := by
 subst hl
 intro K Q a w hK hA hS
 unfold Oper.wp
 simp only [execOp, hA.eval hx, hA.eval hy, Instr.storeAt, Instr.sureAddr, Sem.run_bind, Sem.run_pure, Result.andThen_ok, run_storeVar_blk (P := P) (v := .agg cs.toArray) (cs := cs) hS hr.mem ht.2 rfl hs (by simpa using h1), Oper.upon, Act.put_none]
 exact hK _ _ hA (hS.set hr)
/-- The whole of a block is stored into, whatever stood there. -/
theorem SetR.all : ∀ {vs cs : List Value}, vs.length = cs.length → SetR vs 0 cs cs
 | [], [], _ => .nil
 | _ :: _, _ :: _, h => .cons (SetR.all (by simpa using h))
theorem To.new (hS : St w0 M E w) {K : Act → World → Prop} {A : Act} (hA : Has n A L) (hd : Nat.blt d n = true) (vs : List Value) (te : TypeId)
  (hK : ∀ b, w0.heap.size ≤ b → To n w0 M (.blk b vs te :: E) ((d, .pointer (some ⟨b, 0, none⟩)) :: L) K) : K (A.put (some d) (.pointer (some ⟨w.heap.size, 0, none⟩))) (w.alloc (.cells vs.toArray te)) :=
 hK w.heap.size hS.size _ _ (hA.put hd) (hS.alloc vs te)
theorem ef_alloc {zs : List Value} (hz : zeroTy P t zs) (hd : Nat.blt d n = true) :
  Ef P n w0 M E L ⟨some d, .alloc t, ty, pos, af, g⟩ (fun K => ∀ bl : Nat, w0.heap.size ≤ bl → To n w0 M (.blk bl zs t :: E) ((d, .pointer (some ⟨bl, 0, none⟩)) :: L) K) := by
 intro K Q a w hK hA hS
 obtain ⟨z, h1, h2⟩ := hz.run w
 unfold Oper.wp
 simp only [execOp, Instr.alloc, Sem.run_bind, h1, Result.andThen_ok, newVar, newRow, run_newObj, Sem.run_pure, h2, Oper.upon]
 exact To.new hS hA hd zs t hK
theorem ef_box (hx : opv L x = some v) (hc : v.cells.toList = cs) (hd : Nat.blt d n = true) :
  Ef P n w0 M E L ⟨some d, .box t x, ty, pos, af, g⟩ (fun K => ∀ bl : Nat, w0.heap.size ≤ bl → To n w0 M (.blk bl cs t :: E) ((d, .pointer (some ⟨bl, 0, none⟩)) :: L) K) := by
 intro K Q a w hK hA hS
 have hc' : v.cells = cs.toArray := by rw [← hc]
 unfold Oper.wp
 simp only [execOp, hA.eval hx, Instr.box, Sem.run_bind, Result.andThen_ok, newVar, newRow, run_newObj, Sem.run_pure, hc', Oper.upon]
 exact To.new hS hA hd cs t hK
/-- A store whose value nobody waits for, of a variable's block that was just made: behind 'ef_box'. -/
theorem Ent.fresh_disjoint (h : St w0 M E w) {f : Ent} (hf : f ∈ E) {b : Nat} (hb : w.heap.size ≤ b) : ¬ f.fp b := fun hfb => by
 have := ((h.ents f hf).2.2 b hfb).1
 omega

/-! ### Entry and returns -/
def mkSlots : Nat → List Value → Slots
 | _, [] => []
 | i, v :: r => (i, v) :: mkSlots (i + 1) r
theorem look_mkSlots : ∀ (vs : List Value) (i t : Nat) (v : Value), look (mkSlots i vs) t = some v → i ≤ t ∧ vs[t - i]? = some v
 | [], _, _, _, h => by simp [mkSlots, look] at h
 | u :: r, i, t, v, h => by
  simp only [mkSlots, look] at h
  cases hb : Nat.beq i t with
  | true =>
   rw [hb] at h
   have : i = t := Nat.eq_of_beq_eq_true hb
   subst this
   exact ⟨Nat.le_refl _, by simpa using h⟩
  | false =>
   rw [hb] at h
   have hne : i ≠ t := fun he => by subst he; simp at hb
   obtain ⟨h1, h2⟩ := look_mkSlots r (i + 1) t v (by simpa using h)
   refine ⟨by omega, ?_⟩
   rw [show t - i = (t - (i + 1)) + 1 from by omega]
   simpa using h2
theorem enter {f : FuncId} {fn : Func} {cd : Code} {R : Ending → World → Prop} (hf : P.funcs[f]? = some fn) (hb : fn.body = some cd) (hn : fn.ntmps = n) (hl : Nat.ble vs.length n = true) (hS : St w0 M E w)
  (h : WC P (bodyPost P fn R) n cd w0 M E (mkSlots 0 vs)) : Calls P f vs.toArray w R := by
 have hle : vs.length ≤ n := by simpa [Nat.ble_eq] using hl
 refine calls_of_wp hf hb (h _ _ ⟨by simp [hn]; omega, rfl, fun t v e => ?_⟩ hS)
 obtain ⟨h1, h2⟩ := look_mkSlots vs 0 t v e
 have h2' : vs[t]? = some v := by simpa using h2
 have hlt : t < vs.length := (List.getElem?_eq_some_iff.1 h2').1
 simp only [Array.getD_eq_getD_getElem?]
 rw [Array.getElem?_append_left (by simpa using hlt)]
 simp [h2']
def RtE (R : Value → World → Prop) : Ending → World → Prop := fun e w => ∃ v, e = .returned v ∧ R v w
/-- What a function's results read as1. -/
inductive ResR (P : Program) (w0 : World) (M : Nat → Prop) (E : List Ent) (L : Slots) : List ResultVar → List Value → Prop
 | nil : ResR P w0 M E L [] []
 | tmp {t : Nat} {r : List ResultVar} {v : Value} {vs : List Value} : opv L (.tmp t) = some v → ResR P w0 M E L r vs → ResR P w0 M E L (.tmp t :: r) (v :: vs)
 | cell {p t : Nat} {r : List ResultVar} {v : Value} {vs : List Value} : (∃ ad, opv L (.tmp p) = some (.pointer (some ad)) ∧ ∀ w, St w0 M E w → (loadVar t ad).run P w = .ok v w) → ResR P w0 M E L r vs → ResR P w0 M E L (.cell p t :: r) (v :: vs)
def resVal : List Value → Value
 | [v] => v
 | vs => .tuple vs.toArray
@[simp] theorem resVal_one (v : Value) : resVal [v] = v := rfl
@[simp] theorem resVal_nil : resVal [] = .tuple #[] := rfl
@[simp] theorem resVal_two (u v : Value) : resVal [u, v] = .tuple #[u, v] := rfl
@[simp] theorem resVal_three (u v x : Value) : resVal [u, v, x] = .tuple #[u, v, x] := rfl
theorem run_results {A : Act} (hA : Has n A L) (hS : St w0 M E w) (f : ResultVar → Sem Value) (f1 : ∀ t, f (.tmp t) = pure (A.tmps.getD t undef)) (f2 : ∀ p t, f (.cell p t) = (asAddr (A.tmps.getD p undef)).bind fun ad => loadVar t ad) :
  ∀ (rs : List ResultVar) (vs : List Value), ResR P w0 M E L rs vs → (rs.mapM f).run P w = .ok vs w := by
 intro rs vs h
 induction h with
 | nil => simp
 | @tmp t r v vs h1 h2 ih =>
  have he : A.tmps.getD t undef = v := hA.eval h1
  simp only [List.mapM_cons, Sem.run_bind, f1, Sem.run_pure, Result.andThen_ok, he, ih]
 | @cell p t r v vs h1 h2 ih =>
  obtain ⟨ad, h1, h3⟩ := h1
  have he : A.tmps.getD p undef = .pointer (some ad) := hA.eval h1
  have e2 : (f (.cell p t)).run P w = .ok v w := by
   rw [f2, he, Sem.run_bind']
   exact h3 w hS
  simp only [List.mapM_cons, Sem.run_bind, e2, Sem.run_pure, Result.andThen_ok, ih]
theorem results_run {fn : Func} {A : Act} (hA : Has n A L) (hS : St w0 M E w) (rs : List ResultVar) (hr : fn.results = rs.toArray) (vs : List Value) (h : ResR P w0 M E L rs vs) : (results fn A.tmps).run P w = .ok (resVal vs) w := by
 unfold results
 rw [hr, Sem.run_bind, List.mapM_toArray, Sem.run_map, run_results (P := P) hA hS _ (fun _ => rfl) (fun _ _ => rfl) rs vs h]
 simp only [Result.andThen_ok, Sem.run_pure]
 cases vs with
 | nil => rfl
 | cons v vs =>
  cases vs with
  | nil => rfl
  | cons u vs => simp [resVal]
theorem f_ret {fn : Func} {R : Ending → World → Prop} {rs : List ResultVar} (hr : fn.results = rs.toArray) (h : ResR P w0 M E L rs vs) (k : ∀ w, St w0 M E w → R (.returned (resVal vs)) w) : Fin (bodyPost P fn R) .ret n w0 M E L :=
 fun a w hA hS => bodyPost_ret (results_run hA hS rs hr vs h) hA.2.1 (k w hS)
theorem f_end {fn : Func} {R : Ending → World → Prop} {rs : List ResultVar} (hr : fn.results = rs.toArray) (h : ResR P w0 M E L rs vs) (k : ∀ w, St w0 M E w → R (.returned (resVal vs)) w) : Fin (bodyPost P fn R) .normal n w0 M E L :=
 fun a w hA hS => bodyPost_end (results_run hA hS rs hr vs h) hA.2.1 (k w hS)
theorem f_then {y : Code} (k : WC P Q n y w0 M E L) : Fin (Exit.then (y.wp P Q) Q') .normal n w0 M E L := fun a w hA hS => k a w hA hS
theorem f_then_x {K : Act → World → Prop} {i : Nat} (k : Fin Q (.exit i) n w0 M E L) : Fin (Exit.then K Q) (.exit i) n w0 M E L := fun a w hA hS => k a w hA hS
theorem f_then_r {K : Act → World → Prop} (k : Fin Q .ret n w0 M E L) : Fin (Exit.then K Q) .ret n w0 M E L := fun a w hA hS => k a w hA hS
theorem f_blk {i : Nat} (k : Fin Q .normal n w0 M E L) : Fin (Exit.inBlock i Q) .normal n w0 M E L := fun a w hA hS => k a w hA hS
theorem f_blk_r {i : Nat} (k : Fin Q .ret n w0 M E L) : Fin (Exit.inBlock i Q) .ret n w0 M E L := fun a w hA hS => k a w hA hS
theorem f_blk_x {i : Nat} (k : Fin Q .normal n w0 M E L) : Fin (Exit.inBlock i Q) (.exit i) n w0 M E L := fun a w hA hS => by simpa [Exit.inBlock] using k a w hA hS
theorem f_blk_y {i j : Nat} (h : Nat.beq j i = false) (k : Fin Q (.exit j) n w0 M E L) : Fin (Exit.inBlock i Q) (.exit j) n w0 M E L := fun a w hA hS => by
 have hne : j ≠ i := fun he => by subst he; simp at h
 simpa [Exit.inBlock, hne] using k a w hA hS
theorem f_cut {α : Type} {Φ : α → Prop} {E1 : α → List Ent} {L1 : α → Slots} (y : α) (h : Φ y) (hL : Sub L (L1 y)) (hE : ∀ w, St w0 M E w → St w0 M (E1 y) w) : Fin (Exit.then (Cut n w0 M Φ E1 L1) Q) .normal n w0 M E L :=
 fun a w hA hS => ⟨y, h, hA.weaken hL.look, hE w hS⟩
theorem f_again {α : Type} {Φ : α → Prop} {E1 : α → List Ent} {L1 : α → Slots} {μ : α → Nat} {x : α} (y : α) (h : Φ y) (hμ : μ y < μ x) (hL : Sub L (L1 y)) (hE : ∀ w, St w0 M E w → St w0 M (E1 y) w) : Fin (Exit.then (Again n w0 M Φ E1 L1 μ x) Q) .normal n w0 M E L :=
 fun a w hA hS => ⟨y, h, hμ, hA.weaken hL.look, hE w hS⟩

/-! ### Calls -/
def callTy (P : Program) (f : Nat) : Prop := (P.funcs[f]?).map (fun fn => !(fn.name == "runtime.NumGoroutine") && fn.body.isSome) = some true
theorem callTy.run {f : Nat} (h : callTy P f) (args : Array Value) (w : World) : (callFunc f args).run P w = .ok (.enter f args) w := by
 unfold callTy at h
 cases hq : P.funcs[f]? with
 | none => rw [hq] at h; cases h
 | some fn =>
  rw [hq] at h
  simp only [Option.map_some, Option.some.injEq, Bool.and_eq_true, Bool.not_eq_true'] at h
  obtain ⟨h1, h2⟩ := h
  have h3 : fn.body.isNone = false := by cases hb : fn.body <;> simp_all
  unfold callFunc
  simp only [Sem.run_bind, run_program, Result.andThen_ok, hq]
  rw [h1, h3]
  simp
/-- A call: 'Ec' is what the callee takes, 'Er' stays. -/
theorem ef_call {α : Type} {f : Nat} {fo : Operand} {ax : List Operand} {ats : Array TypeId} {fs cs as1 : List Value} (hf : opv L fo = some (.func (.func f) fs.toArray cs.toArray)) (ha : opvs L ax = some as1) (hc : callTy P f)
  (hd : ∀ d, dst = some d → Nat.blt d n = true) (Ec Er : List Ent) (hp : (Ec ++ Er).Perm E) (V : α → Value) (Φ : α → Prop) (En : α → List Ent)
  (h : ∀ w, St w0 M (Ec ++ Er) w → Calls P f (fs ++ as1 ++ cs).toArray w (RtE fun v w' => ∃ x, v = V x ∧ Φ x ∧ St w (fpOf Ec) (En x) w')) :
  Ef P n w0 M E L ⟨dst, .call ⟨.value fo, ax.toArray, ats⟩, ty, pos, af, g⟩ (fun K => ∀ x, Φ x → To n w0 M (En x ++ Er) (match dst with | some d => (d, V x) :: L | none => L) K) := by
 intro K Q a w hK hA hS
 have hS' := hS.perm hp
 have e1 : (fs.toArray ++ (ax.toArray.map a.eval) ++ cs.toArray) = (fs ++ as1 ++ cs).toArray := by
  rw [List.map_toArray, hA.evals ha]; simp
 unfold Oper.wp
 simp only [execOp, resolve, hA.eval hf, Deferred.ofValue, Sem.run_bind, Sem.run_pure, Result.andThen_ok, invoke, e1, hc.run, Oper.upon]
 refine Calls.mono (h w hS') ?_
 rintro e w' ⟨v, rfl, x, rfl, hx, hS2⟩
 have hS3 := hS'.frame hS2
 cases dst with
 | none => exact hK x hx _ _ hA hS3
 | some d => exact hK x hx _ _ (hA.put (hd d rfl)) hS3
end
end Go.Proofs.YtfccnoccfhgcbaaGreatDoor
namespace Go.Proofs.YtfccnoccfhgcbaaGreatDoor
open Go Go.RowKit

/-- Which operation comes when: 'q' a read, that may be taken now; 'alt' one of those that may come up, each with what follows. -/
inductive Tr where
 | done
 | stop
 | q (i : Nat) (r : Tr)
 | alt (i : Nat) (r m : Tr)
def Tr.heads : Tr → List Nat
 | .alt i _ m => i :: m.heads
 | _ => []
def Tr.depth : Tr → Nat
 | .q _ r => r.depth + 1
 | .alt _ r m => max (r.depth + 1) m.depth
 | _ => 0
def Tr.ok (ops : Array Oper) : Tr → Bool → Array Bool → Bool
 | .done, c, l => !c && (Region.ready .any ops l).isEmpty
 | .stop, c, _ => c
 | .q i r, c, l => !c && Region.free .any ops l i && (Region.ready .any ops l).contains i && r.ok ops false (l.setIfInBounds i true)
 | .alt i r m, c, l => (c || Region.ready .any ops l == i :: m.heads) && r.ok ops false (l.setIfInBounds i true) && m.ok ops true l
def Tr.wp (P : Program) (ops : Array Oper) (Q : Exit → Act → World → Prop) (S : World → Prop) : Tr → Act → World → Prop
 | .done, a, w => Q .normal a w
 | .stop, _, _ => True
 | .q i r, a, w => ∃ o v, ops[i]? = some o ∧ YieldsIf P ops S o v a ∧ r.wp P ops Q S (a.put o.dst v) w
 | .alt i r m, a, w => wpOp P ops Q i (fun a' w' => S w' ∧ r.wp P ops Q S a' w') a w ∧ m.wp P ops Q S a w
section
variable {P : Program} {ops : Array Oper} {Q : Exit → Act → World → Prop} {S : World → Prop}
theorem Tr.sound (hs : Region.noSelect ops = true) (hQ : ∀ c a w, ¬ Q (.panic c) a w) : ∀ t : Tr,
  (∀ l a w fuel, t.ok ops false l = true → t.depth ≤ fuel → S w → t.wp P ops Q S a w → wpAnyH P .any ops Q S fuel l a w) ∧
  (∀ l a w fuel, t.ok ops true l = true → t.depth ≤ fuel + 1 → t.wp P ops Q S a w → ∀ j ∈ t.heads, wpOp P ops Q j (fun a' w' => S w' ∧ wpAnyH P .any ops Q S fuel (l.setIfInBounds j true) a' w') a w) := by
 intro t
 induction t with
 | done =>
  refine ⟨fun l a w fuel h _ _ k => ?_, fun _ _ _ _ h => by simp [Tr.ok] at h⟩
  simp only [Tr.ok, Bool.not_false, Bool.true_and, List.isEmpty_iff] at h
  exact wpAnyH_done h k fuel
 | stop => exact ⟨fun _ _ _ _ h => by simp [Tr.ok] at h, fun _ _ _ _ _ _ _ j hj => by simp [Tr.heads] at hj⟩
 | q i r ih =>
  refine ⟨fun l a w fuel h hd hS k => ?_, fun _ _ _ _ h => by simp [Tr.ok] at h⟩
  simp only [Tr.ok, Bool.not_false, Bool.true_and, Bool.and_eq_true] at h
  obtain ⟨⟨h1, h2⟩, h3⟩ := h
  obtain ⟨o, v, k1, k2, k3⟩ := k
  simp only [Tr.depth] at hd
  obtain ⟨fuel, rfl⟩ : ∃ m, fuel = m + 1 := ⟨fuel - 1, by omega⟩
  exact wpAnyH_take k1 hs h1 h2 (fun c a w h => (hQ c _ w h).elim) k2 hS (ih.1 _ _ _ fuel h3 (by omega) hS k3)
 | alt i r m ihr ihm =>
  have second : ∀ l a w fuel, r.ok ops false (l.setIfInBounds i true) = true → m.ok ops true l = true → (Tr.alt i r m).depth ≤ fuel + 1 → (Tr.alt i r m).wp P ops Q S a w →
    ∀ j ∈ i :: m.heads, wpOp P ops Q j (fun a' w' => S w' ∧ wpAnyH P .any ops Q S fuel (l.setIfInBounds j true) a' w') a w := by
   intro l a w fuel h1 h2 hd k j hj
   simp only [Tr.depth] at hd
   rcases List.mem_cons.1 hj with rfl | hj
   ·exact wpOp_mono (fun a' w' h => ⟨h.1, ihr.1 _ a' w' fuel h1 (by omega) h.1 h.2⟩) k.1
   ·exact ihm.2 l a w fuel h2 (by omega) k.2 j hj
  refine ⟨fun l a w fuel h hd hS k => ?_, fun l a w fuel h hd k => ?_⟩
  ·simp only [Tr.ok, Bool.false_or, Bool.and_eq_true, beq_iff_eq] at h
   obtain ⟨⟨h1, h2⟩, h3⟩ := h
   have hd' := hd
   simp only [Tr.depth] at hd'
   obtain ⟨fuel, rfl⟩ : ∃ m, fuel = m + 1 := ⟨fuel - 1, by omega⟩
   exact wpAnyH_all h1 (by simp) (second l a w fuel h2 h3 hd k)
  ·simp only [Tr.ok, Bool.true_or, Bool.true_and, Bool.and_eq_true] at h
   exact second l a w fuel h.1 h.2 hd k
end
def WT (P : Program) (ops : Array Oper) (Q : Exit → Act → World → Prop) (S : World → Prop) (n : Nat) (t : Tr) (w0 : World) (M : Nat → Prop) (E : List Ent) (L : Slots) : Prop :=
 ∀ a w, Has n a L → St w0 M E w → t.wp P ops Q S a w
section
variable {P : Program} {ops : Array Oper} {Q : Exit → Act → World → Prop} {n : Nat} {r m : Tr} {w0 : World} {M : Nat → Prop} {E E' ES : List Ent} {L L' : Slots} {op : Op} {i ty d : Nat} {pos : String} {af : Array Edge} {v : Value}
theorem c_regd {id : Nat} {l : List Oper} (ES : List Ent) (t : Tr) (hm : P.follows .mixedOrders = true) (hs : Region.noSelect l.toArray = true) (hok : t.ok l.toArray false (Array.replicate l.toArray.size false) = true) (hd : Nat.ble t.depth l.length = true)
  (hES : ∀ w, St w0 M E w → St w0 M ES w) (k : WT P l.toArray (NoPanic Q) (St w0 M ES) n t w0 M E L) : WC P Q n (.region id l.toArray true) w0 M E L := by
 intro a w hA hS
 refine wp_region_noPanic (wp_region_held (S := St w0 M ES) hm ?_)
 have hS' := hS.drawn (w.drawn + 1)
 exact (Tr.sound hs (fun _ _ _ h => h) t).1 _ _ _ _ hok (by simpa [Nat.ble_eq] using hd) (hES _ hS') (k _ _ hA hS')
theorem dq (hi : ops[i]? = some ⟨some d, op, ty, pos, af, none⟩) (hr : Rd P (St w0 M ES) n L ⟨some d, op, ty, pos, af, none⟩ v) (hn : Nat.blt d n = true) (k : WT P ops Q (St w0 M ES) n r w0 M E ((d, v) :: L)) :
  WT P ops Q (St w0 M ES) n (.q i r) w0 M E L := fun a w hA hS =>
 ⟨_, v, hi, .inl ⟨by simp [Region.wanted], fun w' hS' => hr a w' hA hS'⟩, k _ _ (hA.put hn) hS⟩
theorem dq1 {j : Nat} {b : Bool} (hi : ops[i]? = some ⟨some d, op, ty, pos, af, some (j, b)⟩) (hy : ∀ a, Has n a L → Region.wanted ⟨some d, op, ty, pos, af, some (j, b)⟩ (yielded ops a.tmps) = true) (hr : Rd P (St w0 M ES) n L ⟨some d, op, ty, pos, af, some (j, b)⟩ v) (hn : Nat.blt d n = true) (k : WT P ops Q (St w0 M ES) n r w0 M E ((d, v) :: L)) :
  WT P ops Q (St w0 M ES) n (.q i r) w0 M E L := fun a w hA hS =>
 ⟨_, v, hi, .inl ⟨hy a hA, fun w' hS' => hr a w' hA hS'⟩, k _ _ (hA.put hn) hS⟩
theorem dq0 {j : Nat} {b : Bool} (hi : ops[i]? = some ⟨some d, op, ty, pos, af, some (j, b)⟩) (hy : ∀ a, Has n a L → Region.wanted ⟨some d, op, ty, pos, af, some (j, b)⟩ (yielded ops a.tmps) = false) (hn : Nat.blt d n = true) (k : WT P ops Q (St w0 M ES) n r w0 M E ((d, undef) :: L)) :
  WT P ops Q (St w0 M ES) n (.q i r) w0 M E L := fun a w hA hS =>
 ⟨_, undef, hi, .inr ⟨hy a hA, rfl⟩, k _ _ (hA.put hn) hS⟩
theorem wpOp_of {o : Oper} {K : Act → World → Prop} {a : Act} {w : World} (hi : ops[i]? = some o) (hg : o.guard = none) (h : o.wp P a w K Q) : wpOp P ops Q i K a w := by
 unfold wpOp
 simp only [hi, Region.wanted, hg, if_true]
 exact .inl h
theorem de {o : Oper} (hi : ops[i]? = some o) (hg : o.guard = none) (he : Ef P n w0 M E L o (fun K => To n w0 M E' L' K)) (hES : ∀ w, St w0 M E' w → St w0 M ES w) (k : WT P ops Q (St w0 M ES) n r w0 M E' L')
  (k2 : WT P ops Q (St w0 M ES) n m w0 M E L) : WT P ops Q (St w0 M ES) n (.alt i r m) w0 M E L := fun a w hA hS =>
 ⟨wpOp_of hi hg (he _ _ a w (fun a w h1 h2 => ⟨hES w h2, k a w h1 h2⟩) hA hS), k2 a w hA hS⟩
theorem dx {α : Type} {o : Oper} {Φ : α → Prop} {E1 : α → List Ent} {L1 : α → Slots} (hi : ops[i]? = some o) (hg : o.guard = none) (he : Ef P n w0 M E L o (fun K => ∀ x, Φ x → To n w0 M (E1 x) (L1 x) K))
  (hES : ∀ x, Φ x → ∀ w, St w0 M (E1 x) w → St w0 M ES w) (k : ∀ x, Φ x → WT P ops Q (St w0 M ES) n r w0 M (E1 x) (L1 x)) (k2 : WT P ops Q (St w0 M ES) n m w0 M E L) : WT P ops Q (St w0 M ES) n (.alt i r m) w0 M E L := fun a w hA hS =>
 ⟨wpOp_of hi hg (he _ _ a w (fun x hx a w h1 h2 => ⟨hES x hx w h2, k x hx a w h1 h2⟩) hA hS), k2 a w hA hS⟩
theorem wpOp_of_g {o : Oper} {K : Act → World → Prop} {a : Act} {w : World} (hi : ops[i]? = some o) (hy : Region.wanted o (yielded ops a.tmps) = true) (h : o.wp P a w K Q) : wpOp P ops Q i K a w := by
 unfold wpOp
 simp only [hi, hy, if_true]
 exact .inl h
/-- A guarded operation that turns the state. -/
theorem deg {o : Oper} (hi : ops[i]? = some o) (hy : ∀ a, Has n a L → Region.wanted o (yielded ops a.tmps) = true) (he : Ef P n w0 M E L o (fun K => To n w0 M E' L' K)) (hES : ∀ w, St w0 M E' w → St w0 M ES w) (k : WT P ops Q (St w0 M ES) n r w0 M E' L')
  (k2 : WT P ops Q (St w0 M ES) n m w0 M E L) : WT P ops Q (St w0 M ES) n (.alt i r m) w0 M E L := fun a w hA hS =>
 ⟨wpOp_of_g hi (hy a hA) (he _ _ a w (fun a w h1 h2 => ⟨hES w h2, k a w h1 h2⟩) hA hS), k2 a w hA hS⟩
theorem dxg {α : Type} {o : Oper} {Φ : α → Prop} {E1 : α → List Ent} {L1 : α → Slots} (hi : ops[i]? = some o) (hy : ∀ a, Has n a L → Region.wanted o (yielded ops a.tmps) = true) (he : Ef P n w0 M E L o (fun K => ∀ x, Φ x → To n w0 M (E1 x) (L1 x) K))
  (hES : ∀ x, Φ x → ∀ w, St w0 M (E1 x) w → St w0 M ES w) (k : ∀ x, Φ x → WT P ops Q (St w0 M ES) n r w0 M (E1 x) (L1 x)) (k2 : WT P ops Q (St w0 M ES) n m w0 M E L) : WT P ops Q (St w0 M ES) n (.alt i r m) w0 M E L := fun a w hA hS =>
 ⟨wpOp_of_g hi (hy a hA) (he _ _ a w (fun x hx a w h1 h2 => ⟨hES x hx w h2, k x hx a w h1 h2⟩) hA hS), k2 a w hA hS⟩
/-- A guarded one that would turn the state, and does not come up. -/
theorem de0 {j : Nat} {b : Bool} (hi : ops[i]? = some ⟨some d, op, ty, pos, af, some (j, b)⟩) (hy : ∀ a, Has n a L → Region.wanted ⟨some d, op, ty, pos, af, some (j, b)⟩ (yielded ops a.tmps) = false) (hn : Nat.blt d n = true) (hES : ∀ w, St w0 M E w → St w0 M ES w)
  (k : WT P ops Q (St w0 M ES) n r w0 M E ((d, undef) :: L)) (k2 : WT P ops Q (St w0 M ES) n m w0 M E L) : WT P ops Q (St w0 M ES) n (.alt i r m) w0 M E L := fun a w hA hS => by
 refine ⟨?_, k2 a w hA hS⟩
 unfold wpOp
 simp only [hi, hy a hA]
 exact ⟨hES w hS, k _ _ (hA.put hn) hS⟩
theorem d_stop : WT P ops Q (St w0 M ES) n .stop w0 M E L := fun _ _ _ _ => trivial
theorem d_end (k : Fin Q .normal n w0 M E L) : WT P ops (NoPanic Q) (St w0 M ES) n .done w0 M E L := fun a w hA hS => k a w hA hS
theorem d_know {S : World → Prop} {t : Tr} {p : Prop} (h : ∀ w, St w0 M E w → p) (k : p → WT P ops Q S n t w0 M E L) : WT P ops Q S n t w0 M E L := fun a w hA hS => k (h w hS) a w hA hS
end
end Go.Proofs.YtfccnoccfhgcbaaGreatDoor
namespace Go.Proofs.YtfccnoccfhgcbaaGreatDoor
open Go Go.RowKit

section
variable {P : Program} {Q : Exit → Act → World → Prop} {n : Nat} {w0 w : World} {M : Nat → Prop} {E E' : List Ent} {L : Slots} {d ty : Nat} {dst : Option Nat} {pos : String} {af : Array Edge} {g : Option (Nat × Bool)} {x y z : Operand} {v u : Value} {t t' te : TypeId}
 {k : IntKind} {a b c : Int} {bl off : Nat} {vs vs' cs : List Value}

theorem rd_ldb (ht : cellTy P t) (hx : opv L x = some (.pointer (some ⟨bl, off, none⟩))) (hm : Ent.blk bl vs te ∈ E) (hv : vs[off]? = some v) : Rd P (St w0 M E) n L ⟨dst, .load t x, ty, pos, af, g⟩ v :=
 rd_load ht hx fun _ h => (h.cell hm off).trans hv
theorem rd_ldsb {sz : Nat} (ht : aggTy P t sz) (hx : opv L x = some (.pointer (some ⟨bl, off, none⟩))) (hm : Ent.blk bl vs te ∈ E) (hv : GetR vs off sz cs) : Rd P (St w0 M E) n L ⟨dst, .load t x, ty, pos, af, g⟩ (.agg cs.toArray) :=
 rd_loads ht hx hv.spec.1 fun _ h j hj => (h.cell hm (off + j)).trans (hv.spec.2 j hj)
theorem GetR.all : ∀ (vs : List Value), GetR vs 0 vs.length vs
 | [] => .nil
 | _ :: vs => .cons (GetR.all vs)
theorem res_ldb {p : Nat} (ht : cellTy P t) (hx : opv L (.tmp p) = some (.pointer (some ⟨bl, off, none⟩))) (hm : Ent.blk bl vs te ∈ E) (hv : vs[off]? = some v) : ∃ ad, opv L (.tmp p) = some (.pointer (some ad)) ∧ ∀ w, St w0 M E w → (loadVar t ad).run P w = .ok v w :=
 ⟨_, hx, fun w h => run_loadVar_cell ht w _ v ((h.cell hm off).trans hv)⟩
theorem res_ldsb {p sz : Nat} (ht : aggTy P t sz) (hx : opv L (.tmp p) = some (.pointer (some ⟨bl, off, none⟩))) (hm : Ent.blk bl vs te ∈ E) (hv : GetR vs off sz cs) : ∃ ad, opv L (.tmp p) = some (.pointer (some ad)) ∧ ∀ w, St w0 M E w → (loadVar t ad).run P w = .ok (.agg cs.toArray) w :=
 ⟨_, hx, fun w h => by
  obtain ⟨h1, h2⟩ := hv.spec
  subst h1
  exact run_loadVar_agg cs ht w bl off fun j hj => (h.cell hm (off + j)).trans (h2 j hj)⟩

/-! ### Calls that only compute -/
def none' : Nat → Prop := fpOf []
/-- Whatever the world: it comes back with 'v', and nothing that was there has turned. -/
def Pu (P : Program) (f : Nat) (args : List Value) (v : Value) : Prop := ∀ w, Calls P f args.toArray w (RtE fun r w' => r = v ∧ St w none' [] w')
theorem Pu.enter {f : FuncId} {fn : Func} {cd : Code} (hf : P.funcs[f]? = some fn) (hb : fn.body = some cd) (hn : fn.ntmps = n) (hl : Nat.ble vs.length n = true)
  (h : ∀ w, WC P (bodyPost P fn (RtE fun r w' => r = v ∧ St w none' [] w')) n cd w none' [] (mkSlots 0 vs)) : Pu P f vs v :=
 fun w => Go.Proofs.YtfccnoccfhgcbaaGreatDoor.enter hf hb hn hl (St.start w none') (h w)
theorem ef_pure {f : Nat} {fo : Operand} {ax : List Operand} {ats : Array TypeId} {fs cs as1 : List Value} (hf : opv L fo = some (.func (.func f) fs.toArray cs.toArray)) (ha : opvs L ax = some as1) (hc : callTy P f) (hd : Nat.blt d n = true)
  (h : Pu P f (fs ++ as1 ++ cs) v) : Ef P n w0 M E L ⟨some d, .call ⟨.value fo, ax.toArray, ats⟩, ty, pos, af, g⟩ (fun K => To n w0 M E ((d, v) :: L) K) := by
 intro K Q a w hK hA hS
 refine ef_call (α := Unit) hf ha hc (fun d' e => by cases e; exact hd) [] E (.refl _) (fun _ => v) (fun _ => True) (fun _ => []) (fun w _ => (h w).mono ?_) K Q a w (fun _ _ => hK) hA hS
 rintro e w' ⟨r, rfl, rfl, h2⟩
 exact ⟨r, rfl, (), rfl, trivial, h2⟩
/-- The end of a call that only computes. -/
theorem pu_end (h : v = u) : ∀ w, St w0 none' E w → (RtE fun r w' => r = u ∧ St w0 none' [] w') (.returned v) w := fun _ hS => ⟨_, rfl, h, hS.sub (List.nil_sublist _)⟩

/-! ### Structs and slices that are built -/
/-- The fields' places: where each begins, and its cells. -/
def structTy (P : Program) (t : TypeId) (pl : List (Nat × Nat)) (zs : List Value) : Prop :=
 zeroTy P t zs ∧ ∃ fs, P.underlying t = some (.struct fs) ∧ ∀ w, (fs.mapM fun f => do pure (f.offset, ← sizeOf f.type) : Sem (Array (Nat × Nat))).run P w = .ok pl.toArray w
inductive BuildR (pl : Nat → Option (Nat × Nat)) : List Value → List (Nat × Value) → List Value → Prop
 | nil {vs : List Value} : BuildR pl vs [] vs
 | cons {vs : List Value} {i o s : Nat} {v : Value} {cs us : List Value} {r : List (Nat × Value)} {ws : List Value} : pl i = some (o, s) → v.cells.toList = cs → cs.length = s → SetR vs o cs us → BuildR pl us r ws → BuildR pl vs ((i, v) :: r) ws
theorem foldl_set (off : Nat) : ∀ (l : List Value) (k : Nat) (cells : Array Value), off + k + l.length ≤ cells.size →
  ((l.zipIdx k).foldl (fun cs (c, j) => cs.setIfInBounds (off + j) c) cells).size = cells.size ∧
  ∀ j, ((l.zipIdx k).foldl (fun cs (c, j) => cs.setIfInBounds (off + j) c) cells)[j]? = if off + k ≤ j ∧ j < off + k + l.length then l[j - (off + k)]? else cells[j]? := by
 intro l
 induction l with
 | nil => intro k cells _; exact ⟨rfl, fun j => by rw [if_neg (by simp)]; rfl⟩
 | cons c l ih =>
  intro k cells h
  simp only [List.length_cons] at h
  obtain ⟨h1, h2⟩ := ih (k + 1) (cells.setIfInBounds (off + k) c) (by simp; omega)
  simp only [List.zipIdx_cons, List.foldl_cons]
  refine ⟨by rw [h1]; simp, fun j => ?_⟩
  rw [h2 j]
  simp only [List.length_cons]
  by_cases hj : j = off + k
  ·subst hj
   rw [if_neg (by omega), if_pos (by omega)]
   simp [Array.getElem?_setIfInBounds]
   omega
  ·by_cases hc : off + (k + 1) ≤ j ∧ j < off + (k + 1) + l.length
   ·rw [if_pos hc, if_pos (by omega), show j - (off + k) = (j - (off + (k + 1))) + 1 from by omega]
    simp
   ·rw [if_neg hc, if_neg (by omega), Array.getElem?_setIfInBounds_ne (by omega)]
theorem fill_spec {pl : Nat → Option (Nat × Nat)} {us : List Value} {ps : List (Nat × Value)} (h : BuildR pl vs ps us) : Instr.fill pl vs.toArray ps = some us.toArray := by
 induction h with
 | nil => rfl
 | @cons vs i o s v cs us r ws h1 h2 h3 h4 h5 ih =>
  obtain ⟨s1, s2, s3⟩ := h4.spec
  have hsz : v.cells.size = s := by rw [← h3, ← h2]; simp
  have hl : cs.length = s := h3
  have hzi : v.cells.zipIdx.foldl (fun cs (c, j) => cs.setIfInBounds (o + j) c) vs.toArray = us.toArray := by
   have e : v.cells = cs.toArray := by rw [← h2]
   rw [e]
   obtain ⟨f1, f2⟩ := foldl_set o cs 0 vs.toArray (by simpa using s1)
   apply Array.ext_getElem?
   intro j
   have : cs.toArray.zipIdx = (cs.zipIdx 0).toArray := by simp
   rw [this, List.foldl_toArray, f2 j]
   simp only [Nat.add_zero]
   rw [List.getElem?_toArray, List.getElem?_toArray, s3 j]
  simp only [Instr.fill, h1, hsz, List.size_toArray, ne_eq, not_true_eq_false, decide_false, Bool.false_or, decide_eq_true_eq]
  rw [if_neg (by omega), hzi]
  simpa using ih
def partVals (L : Slots) : List (Nat × Operand) → Option (List (Nat × Value))
 | [] => some []
 | (i, x) :: r => match opv L x with
  | none => none
  | some v => match partVals L r with
   | none => none
   | some vs => some ((i, v) :: vs)
theorem partVals_eval {A : Act} (hA : Has n A L) : ∀ {ps : List (Nat × Operand)} {vs : List (Nat × Value)}, partVals L ps = some vs → ps.map (fun (i, x) => (i, A.eval x)) = vs := by
 intro ps
 induction ps with
 | nil => intro vs e; exact Option.some.inj e
 | cons p r ih =>
  obtain ⟨i, x⟩ := p
  intro vs e
  simp only [partVals] at e
  cases hx : opv L x with
  | none => simp [hx] at e
  | some v =>
   cases hr : partVals L r with
   | none => simp [hx, hr] at e
   | some us =>
    simp [hx, hr] at e
    rw [List.map_cons, ih hr, ← e]
    simp only [hA.eval hx]
theorem rd_build {S : World → Prop} {pl : List (Nat × Nat)} {zs us : List Value} {ps : List (Nat × Operand)} {pv : List (Nat × Value)} (ht : structTy P t pl zs) (hp : partVals L ps = some pv) (hb : BuildR (pl.toArray[·]?) zs pv us) :
  Rd P S n L ⟨dst, .build t ps.toArray, ty, pos, af, g⟩ (.agg us.toArray) := by
 intro A w hA _
 obtain ⟨hz, fs, h1, h2⟩ := ht
 obtain ⟨z, z1, z2⟩ := hz.run w
 have e := partVals_eval hA hp
 simp only [execOp, Instr.build, Sem.run_bind, z1, Result.andThen_ok, run_underlying h1, h2 w, List.map_toArray, e, z2, fill_spec hb, Sem.run_pure]
end
end Go.Proofs.YtfccnoccfhgcbaaGreatDoor
namespace Go.Proofs.YtfccnoccfhgcbaaGreatDoor
open Go Go.RowKit

inductive Pick : List Ent → Ent → List Ent → Prop
 | here {e : Ent} {xs : List Ent} : Pick (e :: xs) e xs
 | there {x e : Ent} {xs ys : List Ent} : Pick xs e ys → Pick (x :: xs) e (x :: ys)
theorem Pick.perm {xs ys : List Ent} {e : Ent} (h : Pick xs e ys) : (e :: ys).Perm xs := by
 induction h with
 | here => exact .refl _
 | @there x e xs ys h ih => exact (List.Perm.swap x e ys).trans (ih.cons x)
section
variable {P : Program} {ops : Array Oper} {Q : Exit → Act → World → Prop} {n : Nat} {rest : List Oper} {w0 w : World} {M : Nat → Prop} {E E' ES : List Ent} {L L' : Slots} {e : Ent} {c : Code}
theorem s_front (e : Ent) (h : Pick E e E') (k : WL P ops Q n rest w0 M (e :: E') L) : WL P ops Q n rest w0 M E L := s_ents (fun _ hS => hS.perm h.perm) k
theorem c_front (e : Ent) (h : Pick E e E') (k : WC P Q n c w0 M (e :: E') L) : WC P Q n c w0 M E L := c_ents (fun _ hS => hS.perm h.perm) k
theorem d_front {S : World → Prop} {t : Tr} (e : Ent) (h : Pick E e E') (k : WT P ops Q S n t w0 M (e :: E') L) : WT P ops Q S n t w0 M E L := fun a w hA hS => k a w hA (hS.perm h.perm)
theorem f_front {x : Exit} (e : Ent) (h : Pick E e E') (k : Fin Q x n w0 M (e :: E') L) : Fin Q x n w0 M E L := fun a w hA hS => k a w hA (hS.perm h.perm)
theorem f_ents {x : Exit} (hs : ∀ w, St w0 M E w → St w0 M E' w) (k : Fin Q x n w0 M E' L) : Fin Q x n w0 M E L := fun a w hA hS => k a w hA (hs w hS)
theorem f_know {x : Exit} {p : Prop} (h : ∀ w, St w0 M E w → p) (k : p → Fin Q x n w0 M E L) : Fin Q x n w0 M E L := fun a w hA hS => k (h w hS) a w hA hS
theorem s_drop (E' : List Ent) (h : E'.Sublist E) (k : WL P ops Q n rest w0 M E' L) : WL P ops Q n rest w0 M E L := s_ents (fun _ hS => hS.sub h) k
theorem c_drop (E' : List Ent) (h : E'.Sublist E) (k : WC P Q n c w0 M E' L) : WC P Q n c w0 M E L := c_ents (fun _ hS => hS.sub h) k
/-- A loop: 'ch' are the slots that it turns, 'ec' the entries. -/
theorem c_for {α : Type} (Φ : α → Prop) (ec : α → List Ent) (E0 : List Ent) (ch : α → Slots) (L0 : Slots) (μ : α → Nat) (x0 : α) (h0 : Φ x0) (hL : Sub L (ch x0 ++ L0)) (hE : ∀ w, St w0 M E w → St w0 M (ec x0 ++ E0) w)
  (round : ∀ x, Φ x → WC P (Exit.then (Again n w0 M Φ (fun x => ec x ++ E0) (fun x => ch x ++ L0) μ x) Q) n c w0 M (ec x ++ E0) (ch x ++ L0)) : WC P Q n (.loop c) w0 M E L :=
 c_loop Φ (fun x => ec x ++ E0) (fun x => ch x ++ L0) μ x0 h0 hL hE round
/-- A place where ways meet. -/
theorem c_meet {α : Type} {x y : Code} (Φ : α → Prop) (ec : α → List Ent) (E0 : List Ent) (ch : α → Slots) (L0 : Slots) (hx : WC P (Exit.then (Cut n w0 M Φ (fun x => ec x ++ E0) (fun x => ch x ++ L0)) Q) n x w0 M E L)
  (hy : ∀ t, Φ t → WC P Q n y w0 M (ec t ++ E0) (ch t ++ L0)) : WC P Q n (.seq x y) w0 M E L := c_cut Φ (fun x => ec x ++ E0) (fun x => ch x ++ L0) hx hy

/-! ### Slices that are read -/
/-- In 'w', outside 'M', the slice at 'a' of 'm' elements, 'sz' cells each, holds 'cs'. -/
structure Sl (w : World) (M : Nat → Prop) (a : Option Addr) (m sz : Nat) (cs : List Value) : Prop where
 len : cs.length = m * sz
 max : m ≤ 9223372036854775807
 plain : 0 < m → plainA a
 cell : ∀ j, j < m * sz → w.cell? ⟨ab a, ao a + j, none⟩ = cs[j]?
 out : 0 < m → ¬ M (ab a)
/-- Two entries as1 one. -/
theorem St.merge {e1 e2 e' : Ent} (h : St w0 M (e1 :: e2 :: E) w) (hl : e'.loc) (hk : e1.ok w → e2.ok w → e'.ok w) (hf : ∀ b, e'.fp b → e1.fp b ∨ e2.fp b) : St w0 M (e' :: E) w := by
 have k1 := h.ents e1 (by simp)
 have k2 := h.ents e2 (by simp)
 have hp := List.pairwise_cons.1 h.pair
 have hp2 := List.pairwise_cons.1 hp.2
 refine (h.sub (.cons _ (.cons _ (.refl _)))).add hl (hk k1.2.1 k2.2.1) (fun b hb => ?_) (fun f hf' b hb => ?_)
 ·rcases hf b hb with h1 | h1
  ·exact k1.2.2 b h1
  ·exact k2.2.2 b h1
 ·rcases hf b hb with h1 | h1
  ·exact hp.1 f (List.mem_cons_of_mem _ hf') b h1
  ·exact hp2.1 f hf' b h1
/-- One entry seen in another way. -/
theorem St.turn {e1 e' : Ent} (h : St w0 M (e1 :: E) w) (hl : e'.loc) (hk : e1.ok w → e'.ok w) (hf : ∀ b, e'.fp b → e1.fp b) : St w0 M (e' :: E) w := by
 have k1 := h.ents e1 (by simp)
 exact h.change rfl rfl rfl (Nat.le_refl _) (fun _ _ _ => rfl) hl (hk k1.2.1) (fun b hb => ⟨(k1.2.2 b (hf b hb)).1, .inl (hf b hb)⟩)
/-- Slices hang on their blocks alone. -/
theorem Sl.agree {fp : Nat → Prop} {w w' : World} {A : Option Addr} {m sz : Nat} {cs : List Value} (h : Sl w (fun b => ¬ fp b) A m sz cs) (hsz : 0 < sz) (hw : ∀ b, fp b → w'.heap[b]? = w.heap[b]?) : Sl w' (fun b => ¬ fp b) A m sz cs := by
 refine ⟨h.len, h.max, h.plain, fun j hj => ?_, h.out⟩
 have hm : 0 < m := by
  rcases Nat.eq_zero_or_pos m with h0 | h0
  ·subst h0; simp at hj
  ·exact h0
 have := hw (ab A) (Classical.not_not.1 (h.out hm))
 rw [← h.cell j hj]
 simp only [World.cell?, this]
theorem Sl.mono {M' : Nat → Prop} {w : World} {A : Option Addr} {m sz : Nat} {cs : List Value} (h : Sl w M A m sz cs) (hM : ∀ b, ¬ M b → ¬ M' b) : Sl w M' A m sz cs := ⟨h.len, h.max, h.plain, h.cell, fun hm => hM _ (h.out hm)⟩
theorem Sl.take {w : World} {A : Option Addr} {m sz : Nat} {cs : List Value} (h : Sl w M A m sz cs) {j : Nat} (hj : j ≤ m) : Sl w M A j sz (cs.take (j * sz)) := by
 have hle : j * sz ≤ m * sz := Nat.mul_le_mul_right _ hj
 have := h.max
 refine ⟨by rw [List.length_take, h.len]; omega, by omega, fun h0 => h.plain (by omega), fun i hi => ?_, fun h0 => h.out (by omega)⟩
 rw [h.cell i (by omega), List.getElem?_take, if_pos hi]

/-! ### Whole numbers that fit -/
theorem wrap_i64 {x : Int} (h : -9223372036854775808 ≤ x ∧ x ≤ 9223372036854775807) : IntKind.i64.wrap x = x := IntWalk.i64_in x h
theorem wrap_u64 {x : Int} (h : 0 ≤ x ∧ x ≤ 18446744073709551615) : IntKind.u64.wrap x = x := by
 unfold IntKind.wrap
 simp only [IntKind.bits, IntKind.signed, Bool.false_and, Bool.false_eq_true, if_false]
 omega
theorem wrap_u32 {x : Int} (h : 0 ≤ x ∧ x ≤ 4294967295) : IntKind.u32.wrap x = x := by
 unfold IntKind.wrap
 simp only [IntKind.bits, IntKind.signed, Bool.false_and, Bool.false_eq_true, if_false]
 omega
theorem wrap_u16 {x : Int} (h : 0 ≤ x ∧ x ≤ 65535) : IntKind.u16.wrap x = x := by
 unfold IntKind.wrap
 simp only [IntKind.bits, IntKind.signed, Bool.false_and, Bool.false_eq_true, if_false]
 omega
theorem wrap_u8 {x : Int} (h : 0 ≤ x ∧ x ≤ 255) : IntKind.u8.wrap x = x := by
 unfold IntKind.wrap
 simp only [IntKind.bits, IntKind.signed, Bool.false_and, Bool.false_eq_true, if_false]
 omega

/-! ### Slices that are read, more -/
theorem cell_lt {w : World} {b k : Nat} {v : Value} (h : w.cell? ⟨b, k, none⟩ = some v) : b < w.heap.size := World.block_lt_of_cell? w ⟨b, k, none⟩ h
theorem St.base_cell (h : St w0 M E w) {b k : Nat} {v : Value} (hc : w0.cell? ⟨b, k, none⟩ = some v) (hM : ¬ M b) : w.cell? ⟨b, k, none⟩ = some v := by
 have hb := h.base b (cell_lt hc) hM
 rw [← hc]
 simp only [World.cell?, hb]
variable {S : World → Prop} {dst : Option Nat} {ty t : Nat} {pos : String} {af : Array Edge} {g : Option (Nat × Bool)} {x : Operand} {a : Option Addr} {m sz k : Nat} {cs us : List Value} {v : Value}
theorem Sl.get (h : Sl w0 M a m sz cs) (hS : St w0 M E w) {j : Nat} (hv : cs[j]? = some v) : w.cell? ⟨ab a, ao a + j, none⟩ = some v := by
 have hj : j < cs.length := (List.getElem?_eq_some_iff.1 hv).1
 rw [h.len] at hj
 have hm : 0 < m := by
  rcases Nat.eq_zero_or_pos m with h0 | h0
  ·subst h0; simp at hj
  ·exact h0
 exact hS.base_cell ((h.cell j hj).trans hv) (h.out hm)
/-- A part of a list, by its places. -/
def Part (cs : List Value) (k sz : Nat) (us : List Value) : Prop := us.length = sz ∧ ∀ j, j < sz → cs[k + j]? = us[j]?
theorem rd_ldsl (ht : cellTy P t) (hsl : Sl w0 M a m sz cs) (hx : opv L x = some (.pointer (some ⟨ab a, ao a + k, none⟩))) (hv : cs[k]? = some v) : Rd P (St w0 M E) n L ⟨dst, .load t x, ty, pos, af, g⟩ v :=
 rd_load ht hx fun _ h => hsl.get h hv
theorem rd_ldssl {s : Nat} (ht : aggTy P t s) (hsl : Sl w0 M a m sz cs) (hx : opv L x = some (.pointer (some ⟨ab a, ao a + k, none⟩))) (hv : Part cs k s us) : Rd P (St w0 M E) n L ⟨dst, .load t x, ty, pos, af, g⟩ (.agg us.toArray) :=
 rd_loads ht hx hv.1 fun w h j hj => by
  obtain ⟨u, hu⟩ : ∃ u, us[j]? = some u := ⟨us[j]'(by have := hv.1; omega), by simp⟩
  rw [hu, Nat.add_assoc]
  exact hsl.get h ((hv.2 j hj).trans hu)
/-- The same slice for a callee that takes 'Ec'. -/
theorem Sl.hand (h : Sl w0 M a m sz cs) {Ec Er : List Ent} (hS : St w0 M (Ec ++ Er) w) (hsz : 0 < sz) : Sl w (fpOf Ec) a m sz cs := by
 refine ⟨h.len, h.max, h.plain, fun j hj => ?_, fun hm => ?_⟩
 ·have hv : cs[j]? = some (cs[j]'(by rw [h.len]; exact hj)) := by simp
  rw [hv]
  exact h.get hS hv
 ·rintro ⟨e, he, hfp⟩
  have h1 := ((hS.ents e (List.mem_append_left _ he)).2.2 _ hfp).2
  have h2 : w0.cell? ⟨ab a, ao a + 0, none⟩ = cs[0]? := h.cell 0 (Nat.mul_pos hm hsz)
  have h3 : cs[0]? = some (cs[0]'(by rw [h.len]; exact Nat.mul_pos hm hsz)) := by simp
  have h4 := cell_lt (h2.trans h3)
  rcases h1 with h1 | h1
  ·exact h.out hm h1
  ·omega
theorem Sl.nil (w : World) (M : Nat → Prop) (sz : Nat) (a : Option Addr) : Sl w M a 0 sz [] := ⟨by simp, by simp, fun h => by omega, fun j h => by omega, fun h => by omega⟩
end
end Go.Proofs.YtfccnoccfhgcbaaGreatDoor
namespace Go.Proofs.YtfccnoccfhgcbaaGreatDoor
open Go Go.RowKit

section
variable {P : Program} {S : World → Prop} {ops : Array Oper} {Q : Exit → Act → World → Prop} {n : Nat} {rest : List Oper} {w0 w : World} {M : Nat → Prop} {E E' ES : List Ent} {L L' : Slots} {d ty : Nat} {dst : Option Nat} {pos : String} {af : Array Edge} {g : Option (Nat × Bool)} {x y z : Operand} {v u : Value} {t t' : TypeId}
 {k : IntKind} {a b c : Int} {op : Op}

/-! ### Guards -/
theorem yielded_eq {A : Act} {j dj : Nat} {oj : Oper} {q : Bool} (hA : Has n A L) (hj : ops[j]? = some oj) (hd : oj.dst = some dj) (hl : look L dj = some (.bool q)) : yielded ops A.tmps j = some q := by
 have h := hA.2.2 dj _ hl
 have h2 : A.tmps[dj]? = some (.bool q) := by
  rw [Array.getD_eq_getD_getElem?] at h
  cases hq : A.tmps[dj]? with
  | none => rw [hq] at h; simp [undef] at h
  | some x => rw [hq] at h; simp at h; rw [h]
 simp [yielded, hj, hd, h2]
theorem wanted_yes {A : Act} {j dj : Nat} {oj : Oper} {q b : Bool} {dd : Option Nat} (hA : Has n A L) (hj : ops[j]? = some oj) (hd : oj.dst = some dj) (hl : look L dj = some (.bool q)) (hq : q = b) :
  Region.wanted ⟨dd, op, ty, pos, af, some (j, b)⟩ (yielded ops A.tmps) = true := by
 simp [Region.wanted, yielded_eq hA hj hd hl, hq]
theorem wanted_no {A : Act} {j dj : Nat} {oj : Oper} {q b c : Bool} {dd : Option Nat} (hA : Has n A L) (hj : ops[j]? = some oj) (hd : oj.dst = some dj) (hl : look L dj = some (.bool q)) (hq : q = c) (hc : (c == b) = false) :
  Region.wanted ⟨dd, op, ty, pos, af, some (j, b)⟩ (yielded ops A.tmps) = false := by
 subst hq
 simp only [Region.wanted, yielded_eq hA hj hd hl]
 cases q <;> cases b <;> first | rfl | cases hc
theorem wanted_un {A : Act} {j dj : Nat} {oj : Oper} {b : Bool} {dd : Option Nat} (hA : Has n A L) (hj : ops[j]? = some oj) (hd : oj.dst = some dj) (hl : look L dj = some undef) :
  Region.wanted ⟨dd, op, ty, pos, af, some (j, b)⟩ (yielded ops A.tmps) = false := by
 have h := hA.2.2 dj _ hl
 rw [Array.getD_eq_getD_getElem?] at h
 have hy : yielded ops A.tmps j = none := by
  simp only [yielded, hj, hd, Option.bind_some]
  cases hq : A.tmps[dj]? with
  | none => rfl
  | some x =>
   rw [hq] at h
   have hx : x = undef := by simpa using h
   subst hx
   rfl
 simp [Region.wanted, hy]
theorem c_lit_t {c : Operand} {x y : Code} (hc : opv L c = some (.bool true)) (k : WC P Q n x w0 M E L) : WC P Q n (.cond c x y) w0 M E L := c_cond hc (fun _ => k) (fun h => by cases h)
theorem c_lit_f {c : Operand} {x y : Code} (hc : opv L c = some (.bool false)) (k : WC P Q n y w0 M E L) : WC P Q n (.cond c x y) w0 M E L := c_cond hc (fun h => by cases h) (fun _ => k)
theorem c_hyp_t {c : Operand} {x y : Code} {q : Bool} (hc : opv L c = some (.bool q)) (hq : q = true) (k : WC P Q n x w0 M E L) : WC P Q n (.cond c x y) w0 M E L := by subst hq; exact c_lit_t hc k
theorem c_hyp_f {c : Operand} {x y : Code} {q : Bool} (hc : opv L c = some (.bool q)) (hq : q = false) (k : WC P Q n y w0 M E L) : WC P Q n (.cond c x y) w0 M E L := by subst hq; exact c_lit_f hc k
theorem s_split (d : Nat) {q : Bool} (hd : look L d = some (.bool q)) (kt : q = true → WL P ops Q n rest w0 M E L) (kf : q = false → WL P ops Q n rest w0 M E L) : WL P ops Q n rest w0 M E L := by
 cases q
 ·exact kf rfl
 ·exact kt rfl
theorem d_split {tr : Tr} (d : Nat) {q : Bool} (hd : look L d = some (.bool q)) (kt : q = true → WT P ops Q S n tr w0 M E L) (kf : q = false → WT P ops Q S n tr w0 M E L) : WT P ops Q S n tr w0 M E L := by
 cases q
 ·exact kf rfl
 ·exact kt rfl
theorem rd_pick_tt {q : Bool} (hx : opv L x = some (.bool q)) (hq : q = true) (hy : opv L y = some v) : Rd P S n L ⟨dst, .pick x y z, ty, pos, af, g⟩ v := by subst hq; exact rd_pick_t hx hy
theorem rd_pick_ff {q : Bool} (hx : opv L x = some (.bool q)) (hq : q = false) (hz : opv L z = some u) : Rd P S n L ⟨dst, .pick x y z, ty, pos, af, g⟩ u := by subst hq; exact rd_pick_f hx hz
/-- A guarded operation that turns the state, whose guard says yes. -/
theorem seg {dd : Option Nat} {j : Nat} {b : Bool} (hy : ∀ a, Has n a L → Region.wanted ⟨dd, op, ty, pos, af, some (j, b)⟩ (yielded ops a.tmps) = true) (he : Ef P n w0 M E L ⟨dd, op, ty, pos, af, some (j, b)⟩ (fun K => To n w0 M E' L' K)) (k : WL P ops Q n rest w0 M E' L') :
  WL P ops Q n (⟨dd, op, ty, pos, af, some (j, b)⟩ :: rest) w0 M E L := by
 intro a w hA hS
 unfold wpList
 rw [if_pos (hy a hA)]
 exact .inl (he _ _ a w k hA hS)
theorem sxg {α : Type} {dd : Option Nat} {j : Nat} {b : Bool} {Φ : α → Prop} {E1 : α → List Ent} {L1 : α → Slots} (hy : ∀ a, Has n a L → Region.wanted ⟨dd, op, ty, pos, af, some (j, b)⟩ (yielded ops a.tmps) = true)
  (he : Ef P n w0 M E L ⟨dd, op, ty, pos, af, some (j, b)⟩ (fun K => ∀ x, Φ x → To n w0 M (E1 x) (L1 x) K)) (k : ∀ x, Φ x → WL P ops Q n rest w0 M (E1 x) (L1 x)) :
  WL P ops Q n (⟨dd, op, ty, pos, af, some (j, b)⟩ :: rest) w0 M E L := by
 intro a w hA hS
 unfold wpList
 rw [if_pos (hy a hA)]
 exact .inl (he _ _ a w k hA hS)
theorem ef_quiet {op : Op} (hr : Rd P (St w0 M E) n L ⟨some d, op, ty, pos, af, g⟩ v) (hd : Nat.blt d n = true) : Ef P n w0 M E L ⟨some d, op, ty, pos, af, g⟩ (fun K => To n w0 M E ((d, v) :: L) K) := by
 intro K Q a w hK hA hS
 unfold Oper.wp
 rw [hr a w hA hS]
 exact hK _ _ (hA.put hd) hS

/-- A call of a function without a body that only computes. -/
theorem rd_ext {f : Nat} {fo : Operand} {ax : List Operand} {ats : Array TypeId} {as1 : List Value} (hf : opv L fo = some (.func (.func f) #[] #[])) (ha : opvs L ax = some as1) (h : ∀ w, (callFunc f as1.toArray).run P w = .ok (.value v) w) :
  Rd P S n L ⟨dst, .call ⟨.value fo, ax.toArray, ats⟩, ty, pos, af, g⟩ v := fun A w hA _ => by
 have e1 : ax.toArray.map A.eval = as1.toArray := by rw [List.map_toArray, hA.evals ha]
 simp [execOp, resolve, hA.eval hf, Deferred.ofValue, invoke, e1, h]

/-! ### Calls that only compute, at one world -/
def Pw (P : Program) (w : World) (f : Nat) (args : List Value) (v : Value) : Prop := Calls P f args.toArray w (RtE fun r w' => r = v ∧ St w none' [] w')
theorem Pw.enter {f : FuncId} {fn : Func} {cd : Code} {vs : List Value} (hf : P.funcs[f]? = some fn) (hb : fn.body = some cd) (hn : fn.ntmps = n) (hl : Nat.ble vs.length n = true)
  (h : WC P (bodyPost P fn (RtE fun r w' => r = v ∧ St w none' [] w')) n cd w none' [] (mkSlots 0 vs)) : Pw P w f vs v := Go.Proofs.YtfccnoccfhgcbaaGreatDoor.enter hf hb hn hl (St.start w none') h
theorem ef_pw {f : Nat} {fo : Operand} {ax : List Operand} {ats : Array TypeId} {fs cs as1 : List Value} (hf : opv L fo = some (.func (.func f) fs.toArray cs.toArray)) (ha : opvs L ax = some as1) (hc : callTy P f) (hd : Nat.blt d n = true)
  (h : ∀ w, St w0 M E w → Pw P w f (fs ++ as1 ++ cs) v) : Ef P n w0 M E L ⟨some d, .call ⟨.value fo, ax.toArray, ats⟩, ty, pos, af, g⟩ (fun K => To n w0 M E ((d, v) :: L) K) := by
 intro K Q a w hK hA hS
 refine ef_call (α := Unit) hf ha hc (fun d' e => by cases e; exact hd) [] E (.refl _) (fun _ => v) (fun _ => True) (fun _ => []) (fun w hS => (h w hS).mono ?_) K Q a w (fun _ _ => hK) hA hS
 rintro e w' ⟨r, rfl, rfl, h2⟩
 exact ⟨r, rfl, (), rfl, trivial, h2⟩
theorem Pu.at {f : Nat} {as1 : List Value} (h : Pu P f as1 v) (w : World) : Pw P w f as1 v := h w
/-- What was there when the callee began reads on. -/
theorem rd_ldbase {ad : Addr} (ht : cellTy P t) (hx : opv L x = some (.pointer (some ad))) (hp : ad.spot = none) (h : w0.cell? ad = some v) (hM : ¬ M ad.block) : Rd P (St w0 M E) n L ⟨dst, .load t x, ty, pos, af, g⟩ v :=
 rd_load ht hx fun _ hS => by
  obtain ⟨b, o, s⟩ := ad
  have hs : s = none := hp
  subst hs
  exact hS.base_cell h hM
theorem rd_ldsbase {b o s : Nat} {us : List Value} (ht : aggTy P t s) (hx : opv L x = some (.pointer (some ⟨b, o, none⟩))) (hl : us.length = s) (h : ∀ j v, us[j]? = some v → w0.cell? ⟨b, o + j, none⟩ = some v) (hM : ¬ M b) : Rd P (St w0 M E) n L ⟨dst, .load t x, ty, pos, af, g⟩ (.agg us.toArray) :=
 rd_loads ht hx hl fun w hS j hj => by
  obtain ⟨u, hu⟩ : ∃ u, us[j]? = some u := ⟨us[j]'(by omega), by simp⟩
  rw [hu]
  exact hS.base_cell (h j u hu) hM
theorem none'_no (b : Nat) : ¬ none' b := fun ⟨_, h, _⟩ => by cases h

/-! ### Whole numbers -/
theorem rd_and' (hx : opv L x = some (.int k a)) (hy : opv L y = some (.int k b)) (h : bits .and k a b = c) : Rd P S n L ⟨dst, .binOp .and t x y t', ty, pos, af, g⟩ (.int k c) := rd_and hx hy h
theorem rd_or' (hx : opv L x = some (.int k a)) (hy : opv L y = some (.int k b)) (h : bits .or k a b = c) : Rd P S n L ⟨dst, .binOp .or t x y t', ty, pos, af, g⟩ (.int k c) := rd_or hx hy h
theorem rd_xor' (hx : opv L x = some (.int k a)) (hy : opv L y = some (.int k b)) (h : bits .xor k a b = c) : Rd P S n L ⟨dst, .binOp .xor t x y t', ty, pos, af, g⟩ (.int k c) := rd_xor hx hy h
theorem quo_i64 (h0 : 0 ≤ a) (hb : 0 < b) (h1 : a ≤ 9223372036854775807) : IntKind.i64.wrap (a.tdiv b) = a / b := by
 rw [Int.tdiv_eq_ediv_of_nonneg h0]
 have h2 : 0 ≤ a / b := Int.ediv_nonneg h0 (by omega)
 have h3 : a / b ≤ a := Int.ediv_le_self b h0
 exact wrap_i64 ⟨by omega, by omega⟩
theorem wrap_i8 {x : Int} (h : -128 ≤ x ∧ x ≤ 127) : IntKind.i8.wrap x = x := IntWalk.i8_in x h
theorem wrap_i32 {x : Int} (h : -2147483648 ≤ x ∧ x ≤ 2147483647) : IntKind.i32.wrap x = x := IntWalk.i32_in x h
theorem wrap_i16 {x : Int} (h : -32768 ≤ x ∧ x ≤ 32767) : IntKind.i16.wrap x = x := IntWalk.i16_in x h

/-! ### Sub-slices -/
def subA (a : Option Addr) (cap l sz : Nat) : Option Addr := if cap = l then a else a.map fun ad => ad.add (l * sz)
theorem subA_zero (a : Option Addr) (cap sz : Nat) : subA a cap 0 sz = a := by
 unfold subA
 split
 ·rfl
 ·cases a <;> simp [Addr.add]
theorem subA_plain {a : Option Addr} {cap l sz : Nat} (h : plainA a) (hl : l < cap) : subA a cap l sz = some ⟨ab a, ao a + l * sz, none⟩ := by
 unfold subA
 rw [if_neg (by omega)]
 have h' : a = some ⟨ab a, ao a, none⟩ := h
 generalize ab a = B at *
 generalize ao a = O at *
 subst h'
 simp [addr_add]
theorem run_slice {A0 : Option Addr} {m cap e sz lo hi : Nat} {kl kh : IntKind} {il ih : Int} (hs : sliceTy P t e sz) (w : World) (hl : 0 ≤ il) (hlh : il ≤ ih) (hh : ih ≤ cap) (e1 : il.toNat = lo) (e2 : ih.toNat = hi) :
  (Instr.sliceAt t (.slice A0 m cap) (some (.int kl il)) (some (.int kh ih)) none).run P w = .ok (.slice (subA A0 cap lo sz) (hi - lo) (cap - lo)) w := by
 have hc1 : 0 ≤ ih ∧ ih ≤ (cap : Int) := ⟨by omega, hh⟩
 have hc2 : 0 ≤ il ∧ il ≤ (ih.toNat : Int) := ⟨hl, by omega⟩
 subst e1 e2
 simp [Instr.sliceAt, Instr.slice, run_underlying hs.1, Instr.sliceBounds, Instr.sliceBound, asIntOf, hc1, hc2, size_run hs.2, subA, -Int.ofNat_toNat]
theorem rd_slice {A0 : Option Addr} {m cap e sz : Nat} {kl kh : IntKind} {il ih : Int} (hs : sliceTy P t e sz) (hx : opv L x = some (.slice A0 m cap)) (hy : opv L y = some (.int kl il)) (hz : opv L z = some (.int kh ih)) (hl : 0 ≤ il) (hlh : il ≤ ih) (hh : ih ≤ cap) :
  Rd P S n L ⟨dst, .slice t x (some y) (some z) none, ty, pos, af, g⟩ (.slice (subA A0 cap il.toNat sz) (ih.toNat - il.toNat) (cap - il.toNat)) := fun A w hA _ => by
 simp [execOp, hA.eval hx, hA.eval hy, hA.eval hz, run_slice hs w hl hlh hh rfl rfl]
theorem run_slice_hi {A0 : Option Addr} {m cap e sz : Nat} {kh : IntKind} {ih : Int} (hs : sliceTy P t e sz) (w : World) (h0 : 0 ≤ ih) (hh : ih ≤ cap) :
  (Instr.sliceAt t (.slice A0 m cap) none (some (.int kh ih)) none).run P w = .ok (.slice A0 ih.toNat cap) w := by
 have hc1 : 0 ≤ ih ∧ ih ≤ (cap : Int) := ⟨h0, hh⟩
 have hz := subA_zero A0 cap sz
 simp only [subA, Nat.zero_mul] at hz
 simp [Instr.sliceAt, Instr.slice, run_underlying hs.1, Instr.sliceBounds, Instr.sliceBound, asIntOf, hc1, size_run hs.2, hz]
theorem rd_slice_hi {A0 : Option Addr} {m cap e sz : Nat} {kh : IntKind} {ih : Int} (hs : sliceTy P t e sz) (hx : opv L x = some (.slice A0 m cap)) (hz : opv L z = some (.int kh ih)) (h0 : 0 ≤ ih) (hh : ih ≤ cap) :
  Rd P S n L ⟨dst, .slice t x none (some z) none, ty, pos, af, g⟩ (.slice A0 ih.toNat cap) := fun A w hA _ => by
 simp [execOp, hA.eval hx, hA.eval hz, run_slice_hi hs w h0 hh]
theorem run_slice_lo {A0 : Option Addr} {m cap e sz : Nat} {kl : IntKind} {il : Int} (hs : sliceTy P t e sz) (w : World) (h0 : 0 ≤ il) (hh : il ≤ m) :
  (Instr.sliceAt t (.slice A0 m cap) (some (.int kl il)) none none).run P w = .ok (.slice (subA A0 cap il.toNat sz) (m - il.toNat) (cap - il.toNat)) w := by
 have hc1 : 0 ≤ il ∧ il ≤ (m : Int) := ⟨h0, hh⟩
 simp [Instr.sliceAt, Instr.slice, run_underlying hs.1, Instr.sliceBounds, Instr.sliceBound, asIntOf, hc1, size_run hs.2, subA]
theorem rd_slice_lo {A0 : Option Addr} {m cap e sz : Nat} {kl : IntKind} {il : Int} (hs : sliceTy P t e sz) (hx : opv L x = some (.slice A0 m cap)) (hy : opv L y = some (.int kl il)) (h0 : 0 ≤ il) (hh : il ≤ m) :
  Rd P S n L ⟨dst, .slice t x (some y) none none, ty, pos, af, g⟩ (.slice (subA A0 cap il.toNat sz) (m - il.toNat) (cap - il.toNat)) := fun A w hA _ => by
 simp [execOp, hA.eval hx, hA.eval hy, run_slice_lo hs w h0 hh]

/-! ### Arrays that are built -/
def arrB (P : Program) (t sz : Nat) (zs : List Value) : Prop := zeroTy P t zs ∧ (∃ len e, P.underlying t = some (.array len e) ∧ (P.info? e).map (·.size) = some sz)
theorem rd_builda {sz : Nat} {zs us : List Value} {ps : List (Nat × Operand)} {pv : List (Nat × Value)} (ht : arrB P t sz zs) (hp : partVals L ps = some pv) (hb : BuildR (fun i => some (i * sz, sz)) zs pv us) :
  Rd P S n L ⟨dst, .build t ps.toArray, ty, pos, af, g⟩ (.agg us.toArray) := by
 intro A w hA _
 obtain ⟨hz, len, e, h1, h2⟩ := ht
 obtain ⟨z, z1, z2⟩ := hz.run w
 have ev := partVals_eval hA hp
 simp only [execOp, Instr.build, Sem.run_bind, z1, Result.andThen_ok, run_underlying h1, size_run h2, List.map_toArray, ev, z2, fill_spec hb, Sem.run_pure]

/-! ### Slices that are built -/
def rowTy (P : Program) (t e sz bytes : Nat) (zs : List Value) : Prop :=
 P.underlying t = some (.slice e) ∧ (P.info? e).map (·.size) = some sz ∧ (P.info? e).map (·.bytes) = some bytes ∧ zeroTy P e zs ∧ 0 < sz ∧ zs.length = sz
theorem rowTy.slice {e sz bytes : Nat} {zs : List Value} (h : rowTy P t e sz bytes zs) : sliceTy P t e sz := ⟨h.1, h.2.1⟩
def zrep (m : Nat) (zs : List Value) : List Value := (List.range (m * zs.length)).map fun i => zs[i % zs.length]!
theorem ef_slice {e sz bytes m : Nat} {zs us : List Value} {ps : List (Nat × Operand)} {pv : List (Nat × Value)} (ht : rowTy P t e sz bytes zs) (hp : partVals L ps = some pv) (hb : BuildR (fun i => some (i * sz, sz)) (zrep m zs) pv us) (hm : Nat.ble (m * sz) 16777216 = true) (hd : Nat.blt d n = true) :
  Ef P n w0 M E L ⟨some d, .buildSlice t m ps.toArray, ty, pos, af, g⟩ (fun K => ∀ bl : Nat, w0.heap.size ≤ bl → To n w0 M (.blk bl us e :: E) ((d, .slice (some ⟨bl, 0, none⟩) m m) :: L) K) := by
 intro K Q A w hK hA hS
 obtain ⟨h1, h2, h3, h4, h5, h6⟩ := ht
 obtain ⟨z, z1, z2⟩ := h4.run w
 have ev := partVals_eval hA hp
 have hm' : ¬ (m * sz > 2 ^ 24) := by
  have : m * sz ≤ 16777216 := by simpa [Nat.ble_eq] using hm
  omega
 have hc : ((Array.range (m * sz)).map fun i => (if m * sz = 0 then #[] else zs.toArray)[i % (if m * sz = 0 then #[] else zs.toArray).size]!) = (zrep m zs).toArray := by
  unfold zrep
  rw [h6]
  by_cases h0 : m * sz = 0
  ·simp [h0]
  ·simp only [h0, if_false]
   rw [← List.toArray_range, List.map_toArray]
   congr 1
   apply List.map_congr_left
   intro i _
   simp [h6]
 have hr : (Instr.buildSlice t m (ps.toArray.map fun (i, x) => (i, A.eval x))).run P w = .ok (.slice (some ⟨w.heap.size, 0, none⟩) m m) (w.alloc (.cells us.toArray e)) := by
  unfold Instr.buildSlice
  simp only [Sem.run_bind, run_underlying h1, Result.andThen_ok, size_run h2, List.map_toArray, ev]
  rw [if_neg hm']
  by_cases h0 : m * sz = 0
  ·have hc' := hc
   simp only [h0, if_true] at hc'
   simp only [h0, if_true, Sem.run_bind, Sem.run_pure, Result.andThen_ok, hc', fill_spec hb, newRow, run_newObj]
   rfl
  ·have hc' := hc
   simp only [h0, if_false] at hc'
   simp only [h0, if_false, Sem.run_bind, Sem.run_pure, Result.andThen_ok, z1, z2, hc', fill_spec hb, newRow, run_newObj]
   rfl
 unfold Oper.wp
 simp only [execOp, Sem.run_bind, hr, Result.andThen_ok, Sem.run_pure, Oper.upon]
 exact hK w.heap.size hS.size _ _ (hA.put hd) (hS.alloc us e)
end
end Go.Proofs.YtfccnoccfhgcbaaGreatDoor
namespace Go.Proofs.YtfccnoccfhgcbaaGreatDoor
open Go Go.RowKit

section
variable {P : Program} {S : World → Prop} {ops : Array Oper} {Q : Exit → Act → World → Prop} {n : Nat} {rest : List Oper} {w0 w : World} {M : Nat → Prop} {E E' ES : List Ent} {L L' : Slots} {d ty : Nat} {dst : Option Nat} {pos : String} {af : Array Edge} {g : Option (Nat × Bool)} {x y z : Operand} {v u : Value} {t t' e sz bytes m cap c : Nat}
 {k : IntKind} {A A2 : Option Addr} {k2 : Nat} {zs xs news us cs : List Value}

/-! ### A row, as1 it lies -/
theorem row_shape (h : w.ownsRow 0 e sz (.slice A m cap) m xs) : xs.length = m * sz ∧ ((A = none ∧ m = 0 ∧ cap = 0) ∨ ∃ gb, A = some ⟨gb, 0, none⟩ ∧ m ≤ cap ∧ cap ≤ maxLen ∧ ∃ cur : Array Value, w.heap[gb]? = some (.cells cur e (0, 0)) ∧ cur.size = cap * sz ∧ cur.toList.take (m * sz) = xs) := by
 obtain ⟨h1, h2⟩ := h
 refine ⟨h1, ?_⟩
 rcases h2 with ⟨hv, hm⟩ | ⟨gb, cap', cur, hv, _, hg, h3, h4, h5, h6⟩
 ·injection hv with a1 a2 a3
  exact .inl ⟨a1, hm, a3⟩
 ·injection hv with a1 a2 a3
  subst a3
  exact .inr ⟨gb, a1, h3, h4, cur, hg, h5, h6⟩
/-- What a row's entry tells by itself. -/
theorem row_know (hm : Ent.row e sz A m cap xs ∈ E) : ∀ w, St w0 M E w → xs.length = m * sz ∧ m ≤ cap ∧ cap ≤ maxLen ∧ (0 < m → plainA A ∧ ao A = 0) := fun w hS => by
 obtain ⟨h1, h2⟩ := row_shape (hS.ents _ hm).2.1
 refine ⟨h1, ?_⟩
 rcases h2 with ⟨rfl, rfl, rfl⟩ | ⟨gb, rfl, h3, h4, _⟩
 ·exact ⟨Nat.le_refl _, by simp [maxLen], fun h => by omega⟩
 ·exact ⟨h3, h4, fun _ => ⟨rfl, rfl⟩⟩
theorem row_cell (hm : Ent.row e sz A m cap xs ∈ E) (hS : St w0 M E w) {j : Nat} (hv : xs[j]? = some v) : w.cell? ⟨ab A, ao A + j, none⟩ = some v := by
 obtain ⟨h1, h2⟩ := row_shape (hS.ents _ hm).2.1
 have hj : j < xs.length := (List.getElem?_eq_some_iff.1 hv).1
 rcases h2 with ⟨rfl, rfl, rfl⟩ | ⟨gb, rfl, h3, h4, cur, hg, h5, h6⟩
 ·rw [h1] at hj; simp at hj
 ·show w.cell? ⟨gb, 0 + j, none⟩ = _
  rw [Nat.zero_add, cell_of_row w gb j cur e (0, 0) hg]
  rw [← h6, List.getElem?_take] at hv
  split at hv
  ·simpa using hv
  ·cases hv
theorem rd_ldr (ht : cellTy P t) (hm : Ent.row e sz A m cap xs ∈ E) (hx : opv L x = some (.pointer (some ⟨ab A, ao A + c, none⟩))) (hv : xs[c]? = some v) : Rd P (St w0 M E) n L ⟨dst, .load t x, ty, pos, af, g⟩ v :=
 rd_load ht hx fun _ h => row_cell hm h hv
theorem rd_ldsr {s : Nat} (ht : aggTy P t s) (hm : Ent.row e sz A m cap xs ∈ E) (hx : opv L x = some (.pointer (some ⟨ab A, ao A + c, none⟩))) (hv : Part xs c s us) : Rd P (St w0 M E) n L ⟨dst, .load t x, ty, pos, af, g⟩ (.agg us.toArray) :=
 rd_loads ht hx hv.1 fun w h j hj => by
  obtain ⟨u, hu⟩ : ∃ u, us[j]? = some u := ⟨us[j]'(by have := hv.1; omega), by simp⟩
  rw [hu, Nat.add_assoc]
  exact row_cell hm h ((hv.2 j hj).trans hu)
/-- Nothing yet. -/
theorem St.nilrow (h : St w0 M E w) (e sz : Nat) : St w0 M (.row e sz none 0 0 [] :: E) w :=
 h.add (Ent.loc_row _ _ _ _ _ _) (World.ownsRow_nil w 0 e sz) (fun b hb => by simp [Ent.fp] at hb) (fun f _ b hb => by simp [Ent.fp] at hb)
theorem s_nilrow (e sz : Nat) (h : WL P ops Q n rest w0 M (.row e sz none 0 0 [] :: E) L) : WL P ops Q n rest w0 M E L := s_ents (fun _ hS => hS.nilrow e sz) h
theorem c_nilrow {cd : Code} (e sz : Nat) (h : WC P Q n cd w0 M (.row e sz none 0 0 [] :: E) L) : WC P Q n cd w0 M E L := c_ents (fun _ hS => hS.nilrow e sz) h
/-- A block as1 a row. -/
theorem St.asRow {b : Nat} (h : St w0 M (.blk b xs e :: E) w) (sz m : Nat) (hl : xs.length = m * sz) (hm : m ≤ maxLen) : St w0 M (.row e sz (some ⟨b, 0, none⟩) m m xs :: E) w := by
 have hb := h.blk (List.mem_cons_self ..)
 have hf := (h.ents _ (List.mem_cons_self ..)).2.2
 refine h.change rfl rfl rfl (Nat.le_refl _) (fun _ _ _ => rfl) (Ent.loc_row _ _ _ _ _ _) ⟨hl, .inr ⟨b, m, xs.toArray, rfl, Nat.zero_le _, hb, Nat.le_refl _, hm, by simpa using hl, by simp [← hl]⟩⟩ ?_
 intro k hk
 have hk' : k = b := by
  have : b = k := by simpa [Ent.fp] using hk
  exact this.symm
 subst hk'
 exact ⟨(hf _ rfl).1, .inl rfl⟩
theorem s_asRow {b : Nat} (sz m : Nat) (hl : xs.length = m * sz) (hm : Nat.ble m maxLen = true) (h : WL P ops Q n rest w0 M (.row e sz (some ⟨b, 0, none⟩) m m xs :: E) L) : WL P ops Q n rest w0 M (.blk b xs e :: E) L :=
 s_ents (fun _ hS => hS.asRow sz m hl (by simpa [Nat.ble_eq] using hm)) h
theorem d_asRow {b : Nat} {tr : Tr} (sz m : Nat) (hl : xs.length = m * sz) (hm : Nat.ble m maxLen = true) (h : WT P ops Q S n tr w0 M (.row e sz (some ⟨b, 0, none⟩) m m xs :: E) L) : WT P ops Q S n tr w0 M (.blk b xs e :: E) L :=
 fun a w hA hS => h a w hA (hS.asRow sz m hl (by simpa [Nat.ble_eq] using hm))
/-- A row's beginning. -/
theorem St.rowTake (h : St w0 M (.row e sz A m cap xs :: E) w) (j : Nat) (hj : j ≤ m) : St w0 M (.row e sz A j cap (xs.take (j * sz)) :: E) w := by
 obtain ⟨h1, h2⟩ := row_shape (h.ents _ (by simp : Ent.row e sz A m cap xs ∈ _)).2.1
 have hf := (h.ents _ (by simp : Ent.row e sz A m cap xs ∈ _)).2.2
 have hjs : j * sz ≤ m * sz := Nat.mul_le_mul_right _ hj
 refine h.change rfl rfl rfl (Nat.le_refl _) (fun _ _ _ => rfl) (Ent.loc_row _ _ _ _ _ _) ⟨by rw [List.length_take, h1]; omega, ?_⟩ (fun k hk => ⟨(hf k hk).1, .inl hk⟩)
 rcases h2 with ⟨rfl, rfl, rfl⟩ | ⟨gb, rfl, h3, h4, cur, hg, h5, h6⟩
 ·have : j = 0 := by omega
  subst this
  exact .inl ⟨rfl, rfl⟩
 ·refine .inr ⟨gb, cap, cur, rfl, Nat.zero_le _, hg, by omega, h4, h5, ?_⟩
  rw [← h6, List.take_take, Nat.min_eq_left hjs]

theorem rd_min' {ats : Array TypeId} {a b r : Int} (hx : opv L x = some (.int k a)) (hy : opv L y = some (.int k b)) (h : (if b < a then b else a) = r) : Rd P S n L ⟨dst, .call ⟨.builtin .min, #[x, y], ats⟩, ty, pos, af, g⟩ (.int k r) := by subst h; exact rd_min hx hy
theorem rd_max' {ats : Array TypeId} {a b r : Int} (hx : opv L x = some (.int k a)) (hy : opv L y = some (.int k b)) (h : (if a < b then b else a) = r) : Rd P S n L ⟨dst, .call ⟨.builtin .max, #[x, y], ats⟩, ty, pos, af, g⟩ (.int k r) := by subst h; exact rd_max hx hy
theorem min_nat (a b : Nat) : (if (b : Int) < (a : Int) then (b : Int) else (a : Int)) = ((min a b : Nat) : Int) := by split <;> omega

/-! ### Append -/
def SrcOK (w : World) (A : Option Addr) (m sz : Nat) (news : List Value) : Prop := news.length = m * sz ∧ (0 < m → plainA A) ∧ ∀ j u, news[j]? = some u → w.cell? ⟨ab A, ao A + j, none⟩ = some u
theorem src_blk {b : Nat} {te : Nat} (hm : Ent.blk b news te ∈ E) (hl : news.length = m * sz) : ∀ w, St w0 M E w → SrcOK w (some ⟨b, 0, none⟩) m sz news := fun w hS =>
 ⟨hl, fun _ => rfl, fun j u hu => by
  show w.cell? ⟨b, 0 + j, none⟩ = _
  rw [Nat.zero_add, hS.cell hm j]
  exact hu⟩
theorem src_sl {j : Nat} (hsl : Sl w0 M A m sz cs) (hj : j ≤ m) : ∀ w, St w0 M E w → SrcOK w A j sz (cs.take (j * sz)) := fun w hS =>
 ⟨by rw [List.length_take, hsl.len]; have := Nat.mul_le_mul_right sz hj; omega, fun h => hsl.plain (by omega), fun i u hu => by
  rw [List.getElem?_take] at hu
  split at hu
  ·exact hsl.get hS hu
  ·cases hu⟩
theorem src_row {j : Nat} (hm : Ent.row e sz A m cap xs ∈ E) (hj : j ≤ m) : ∀ w, St w0 M E w → SrcOK w A j sz (xs.take (j * sz)) := fun w hS => by
 obtain ⟨h1, _, _, h4⟩ := row_know hm w hS
 exact ⟨by rw [List.length_take, h1]; have := Nat.mul_le_mul_right sz hj; omega, fun h => (h4 (by omega)).1, fun i u hu => by
  rw [List.getElem?_take] at hu
  split at hu
  ·exact row_cell hm hS hu
  ·cases hu⟩
theorem run_append_zero {i : TypeInfo} (ht : P.underlying t = some (.slice e)) (hi : P.info? e = some i) (w : World) (ty c : Nat) (hc : m ≤ cap) :
  (Builtin.append_ #[t, t] ty #[.slice A m cap, .slice A2 0 c]).run P w = .ok (.slice A m cap) w := by
 cases A2 <;> cases A <;> simp [Builtin.append_, run_underlying ht, sizeOf, typeInfo, hi, Builtin.lenOf, hc, Builtin.firstCells, loadCells, loadCellsFrom, storeCells]
theorem rowTy.info (h : rowTy P t e sz bytes zs) : ∃ (i : TypeInfo) (z : Value), P.info? e = some i ∧ i.zero = some z ∧ i.size = sz ∧ i.bytes = bytes ∧ z.cells.size = sz := by
 obtain ⟨h1, h2, h3, h4, h5, h6⟩ := h
 cases hq : P.info? e with
 | none => rw [hq] at h2; cases h2
 | some i =>
  unfold zeroTy at h4
  rw [hq] at h2 h3 h4
  cases hz : i.zero with
  | none => simp [hz] at h4
  | some z =>
   refine ⟨i, z, rfl, hz, by simpa using h2, by simpa using h3, ?_⟩
   have : z.cells = zs.toArray := by simpa [hz] using h4
   rw [this]
   simpa using h6
theorem run_append (ht : rowTy P t e sz bytes zs) (hS : St w0 M (.row e sz A m cap xs :: E) w) (hsrc : SrcOK w A2 c sz news) (h1 : ∀ u ∈ news, u.oneCell' = true) (hb : (m + c) * bytes ≤ 140737488355328) (h63 : m + c ≤ maxLen) (ty c2 : Nat) :
  ∃ (A' : Option Addr) (cap' : Nat) (w' : World), (Builtin.append_ #[t, t] ty #[.slice A m cap, .slice A2 c c2]).run P w = .ok (.slice A' (m + c) cap') w' ∧ St w0 M (.row e sz A' (m + c) cap' (xs ++ news) :: E) w' := by
 obtain ⟨i, z, hi, hz, hsz, hby, hzs⟩ := ht.info
 obtain ⟨ht1, _, _, _, hpos, _⟩ := ht
 have hown : w.ownsRow 0 e sz (.slice A m cap) m xs := (hS.ents _ (by simp : Ent.row e sz A m cap xs ∈ _)).2.1
 have hf := (hS.ents _ (by simp : Ent.row e sz A m cap xs ∈ _)).2.2
 obtain ⟨s1, s2⟩ := row_shape hown
 rcases Nat.eq_zero_or_pos c with h0 | h0
 ·subst h0
  have hn : news = [] := List.eq_nil_of_length_eq_zero (by simpa using hsrc.1)
  subst hn
  have hc : m ≤ cap := by rcases s2 with ⟨_, rfl, rfl⟩ | ⟨_, _, h, _⟩ <;> omega
  exact ⟨A, cap, w, run_append_zero ht1 hi w ty c2 hc, by simpa using hS⟩
 ·have hA2 : A2 = some ⟨ab A2, ao A2, none⟩ := hsrc.2.1 h0
  have hnews : ∀ j u, news[j]? = some u → w.cell? ((⟨ab A2, ao A2, none⟩ : Addr).add j) = some u := fun j u hu => by rw [addr_add]; exact hsrc.2.2 j u hu
  rw [hA2]
  obtain ⟨v', w', hr, hown', hgrow, hnil⟩ := run_append_own (P := P) w 0 t ty e i z sz bytes ht1 hi hz hsz hby hzs hpos (.slice A m cap) m xs hown ⟨ab A2, ao A2, none⟩ c c2 news hsrc.1 hnews h1 h63 hb (Nat.zero_le _)
  have hblock : ∀ k, v'.ownBlock = some k → (A.map (·.block) = some k) ∨ w.heap.size ≤ k := by
   have hsmall : m + c ≤ 9223372036854775807 := by simp only [maxLen] at h63; omega
   rcases s2 with ⟨rfl, rfl, rfl⟩ | ⟨gb, rfl, h3, h4, cur, hg, h5, h6⟩
   ·have hr2 := run_append_nil (P := P) w t ty e i z ht1 hi hz ⟨ab A2, ao A2, none⟩ c c2 news (by rw [hsz]; exact hsrc.1) hnews h0 (by omega) (by rw [hby]; rw [Nat.zero_add] at hb; omega)
    rw [hr2] at hr
    injection hr with e1 e2
    intro k hk
    rw [← e1] at hk
    have : w.heap.size = k := by simpa [Value.ownBlock] using hk
    exact .inr (by omega)
   ·by_cases hroom : m + c ≤ cap
    ·have hfit : m * i.size + news.length ≤ cur.size := by rw [hsrc.1, h5, hsz, ← Nat.add_mul]; exact Nat.mul_le_mul_right _ hroom
     have hr2 := run_append_room (P := P) w t ty e i ht1 hi gb m cap cur hg ⟨ab A2, ao A2, none⟩ c c2 news (by rw [hsz]; exact hsrc.1) hnews h1 hroom hfit
     rw [hr2] at hr
     injection hr with e1 e2
     intro k hk
     rw [← e1] at hk
     exact .inl (by simpa [Value.ownBlock] using hk)
    ·have holds : ∀ j u, xs[j]? = some u → w.cell? ((⟨gb, 0, none⟩ : Addr).add j) = some u := hown.cells (g := gb) rfl
     have hr2 := run_append_grow (P := P) w t ty e i z ht1 hi hz ⟨gb, 0, none⟩ m cap xs (by rw [hsz]; exact s1) holds ⟨ab A2, ao A2, none⟩ c c2 news (by rw [hsz]; exact hsrc.1) hnews (by omega) (by omega) (by rw [hby]; exact growslice_fits (by omega) hb)
     rw [hr2] at hr
     injection hr with e1 e2
     intro k hk
     rw [← e1] at hk
     have : w.heap.size = k := by simpa [Value.ownBlock] using hk
     exact .inr (by omega)
  have hv' : ∃ A' cap', v' = .slice A' (m + c) cap' := by
   rcases hown'.2 with ⟨hv, hm⟩ | ⟨gb, cap', cur, hv, _⟩
   ·exact ⟨none, 0, by rw [hv, hm]⟩
   ·exact ⟨_, _, hv⟩
  obtain ⟨A', cap', rfl⟩ := hv'
  refine ⟨A', cap', w', hr, hS.change hgrow.os hgrow.tape hgrow.output hgrow.size (fun k hk hne => hgrow.block k hk (fun he => hne ?_)) (Ent.loc_row _ _ _ _ _ _) hown' (fun k hk => ⟨?_, ?_⟩)⟩
  ·cases A with
   | none => simp [Value.ownBlock] at he
   | some a => simpa [Ent.fp, Value.ownBlock] using he.symm
  ·have hk' : (Value.slice A' (m + c) cap').ownBlock = some k := by
    cases A' with
    | none => simp [Ent.fp] at hk
    | some a => simpa [Ent.fp, Value.ownBlock] using hk
   exact (hown'.lt k hk').2
  ·have hk' : (Value.slice A' (m + c) cap').ownBlock = some k := by
    cases A' with
    | none => simp [Ent.fp] at hk
    | some a => simpa [Ent.fp, Value.ownBlock] using hk
   exact hblock k hk'
/-- Append to the row at the front. -/
theorem ef_append {ats : Array TypeId} {Er : List Ent} (ht : rowTy P t e sz bytes zs) (hat : ats = #[t, t]) (hE : E = .row e sz A m cap xs :: Er) (hs : opv L x = some (.slice A m cap)) (hx : opv L y = some (.slice A2 c k2)) (hsrc : ∀ w, St w0 M E w → SrcOK w A2 c sz news) (h1 : news.all Value.oneCell' = true)
  (hb : (m + c) * bytes ≤ 140737488355328) (h63 : m + c ≤ maxLen) (hd : Nat.blt d n = true) {g : Option (Nat × Bool)} :
  Ef P n w0 M E L ⟨some d, .call ⟨.builtin .append, #[x, y], ats⟩, ty, pos, af, g⟩ (fun K => ∀ p : Option Addr × Nat, (0 < m + c → plainA p.1) → To n w0 M (.row e sz p.1 (m + c) p.2 (xs ++ news) :: Er) ((d, .slice p.1 (m + c) p.2) :: L) K) := by
 subst hE hat
 intro K Q a w hK hA hS
 obtain ⟨A', cap', w', hr, hS'⟩ := run_append ht hS (hsrc w hS) (by simpa using h1) hb h63 ty k2
 have hk := row_know (List.mem_cons_self ..) w' hS'
 unfold Oper.wp
 simp only [execOp, resolve, invoke, builtin, hA.eval hs, hA.eval hx, Sem.run_bind, Sem.run_pure, Result.andThen_ok, List.map_toArray, List.map_cons, List.map_nil, hr, Oper.upon]
 exact hK (A', cap') (fun h => (hk.2.2.2 h).1) _ _ (hA.put hd) hS'
end
end Go.Proofs.YtfccnoccfhgcbaaGreatDoor
namespace Go.Proofs.YtfccnoccfhgcbaaGreatDoor
open Go Go.RowKit

def isI64 (x : Int) : Prop := -9223372036854775808 ≤ x ∧ x ≤ 9223372036854775807
def flg (q : Bool) : Int := if q then 1 else 0
structure PL where
 (id px py pz vx vy vz : Int)
 gr : Bool
 (he ar sc a0 a1 wa de : Int)
 deriving DecidableEq
structure SH where
 (id ow ki px py pz vx vy vz fu : Int)
 re : Bool
 deriving DecidableEq
def PL.enc (p : PL) : List Value := [.int .i64 p.id, .int .i64 p.px, .int .i64 p.py, .int .i64 p.pz, .int .i64 p.vx, .int .i64 p.vy, .int .i64 p.vz, .bool p.gr, .int .i64 p.he, .int .i64 p.ar, .int .i64 p.sc, .int .i64 p.a0, .int .i64 p.a1, .int .i64 p.wa, .int .i64 p.de]
def SH.enc (s : SH) : List Value := [.int .i64 s.id, .int .i64 s.ow, .int .i64 s.ki, .int .i64 s.px, .int .i64 s.py, .int .i64 s.pz, .int .i64 s.vx, .int .i64 s.vy, .int .i64 s.vz, .int .i64 s.fu, .bool s.re]
def PL.fields (p : PL) : List Int := [p.px, p.py, p.pz, p.vx, p.vy, p.vz, flg p.gr, p.he, p.ar, p.sc, p.a0, p.a1, p.wa, p.de]
def SH.fields (s : SH) : List Int := [s.ow, s.ki, s.px, s.py, s.pz, s.vx, s.vy, s.vz, s.fu, flg s.re]
def PL.ok (p : PL) : Prop := isI64 p.id ∧ isI64 p.px ∧ isI64 p.py ∧ isI64 p.pz ∧ isI64 p.vx ∧ isI64 p.vy ∧ isI64 p.vz ∧ isI64 p.he ∧ isI64 p.ar ∧ isI64 p.sc ∧ isI64 p.a0 ∧ isI64 p.a1 ∧ isI64 p.wa ∧ isI64 p.de
def SH.ok (s : SH) : Prop := isI64 s.id ∧ isI64 s.ow ∧ isI64 s.ki ∧ isI64 s.px ∧ isI64 s.py ∧ isI64 s.pz ∧ isI64 s.vx ∧ isI64 s.vy ∧ isI64 s.vz ∧ isI64 s.fu
def ints (l : List Int) : List Value := l.map fun x => .int .i64 x
/-- A row: an ID, and its fields. -/
abbrev RW := Int × List Int
def PL.row (p : PL) : RW := (p.id, p.fields)
def SH.row (s : SH) : RW := (s.id, s.fields)
def flat {α : Type} (f : α → List Value) (l : List α) : List Value := (l.map f).flatten
section
variable {α : Type} {f : α → List Value} {sz : Nat}
theorem flat_len (hf : ∀ x, (f x).length = sz) (l : List α) : (flat f l).length = l.length * sz := by
 induction l with
 | nil => simp [flat]
 | cons x l ih => simp only [flat, List.map_cons, List.flatten_cons, List.length_append, hf] at *; rw [ih]; simp [Nat.add_mul]; omega
theorem flat_part (hf : ∀ x, (f x).length = sz) : ∀ (l : List α) (i : Nat) (x : α), l[i]? = some x → Part (flat f l) (i * sz) sz (f x)
 | [], i, x, h => by simp at h
 | y :: l, 0, x, h => by
  have : y = x := by simpa using h
  subst this
  refine ⟨hf y, fun j hj => ?_⟩
  simp only [flat, List.map_cons, List.flatten_cons, Nat.zero_mul, Nat.zero_add]
  rw [List.getElem?_append_left (by rw [hf]; exact hj)]
 | y :: l, i + 1, x, h => by
  have ih := flat_part hf l i x (by simpa using h)
  refine ⟨ih.1, fun j hj => ?_⟩
  rw [← ih.2 j hj]
  simp only [flat, List.map_cons, List.flatten_cons]
  rw [List.getElem?_append_right (by rw [hf, Nat.add_mul]; omega), hf]
  congr 1
  rw [Nat.add_mul]; omega
theorem flat_take (hf : ∀ x, (f x).length = sz) (l : List α) (i : Nat) : (flat f l).take (i * sz) = flat f (l.take i) := by
 induction l generalizing i with
 | nil => simp [flat]
 | cons x l ih =>
  cases i with
  | zero => simp [flat]
  | succ i =>
   have := ih i
   simp only [flat, List.map_cons, List.flatten_cons, List.take_succ_cons] at *
   rw [← this, List.take_append, hf, show (i + 1) * sz - sz = i * sz from by rw [Nat.add_mul]; omega, List.take_of_length_le (by rw [hf, Nat.add_mul]; omega)]
theorem flat_append (l r : List α) : flat f (l ++ r) = flat f l ++ flat f r := by simp [flat]
theorem flat_one (x : α) : flat f [x] = f x := by simp [flat]
theorem flat_cells (hf : ∀ x, (f x).all Value.oneCell' = true) (l : List α) : (flat f l).all Value.oneCell' = true := by
 induction l with
 | nil => rfl
 | cons x l ih => simp only [flat, List.map_cons, List.flatten_cons, List.all_append] at *; rw [hf, ih]; rfl
end
theorem ints_flat (l : List Int) : ints l = flat (fun x => [.int .i64 x]) l := by
 induction l with
 | nil => rfl
 | cons x l ih => simp only [ints, flat, List.map_cons, List.flatten_cons] at *; rw [ih]; rfl
theorem ints_len (l : List Int) : (ints l).length = l.length := by simp [ints]
theorem ints_get {l : List Int} {i : Nat} {x : Int} (h : l[i]? = some x) : (ints l)[i]? = some (.int .i64 x) := by simp [ints, h]
theorem PL.enc_len (p : PL) : p.enc.length = 15 := rfl
theorem SH.enc_len (s : SH) : s.enc.length = 11 := rfl
theorem PL.enc_cells (p : PL) : p.enc.all Value.oneCell' = true := rfl
theorem SH.enc_cells (s : SH) : s.enc.all Value.oneCell' = true := rfl
theorem PL.fields_len (p : PL) : p.fields.length = 14 := rfl
theorem SH.fields_len (s : SH) : s.fields.length = 10 := rfl

/-! ### Rows in memory -/
/-- The cells of rows: an ID, and where the fields lie. -/
def rowCells : List (Option Addr × Nat) → List RW → List Value
 | h :: hs, r :: rs => .int .i64 r.1 :: .slice h.1 r.2.length h.2 :: rowCells hs rs
 | _, _ => []
theorem rowCells_len : ∀ (hd : List (Option Addr × Nat)) (rs : List RW), hd.length = rs.length → (rowCells hd rs).length = rs.length * 2
 | [], [], _ => rfl
 | h :: hs, r :: rs, e => by
  have := rowCells_len hs rs (by simpa using e)
  simp only [rowCells, List.length_cons, this]
  omega
 | [], _ :: _, e => by simp at e
 | _ :: _, [], e => by simp at e
theorem rowCells_append : ∀ (hd : List (Option Addr × Nat)) (rs : List RW) (hd' : List (Option Addr × Nat)) (rs' : List RW), hd.length = rs.length → rowCells (hd ++ hd') (rs ++ rs') = rowCells hd rs ++ rowCells hd' rs'
 | [], [], _, _, _ => rfl
 | h :: hs, r :: rs, hd', rs', e => by
  have := rowCells_append hs rs hd' rs' (by simpa using e)
  simp only [rowCells, List.cons_append, this]
 | [], _ :: _, _, _, e => by simp at e
 | _ :: _, [], _, _, e => by simp at e
theorem rowCells_part : ∀ (hd : List (Option Addr × Nat)) (rs : List RW) (i : Nat) (h : Option Addr × Nat) (r : RW), hd[i]? = some h → rs[i]? = some r → Part (rowCells hd rs) (i * 2) 2 [.int .i64 r.1, .slice h.1 r.2.length h.2]
 | [], _, i, h, r, e, _ => by simp at e
 | _ :: _, [], i, h, r, _, e => by simp at e
 | h' :: hs, r' :: rs, 0, h, r, e1, e2 => by
  have a1 : h' = h := by simpa using e1
  have a2 : r' = r := by simpa using e2
  subst a1 a2
  refine ⟨rfl, fun j hj => ?_⟩
  have : j = 0 ∨ j = 1 := by omega
  rcases this with rfl | rfl <;> rfl
 | h' :: hs, r' :: rs, i + 1, h, r, e1, e2 => by
  have ih := rowCells_part hs rs i h r (by simpa using e1) (by simpa using e2)
  refine ⟨ih.1, fun j hj => ?_⟩
  rw [← ih.2 j hj, show (i + 1) * 2 + j = (i * 2 + j) + 2 from by omega]
  rfl
theorem rowCells_cells : ∀ (hd : List (Option Addr × Nat)) (rs : List RW), (rowCells hd rs).all Value.oneCell' = true
 | [], _ => rfl
 | _ :: _, [] => rfl
 | _ :: hs, _ :: rs => by simp only [rowCells, List.all_cons, rowCells_cells hs rs]; rfl
/-- The rows' fields, wherever they lie. -/
def RowsIn (w : World) (M : Nat → Prop) (hd : List (Option Addr × Nat)) (rs : List RW) : Prop :=
 hd.length = rs.length ∧ ∀ (i : Nat) (h : Option Addr × Nat) (r : RW), hd[i]? = some h → rs[i]? = some r → Sl w M h.1 r.2.length 1 (ints r.2) ∧ r.2.length ≤ h.2
def inE (fp : Nat → Prop) (hd : List (Option Addr × Nat)) (rs : List RW) : Ent := .abs fp fun w => RowsIn w (fun b => ¬ fp b) hd rs
theorem inE_loc (fp : Nat → Prop) (hd : List (Option Addr × Nat)) (rs : List RW) : (inE fp hd rs).loc :=
 fun _ _ hw h => ⟨h.1, fun i x r e1 e2 => ⟨(h.2 i x r e1 e2).1.agree (by decide) hw, (h.2 i x r e1 e2).2⟩⟩
/-- A slice of rows, with its fields. -/
structure RowsAt (w : World) (M : Nat → Prop) (A : Option Addr) (n : Nat) (hd : List (Option Addr × Nat)) (rs : List RW) : Prop where
 sl : Sl w M A n 2 (rowCells hd rs)
 ins : RowsIn w M hd rs
def rowsE (fp : Nat → Prop) (A : Option Addr) (n : Nat) (hd : List (Option Addr × Nat)) (rs : List RW) : Ent := .abs fp fun w => RowsAt w (fun b => ¬ fp b) A n hd rs
theorem rowsE_loc (fp : Nat → Prop) (A : Option Addr) (n : Nat) (hd : List (Option Addr × Nat)) (rs : List RW) : (rowsE fp A n hd rs).loc :=
 fun _ _ hw h => ⟨h.sl.agree (by decide) hw, h.ins.1, fun i x r e1 e2 => ⟨(h.ins.2 i x r e1 e2).1.agree (by decide) hw, (h.ins.2 i x r e1 e2).2⟩⟩
section
variable {w0 w : World} {M : Nat → Prop} {E : List Ent} {hd : List (Option Addr × Nat)} {rs : List RW} {fp : Nat → Prop} {A : Option Addr} {n cap : Nat}
theorem St.inNil (h : St w0 M E w) : St w0 M (inE (fun _ => False) [] [] :: E) w :=
 h.add (inE_loc _ _ _) ⟨rfl, fun i x r e => by simp at e⟩ (fun _ hb => hb.elim) (fun _ _ _ hb => hb.elim)
/-- One more row, whose fields lie in a block of their own. -/
theorem St.inAdd {b : Nat} {fs : List Int} {id : Int} {te : Nat} (h : St w0 M (.blk b (ints fs) te :: inE fp hd rs :: E) w) (hl : fs.length ≤ 9223372036854775807) : St w0 M (inE (fun k => fp k ∨ k = b) (hd ++ [(some ⟨b, 0, none⟩, fs.length)]) (rs ++ [(id, fs)]) :: E) w := by
 refine h.merge (inE_loc _ _ _) (fun k1 k2 => ⟨by simp [k2.1], fun i x r e1 e2 => ?_⟩) (fun k hk => hk.symm)
 have hlen := k2.1
 rcases Nat.lt_or_ge i hd.length with hi | hi
 ·rw [List.getElem?_append_left hi] at e1
  rw [List.getElem?_append_left (by omega)] at e2
  exact ⟨(k2.2 i x r e1 e2).1.mono fun b' hb' hn => hn (.inl (Classical.not_not.1 hb')), (k2.2 i x r e1 e2).2⟩
 ·have hi2 : i = hd.length := by
   have : i < (hd ++ [((some ⟨b, 0, none⟩ : Option Addr), fs.length)]).length := (List.getElem?_eq_some_iff.1 e1).1
   simp at this
   omega
  subst hi2
  have a1 : x = (some ⟨b, 0, none⟩, fs.length) := by simpa using e1.symm
  have a2 : r = (id, fs) := by rw [hlen] at e2; simpa using e2.symm
  subst a1 a2
  refine ⟨⟨by simp [ints_len], hl, fun _ => rfl, fun j hj => ?_, fun _ hn => hn (.inr rfl)⟩, Nat.le_refl _⟩
  show w.cell? ⟨b, 0 + j, none⟩ = _
  have hb : w.heap[b]? = some (.cells (ints fs).toArray te (0, 0)) := k1
  rw [Nat.zero_add, cell_of_row w b j _ te (0, 0) hb]
  simp
/-- A row of the call's own, read from now on. -/
theorem St.rowSl {e sz : Nat} {xs : List Value} (h : St w0 M (.row e sz A n cap xs :: E) w) (hsz : 0 < sz) : St w0 M (.abs (fun k => A.map (·.block) = some k) (fun w => Sl w (fun b => ¬ (A.map (·.block) = some b)) A n sz xs) :: E) w := by
 have hk := row_know (List.mem_cons_self ..) w h
 refine h.turn (fun _ _ hw k => k.agree hsz hw) (fun k => ⟨hk.1, by have := hk.2.1; have h2 := hk.2.2.1; simp only [maxLen] at h2; omega, fun h0 => (hk.2.2.2 h0).1, fun j hj => ?_, fun h0 hn => hn ?_⟩) (fun b hb => hb)
 ·have hv : xs[j]? = some (xs[j]'(by rw [hk.1]; exact hj)) := by simp
  rw [hv]
  exact row_cell (List.mem_cons_self ..) h hv
 ·have := (hk.2.2.2 h0).1
  rw [this]
  rfl
/-- Rows and their fields as1 one. -/
theorem St.rowsJoin {e : Nat} (h : St w0 M (.row e 2 A n cap (rowCells hd rs) :: inE fp hd rs :: E) w) : St w0 M (rowsE (fun k => fp k ∨ A.map (·.block) = some k) A n hd rs :: E) w := by
 refine (h.rowSl (by decide)).merge (rowsE_loc _ _ _ _ _) (fun k1 k2 => ⟨k1.mono fun b hb hn => hn (.inr (Classical.not_not.1 hb)), k2.1, fun i x r e1 e2 => ⟨(k2.2 i x r e1 e2).1.mono fun b hb hn => hn (.inl (Classical.not_not.1 hb)), (k2.2 i x r e1 e2).2⟩⟩) (fun k hk => hk.symm)
/-- The rows that an entry holds, for a callee that takes others. -/
theorem RowsAt.of (hS : St w0 M E w) (hm : rowsE fp A n hd rs ∈ E) (M' : Nat → Prop) (hM : ∀ b, fp b → ¬ M' b) : RowsAt w M' A n hd rs := by
 have h : RowsAt w (fun b => ¬ fp b) A n hd rs := (hS.ents _ hm).2.1
 exact ⟨h.sl.mono fun b hb => hM b (Classical.not_not.1 hb), h.ins.1, fun i x r e1 e2 => ⟨(h.ins.2 i x r e1 e2).1.mono fun b hb => hM b (Classical.not_not.1 hb), (h.ins.2 i x r e1 e2).2⟩⟩
/-- Rows that were there when the call began, for a callee. -/
theorem RowsAt.hand (h : RowsAt w0 M A n hd rs) {Ec Er : List Ent} (hS : St w0 M (Ec ++ Er) w) : RowsAt w (fpOf Ec) A n hd rs :=
 ⟨h.sl.hand hS (by decide), h.ins.1, fun i x r e1 e2 => ⟨(h.ins.2 i x r e1 e2).1.hand hS (by decide), (h.ins.2 i x r e1 e2).2⟩⟩
theorem RowsAt.get (h : RowsAt w0 M A n hd rs) {i : Nat} {r : RW} (hr : rs[i]? = some r) : ∃ x, hd[i]? = some x ∧ Part (rowCells hd rs) (i * 2) 2 [.int .i64 r.1, .slice x.1 r.2.length x.2] ∧ Sl w0 M x.1 r.2.length 1 (ints r.2) ∧ r.2.length ≤ x.2 := by
 have hi : i < rs.length := (List.getElem?_eq_some_iff.1 hr).1
 have hx : hd[i]? = some (hd[i]'(by rw [h.ins.1]; exact hi)) := List.getElem?_eq_getElem _
 exact ⟨_, hx, rowCells_part hd rs i _ r hx hr, h.ins.2 i _ r hx hr⟩
/-- The rest of a slice. -/
theorem Sl.drop {sz : Nat} {cs : List Value} (h : Sl w M A n sz cs) {j : Nat} (hj : j ≤ n) (hc : n ≤ cap) : Sl w M (subA A cap j sz) (n - j) sz (cs.drop (j * sz)) := by
 have hle : j * sz ≤ n * sz := Nat.mul_le_mul_right _ hj
 have hm := h.max
 rcases Nat.lt_or_ge j n with hlt | hge
 ·have hp := h.plain (by omega)
  have hs := subA_plain (sz := sz) hp (show j < cap by omega)
  refine ⟨by rw [List.length_drop, h.len, Nat.sub_mul], by omega, fun _ => by rw [hs]; rfl, fun i hi => ?_, fun _ => by rw [hs]; exact h.out (by omega)⟩
  rw [hs]
  show w.cell? ⟨ab A, ao A + j * sz + i, none⟩ = _
  rw [Nat.sub_mul] at hi
  rw [Nat.add_assoc, h.cell _ (by omega), List.getElem?_drop]
 ·have : n - j = 0 := by omega
  rw [this, List.drop_of_length_le (by rw [h.len]; exact Nat.mul_le_mul_right _ hge)]
  exact Sl.nil _ _ _ _
end
/-- A thing of a row. -/
def PL.of (r : RW) : PL := ⟨r.1, r.2.getD 0 0, r.2.getD 1 0, r.2.getD 2 0, r.2.getD 3 0, r.2.getD 4 0, r.2.getD 5 0, decide (r.2.getD 6 0 ≠ 0), r.2.getD 7 0, r.2.getD 8 0, r.2.getD 9 0, r.2.getD 10 0, r.2.getD 11 0, r.2.getD 12 0, r.2.getD 13 0⟩
def SH.of (r : RW) : SH := ⟨r.1, r.2.getD 0 0, r.2.getD 1 0, r.2.getD 2 0, r.2.getD 3 0, r.2.getD 4 0, r.2.getD 5 0, r.2.getD 6 0, r.2.getD 7 0, r.2.getD 8 0, decide (r.2.getD 9 0 ≠ 0)⟩
theorem list10 {l : List Int} (h : l.length = 10) : ∃ a0 a1 a2 a3 a4 a5 a6 a7 a8 a9, l = [a0, a1, a2, a3, a4, a5, a6, a7, a8, a9] := by
 match l, h with
 | [a0, a1, a2, a3, a4, a5, a6, a7, a8, a9], _ => exact ⟨_, _, _, _, _, _, _, _, _, _, rfl⟩
theorem list14 {l : List Int} (h : l.length = 14) : ∃ a0 a1 a2 a3 a4 a5 a6 a7 a8 a9 a10 a11 a12 a13, l = [a0, a1, a2, a3, a4, a5, a6, a7, a8, a9, a10, a11, a12, a13] := by
 match l, h with
 | [a0, a1, a2, a3, a4, a5, a6, a7, a8, a9, a10, a11, a12, a13], _ => exact ⟨_, _, _, _, _, _, _, _, _, _, _, _, _, _, rfl⟩

/-! ### Right -/
def wideB (n : Int) : Bool := decide (n < -2147483648) || decide (2147483647 < n)
def ix : Option Nat → Int
 | none => -1
 | some i => i
def goodRows : Int → List RW → Bool
 | _, [] => true
 | last, r :: rs => !(decide (r.1 ≤ last) || decide (2147483647 < r.1) || r.2.any wideB) && goodRows r.1 rs
def rightB (most : Int) (rs : List RW) : Bool := goodRows 0 rs && decide ((rs.length : Int) ≤ most)
/-- May a state be? -/
def rightS (ps : List PL) (ss : List SH) : Bool := rightB 8 (ps.map PL.row) && rightB 64 (ss.map SH.row)
/-- The two sorts, as1 their variables lie. -/
structure Gl (w : World) (M : Nat → Prop) : Prop where
 pl : ∀ (j : Nat) (v : Value), ([.int .i64 14, .int .i64 6, .int .i64 8] : List Value)[j]? = some v → w.cell? ⟨0, 0 + j, none⟩ = some v
 sh : ∀ (j : Nat) (v : Value), ([.int .i64 10, .int .i64 9, .int .i64 64] : List Value)[j]? = some v → w.cell? ⟨1, 0 + j, none⟩ = some v
 no0 : ¬ M 0
 no1 : ¬ M 1
theorem Gl.hand {w0 w : World} {M : Nat → Prop} {Ec Er : List Ent} (h : Gl w0 M) (hS : St w0 M (Ec ++ Er) w) : Gl w (fpOf Ec) := by
 have h0 := cell_lt (h.pl 0 _ rfl)
 have h1 := cell_lt (h.sh 0 _ rfl)
 have no : ∀ b, b < w0.heap.size → ¬ M b → ¬ fpOf Ec b := fun b hb hM ⟨e, he, hfp⟩ => by
  rcases ((hS.ents e (List.mem_append_left _ he)).2.2 b hfp).2 with h2 | h2
  ·exact hM h2
  ·omega
 exact ⟨fun j v hv => hS.base_cell (h.pl j v hv) h.no0, fun j v hv => hS.base_cell (h.sh j v hv) h.no1, no 0 h0 h.no0, no 1 h1 h.no1⟩
end Go.Proofs.YtfccnoccfhgcbaaGreatDoor
namespace Go.Proofs.YtfccnoccfhgcbaaGreatDoor
open Go Go.RowKit
theorem I2 : Tryz.prog.underlying 2 = some (.int .i64) := by kernel_rfl
theorem I118 : Tryz.prog.underlying 118 = some (.int .u64) := by kernel_rfl
theorem Z120 : zeroTy Tryz.prog 120 [.int .u64 0, .int .u64 0] := by unfold zeroTy; kernel_rfl
theorem K153 : callTy Tryz.prog 153 := by unfold callTy; kernel_rfl
theorem St120 : structTy Tryz.prog 120 [(0, 1), (1, 1)] [.int .u64 0, .int .u64 0] := ⟨by unfold zeroTy; kernel_rfl, _, Tryz.underlying120, fun w => by kernel_rfl⟩
theorem A120 : aggTy Tryz.prog 120 2 := ⟨by kernel_rfl, by kernel_rfl⟩
theorem F120_1 : fieldTy Tryz.prog 120 1 1 := fieldTy.mk' Tryz.underlying120 rfl (by kernel_rfl) rfl
theorem C118 : cellTy Tryz.prog 118 := ⟨by kernel_rfl, by kernel_rfl⟩
theorem F120_0 : fieldTy Tryz.prog 120 0 0 := fieldTy.mk' Tryz.underlying120 rfl (by kernel_rfl) rfl
theorem B4 : Tryz.prog.underlying 4 = some .bool := by kernel_rfl
theorem K121 : callTy Tryz.prog 121 := by unfold callTy; kernel_rfl
theorem K122 : callTy Tryz.prog 122 := by unfold callTy; kernel_rfl
theorem K70 : callTy Tryz.prog 70 := by unfold callTy; kernel_rfl
theorem K120 : callTy Tryz.prog 120 := by unfold callTy; kernel_rfl
theorem Z48 : zeroTy Tryz.prog 48 [.int .i64 0, .int .i64 0, .int .i64 0] := by unfold zeroTy; kernel_rfl
theorem F48_0 : fieldTy Tryz.prog 48 0 0 := fieldTy.mk' Tryz.underlying48 rfl (by kernel_rfl) rfl
theorem C2 : cellTy Tryz.prog 2 := ⟨by kernel_rfl, by kernel_rfl⟩
theorem F48_1 : fieldTy Tryz.prog 48 1 1 := fieldTy.mk' Tryz.underlying48 rfl (by kernel_rfl) rfl
theorem F48_2 : fieldTy Tryz.prog 48 2 2 := fieldTy.mk' Tryz.underlying48 rfl (by kernel_rfl) rfl
theorem St48 : structTy Tryz.prog 48 [(0, 1), (1, 1), (2, 1)] [.int .i64 0, .int .i64 0, .int .i64 0] := ⟨by unfold zeroTy; kernel_rfl, _, Tryz.underlying48, fun w => by kernel_rfl⟩
theorem A48 : aggTy Tryz.prog 48 3 := ⟨by kernel_rfl, by kernel_rfl⟩
theorem K73 : callTy Tryz.prog 73 := by unfold callTy; kernel_rfl
theorem K72 : callTy Tryz.prog 72 := by unfold callTy; kernel_rfl
theorem K119 : callTy Tryz.prog 119 := by unfold callTy; kernel_rfl
theorem K123 : callTy Tryz.prog 123 := by unfold callTy; kernel_rfl
theorem K69 : callTy Tryz.prog 69 := by unfold callTy; kernel_rfl
theorem K71 : callTy Tryz.prog 71 := by unfold callTy; kernel_rfl
/-! ### Plain words -/
/-- 2^64. -/
abbrev B64 : Int := 18446744073709551616
/-- A number of 128 bits as1 a struct of two. -/
def wd (W : Int) : List Value := [.int .u64 (W / 18446744073709551616), .int .u64 (W % 18446744073709551616)]
theorem wd_eq {a b W : Int} (h1 : a = W / 18446744073709551616) (h2 : b = W % 18446744073709551616) : resVal [.agg [.int .u64 a, .int .u64 b].toArray] = .agg (wd W).toArray := by rw [h1, h2]; rfl
theorem int_eq {k : IntKind} {a b : Int} (h : a = b) : resVal [.int k a] = .int k b := by rw [h]; rfl
/-- Saturated. -/
def sat (n : Int) : Int := if n < -9223372036854775808 then -9223372036854775808 else if n > 9223372036854775807 then 9223372036854775807 else n
def vecL (x y z : Int) : List Value := [.int .i64 x, .int .i64 y, .int .i64 z]
def isU64 (x : Int) : Prop := 0 ≤ x ∧ x < 18446744073709551616
theorem wrapU (x : Int) : IntKind.u64.wrap x = x % 18446744073709551616 := IntKind.wrap_u64 x
theorem wrapI (x : Int) : IntKind.i64.wrap x = (x + 9223372036854775808) % 18446744073709551616 - 9223372036854775808 := IntKind.wrap_i64 x
theorem sat_isI64 (n : Int) : isI64 (sat n) := by unfold isI64 sat; split <;> (try split) <;> omega

theorem c121 (a : Int) (h : isI64 a) : Pu Tryz.prog 121 [.int .i64 a] (.int .u64 (a.natAbs : Int)) := by
 refine Pu.enter Tryz.func121 rfl Tryz.ntmps121 rfl (fun w => ?_)
 refine c_seq ?_
 refine c_reg ?_
 refine sq (rd_assign rfl) rfl ?_
 refine s_end ?_
 refine f_then ?_
 refine c_seq ?_
 refine c_seq ?_
 refine c_reg ?_
 refine sq (rd_move rfl) rfl ?_
 refine sq (rd_lss rfl rfl) rfl ?_
 refine s_end ?_
 refine f_then ?_
 refine c_if rfl (fun h4 => ?_) (fun h4 => ?_)
 ·unfold isI64 at h
  refine c_seq ?_
  refine c_reg ?_
  refine sq (rd_move rfl) rfl ?_
  refine sq (rd_conv ⟨_, I2⟩ I118 rfl rfl) rfl ?_
  refine sq (rd_neg rfl rfl) rfl ?_
  refine sq (rd_assign rfl) rfl ?_
  refine s_end ?_
  refine f_then ?_
  refine c_ret ?_
  refine f_then_r ?_
  refine f_ret rfl (.tmp rfl .nil) ?_
  exact pu_end (by simp [wrapU]; omega)
 ·unfold isI64 at h
  refine c_skip ?_
  refine f_then ?_
  refine c_seq ?_
  refine c_reg ?_
  refine sq (rd_move rfl) rfl ?_
  refine sq (rd_conv ⟨_, I2⟩ I118 rfl rfl) rfl ?_
  refine sq (rd_assign rfl) rfl ?_
  refine s_end ?_
  refine f_then ?_
  refine c_ret ?_
  refine f_ret rfl (.tmp rfl .nil) ?_
  exact pu_end (by simp [wrapU]; omega)

theorem mul64_int (a b : Int) (ha : isU64 a) (hb : isU64 b) :
  0 ≤ (a % 4294967296) * (b % 4294967296) ∧ (a % 4294967296) * (b % 4294967296) ≤ 18446744073709551615 ∧
  0 ≤ (a / 4294967296) * (b % 4294967296) ∧ (a / 4294967296) * (b % 4294967296) + (a % 4294967296) * (b % 4294967296) / 4294967296 ≤ 18446744073709551615 ∧
  0 ≤ (a % 4294967296) * (b / 4294967296) ∧ ((a / 4294967296) * (b % 4294967296) + (a % 4294967296) * (b % 4294967296) / 4294967296) % 4294967296 + (a % 4294967296) * (b / 4294967296) ≤ 18446744073709551615 ∧
  0 ≤ (a / 4294967296) * (b / 4294967296) ∧ (a / 4294967296) * (b / 4294967296) + ((a / 4294967296) * (b % 4294967296) + (a % 4294967296) * (b % 4294967296) / 4294967296) / 4294967296 +
   (((a / 4294967296) * (b % 4294967296) + (a % 4294967296) * (b % 4294967296) / 4294967296) % 4294967296 + (a % 4294967296) * (b / 4294967296)) / 4294967296 = a * b / 18446744073709551616 ∧ 0 ≤ a * b ∧ a * b / 18446744073709551616 ≤ 18446744073709551615 := by
 obtain ⟨x, rfl⟩ := Int.eq_ofNat_of_zero_le ha.1
 obtain ⟨y, rfl⟩ := Int.eq_ofNat_of_zero_le hb.1
 have hx : x < 18446744073709551616 := by have := ha.2; omega
 have hy : y < 18446744073709551616 := by have := hb.2; omega
 obtain ⟨h1, h2, h3, h4⟩ := Lib.mul64_hi x y hx hy
 have h5 : x * y / 18446744073709551616 ≤ 18446744073709551615 := by
  have : x * y ≤ 18446744073709551615 * 18446744073709551615 := Nat.mul_le_mul (by omega) (by omega)
  omega
 have e1 : ((x : Int) / 4294967296) * ((y : Int) % 4294967296) = ((x / 4294967296 * (y % 4294967296) : Nat) : Int) := by rw [Int.natCast_mul, Int.natCast_ediv, Int.natCast_emod]; rfl
 have e2 : ((x : Int) % 4294967296) * ((y : Int) % 4294967296) = ((x % 4294967296 * (y % 4294967296) : Nat) : Int) := by rw [Int.natCast_mul, Int.natCast_emod, Int.natCast_emod]; rfl
 have e3 : ((x : Int) % 4294967296) * ((y : Int) / 4294967296) = ((x % 4294967296 * (y / 4294967296) : Nat) : Int) := by rw [Int.natCast_mul, Int.natCast_ediv, Int.natCast_emod]; rfl
 have e4 : ((x : Int) / 4294967296) * ((y : Int) / 4294967296) = ((x / 4294967296 * (y / 4294967296) : Nat) : Int) := by rw [Int.natCast_mul, Int.natCast_ediv, Int.natCast_ediv]; rfl
 have e5 : (x : Int) * (y : Int) = ((x * y : Nat) : Int) := by rw [Int.natCast_mul]
 rw [e1, e2, e3, e4, e5]
 generalize x / 4294967296 * (y % 4294967296) = p1 at *
 generalize x % 4294967296 * (y % 4294967296) = p2 at *
 generalize x % 4294967296 * (y / 4294967296) = p3 at *
 generalize x / 4294967296 * (y / 4294967296) = p4 at *
 generalize x * y = p5 at *
 clear e1 e2 e3 e4 e5
 omega

/-- The product's halves. -/
def mulV (a b : Int) : Value := .tuple #[.int .u64 (a * b / 18446744073709551616), .int .u64 (a * b % 18446744073709551616)]
theorem shr32 {k : IntKind} {a : Int} (hk : k = .u64) : a.fdiv (2 ^ (min (32 : Int).toNat k.bits)) = a / 4294967296 := by subst hk; rw [Int.fdiv_eq_ediv_of_nonneg _ (by decide)]; rfl

theorem c153 (a b : Int) (ha : isU64 a) (hb : isU64 b) : Pu Tryz.prog 153 [.int .u64 a, .int .u64 b] (mulV a b) := by
 refine Pu.enter Tryz.func153 rfl Tryz.ntmps153 rfl (fun w => ?_)
 refine c_seq ?_
 obtain ⟨h1, h2, h3, h4, h5, h6, h7, h8, h9, h10⟩ := mul64_int a b ha hb
 obtain ⟨ha1, ha2⟩ := ha
 obtain ⟨hb1, hb2⟩ := hb
 refine c_reg ?_
 refine sq (rd_assign rfl) rfl ?_
 refine sq (rd_assign rfl) rfl ?_
 refine s_end ?_
 refine f_then ?_
 refine c_seq ?_
 refine c_reg ?_
 refine sq (rd_move rfl) rfl ?_
 refine sq (rd_and' rfl rfl (and_low32 _ (by first | omega | assumption) (by first | omega | assumption))) rfl ?_
 refine sq (rd_assign rfl) rfl ?_
 refine s_end ?_
 refine f_then ?_
 refine c_seq ?_
 refine c_reg ?_
 refine sq (rd_move rfl) rfl ?_
 refine sq (rd_shr rfl rfl (by decide) (shr32 rfl)) rfl ?_
 refine sq (rd_assign rfl) rfl ?_
 refine s_end ?_
 refine f_then ?_
 refine c_seq ?_
 refine c_reg ?_
 refine sq (rd_move rfl) rfl ?_
 refine sq (rd_and' rfl rfl (and_low32 _ (by first | omega | assumption) (by first | omega | assumption))) rfl ?_
 refine sq (rd_assign rfl) rfl ?_
 refine s_end ?_
 refine f_then ?_
 refine c_seq ?_
 refine c_reg ?_
 refine sq (rd_move rfl) rfl ?_
 refine sq (rd_shr rfl rfl (by decide) (shr32 rfl)) rfl ?_
 refine sq (rd_assign rfl) rfl ?_
 refine s_end ?_
 refine f_then ?_
 refine c_seq ?_
 refine c_reg ?_
 refine sq (rd_move rfl) rfl ?_
 refine sq (rd_move rfl) rfl ?_
 refine sq (rd_mul rfl rfl (by first | exact wrap_u64 (by omega) | exact rfl)) rfl ?_
 refine sq (rd_assign rfl) rfl ?_
 refine s_end ?_
 refine f_then ?_
 refine c_seq ?_
 refine c_reg ?_
 refine sq (rd_move rfl) rfl ?_
 refine sq (rd_move rfl) rfl ?_
 refine sq (rd_mul rfl rfl (by first | exact wrap_u64 (by omega) | exact rfl)) rfl ?_
 refine sq (rd_move rfl) rfl ?_
 refine sq (rd_shr rfl rfl (by decide) (shr32 rfl)) rfl ?_
 refine sq (rd_add rfl rfl (by first | exact wrap_u64 (by omega) | exact rfl)) rfl ?_
 refine sq (rd_assign rfl) rfl ?_
 refine s_end ?_
 refine f_then ?_
 refine c_seq ?_
 refine c_reg ?_
 refine sq (rd_move rfl) rfl ?_
 generalize hg1 : a / 4294967296 * (b % 4294967296) = p1 at *
 generalize hg2 : a % 4294967296 * (b % 4294967296) = p2 at *
 refine sq (rd_and' rfl rfl (and_low32 _ (by first | omega | assumption) (by first | omega | assumption))) rfl ?_
 refine sq (rd_assign rfl) rfl ?_
 refine s_end ?_
 refine f_then ?_
 refine c_seq ?_
 refine c_reg ?_
 refine sq (rd_move rfl) rfl ?_
 refine sq (rd_shr rfl rfl (by decide) (shr32 rfl)) rfl ?_
 refine sq (rd_assign rfl) rfl ?_
 refine s_end ?_
 refine f_then ?_
 refine c_seq ?_
 refine c_reg ?_
 refine sq (rd_move rfl) rfl ?_
 refine sq (rd_move rfl) rfl ?_
 refine sq (rd_move rfl) rfl ?_
 generalize hg3 : a % 4294967296 * (b / 4294967296) = p3 at *
 refine sq (rd_mul rfl rfl (by first | exact wrap_u64 (by omega) | exact rfl)) rfl ?_
 refine sq (rd_add rfl rfl (by first | exact wrap_u64 (by omega) | exact rfl)) rfl ?_
 refine sq (rd_assign rfl) rfl ?_
 refine s_end ?_
 refine f_then ?_
 refine c_seq ?_
 refine c_reg ?_
 refine sq (rd_move rfl) rfl ?_
 refine sq (rd_move rfl) rfl ?_
 generalize hg4 : a / 4294967296 * (b / 4294967296) = p4 at *
 refine sq (rd_mul rfl rfl (by first | exact wrap_u64 (by omega) | exact rfl)) rfl ?_
 refine sq (rd_move rfl) rfl ?_
 refine sq (rd_add rfl rfl (by first | exact wrap_u64 (by omega) | exact rfl)) rfl ?_
 refine sq (rd_move rfl) rfl ?_
 refine sq (rd_shr rfl rfl (by decide) (shr32 rfl)) rfl ?_
 refine sq (rd_add rfl rfl (by first | exact wrap_u64 (by omega) | exact rfl)) rfl ?_
 refine sq (rd_assign rfl) rfl ?_
 refine s_end ?_
 refine f_then ?_
 refine c_seq ?_
 refine c_reg ?_
 refine sq (rd_move rfl) rfl ?_
 refine sq (rd_move rfl) rfl ?_
 refine sq (rd_mul rfl rfl rfl) rfl ?_
 refine sq (rd_assign rfl) rfl ?_
 refine s_end ?_
 refine f_then ?_
 refine c_ret ?_
 refine f_ret rfl (.tmp rfl (.tmp rfl .nil)) ?_
 exact pu_end (by simp only [resVal_two, mulV, wrapU, hg3, hg4]; rw [h8])

theorem c120 (a b : Int) (ha : isU64 a) (hb : isU64 b) : Pu Tryz.prog 120 [.int .u64 a, .int .u64 b] (.agg (wd (a * b)).toArray) := by
 refine Pu.enter Tryz.func120 rfl Tryz.ntmps120 rfl (fun w => ?_)
 refine c_seq ?_
 refine c_reg ?_
 refine sx (ef_alloc Z120 rfl) rfl ?_
 rintro b4 hb4
 refine s_end ?_
 refine f_then ?_
 refine c_seq ?_
 refine c_reg ?_
 refine sq (rd_move rfl) rfl ?_
 refine sq (rd_move rfl) rfl ?_
 refine se (ef_pure rfl rfl K153 rfl (by exact (c153 a b ha hb))) rfl ?_
 refine sq (rd_move rfl) rfl ?_
 refine sq (rd_extract rfl rfl) rfl ?_
 refine sq (rd_extract rfl rfl) rfl ?_
 refine sq (rd_assign rfl) rfl ?_
 refine sq (rd_assign rfl) rfl ?_
 refine s_end ?_
 refine f_then ?_
 refine c_seq ?_
 refine c_reg ?_
 refine sq (rd_move rfl) rfl ?_
 refine sq (rd_move rfl) rfl ?_
 refine sq (rd_build St120 rfl (by repeat constructor)) rfl ?_
 refine se (ef_stores A120 rfl rfl rfl (by first | exact .here) (by first | exact SetR.all rfl | repeat constructor) rfl) rfl ?_
 refine s_end ?_
 refine f_then ?_
 refine c_ret ?_
 refine f_ret rfl (.cell (res_ldsb A120 rfl (by first | exact .head _) (by first | exact GetR.all _ | repeat constructor)) .nil) ?_
 exact pu_end rfl

theorem ext_add64 {x y c : Int} (hx : 0 ≤ x) (hy : 0 ≤ y) (hc0 : 0 ≤ c) (hc : c ≤ 1) : ∀ w, (callFunc 154 [Value.int .u64 x, .int .u64 y, .int .u64 c].toArray).run Tryz.prog w = .ok (.value (.tuple #[.int .u64 ((x + y + c) % 18446744073709551616), .int .u64 ((x + y + c) / 18446744073709551616)])) w := fun w => by
 rw [run_callFunc_extern Tryz.func154 (by kernel_rfl) (by kernel_rfl) (by kernel_rfl) (e := add64Entry) (by kernel_rfl)]
 rw [run_add64 x y c hx hy hc0 hc w]
 rfl

theorem c122 (h l h' l' : Int) (h1 : isU64 h) (h2 : isU64 l) (h3 : isU64 h') (h4 : isU64 l') (h5 : (h * 18446744073709551616 + l) + (h' * 18446744073709551616 + l') < 340282366920938463463374607431768211456) : Pu Tryz.prog 122 [.agg #[.int .u64 h, .int .u64 l], .agg #[.int .u64 h', .int .u64 l']] (.agg (wd ((h * 18446744073709551616 + l) + (h' * 18446744073709551616 + l'))).toArray) := by
 refine Pu.enter Tryz.func122 rfl Tryz.ntmps122 rfl (fun w => ?_)
 refine c_seq ?_
 obtain ⟨_, _⟩ := h1
 obtain ⟨_, _⟩ := h2
 obtain ⟨_, _⟩ := h3
 obtain ⟨_, _⟩ := h4
 refine c_reg ?_
 refine sx (ef_box rfl rfl rfl) rfl ?_
 rintro b2 hb2
 refine sx (ef_box rfl rfl rfl) rfl ?_
 rintro b3 hb3
 refine sx (ef_alloc Z120 rfl) rfl ?_
 rintro b4 hb4
 refine s_end ?_
 refine f_then ?_
 refine c_seq ?_
 refine c_reg ?_
 refine sq (rd_field F120_1 rfl) rfl ?_
 refine sq (rd_ldb C118 rfl (by repeat constructor) rfl) rfl ?_
 refine sq (rd_field F120_1 rfl) rfl ?_
 refine sq (rd_ldb C118 rfl (by repeat constructor) rfl) rfl ?_
 refine sq (rd_ext rfl rfl (ext_add64 (by omega) (by omega) (by omega) (by omega))) rfl ?_
 refine sq (rd_move rfl) rfl ?_
 refine sq (rd_extract rfl rfl) rfl ?_
 refine sq (rd_extract rfl rfl) rfl ?_
 refine sq (rd_assign rfl) rfl ?_
 refine sq (rd_assign rfl) rfl ?_
 refine s_end ?_
 refine f_then ?_
 refine c_seq ?_
 refine c_reg ?_
 refine sq (rd_field F120_0 rfl) rfl ?_
 refine sq (rd_ldb C118 rfl (by repeat constructor) rfl) rfl ?_
 refine sq (rd_field F120_0 rfl) rfl ?_
 refine sq (rd_ldb C118 rfl (by repeat constructor) rfl) rfl ?_
 refine sq (rd_move rfl) rfl ?_
 refine sq (rd_ext rfl rfl (ext_add64 (by omega) (by omega) (by omega) (by omega))) rfl ?_
 refine sq (rd_move rfl) rfl ?_
 refine sq (rd_extract rfl rfl) rfl ?_
 refine sq (rd_extract rfl rfl) rfl ?_
 refine sq (rd_assign rfl) rfl ?_
 refine sq (rd_assign rfl) rfl ?_
 refine s_end ?_
 refine f_then ?_
 refine c_seq ?_
 refine c_reg ?_
 refine sq (rd_move rfl) rfl ?_
 refine sq (rd_move rfl) rfl ?_
 refine sq (rd_build St120 rfl (by repeat constructor)) rfl ?_
 refine se (ef_stores A120 rfl rfl rfl (by repeat constructor) (by first | exact SetR.all rfl | repeat constructor) rfl) rfl ?_
 refine s_end ?_
 refine f_then ?_
 refine c_ret ?_
 refine f_ret rfl (.cell (res_ldsb A120 rfl (by repeat constructor) (by first | exact GetR.all _ | repeat constructor)) .nil) ?_
 exact pu_end (wd_eq (by omega) (by omega))

theorem c122w (W X : Int) (h1 : 0 ≤ W) (h2 : 0 ≤ X) (h3 : W + X < 340282366920938463463374607431768211456) : Pu Tryz.prog 122 [.agg (wd W).toArray, .agg (wd X).toArray] (.agg (wd (W + X)).toArray) := by
 have h := c122 (W / 18446744073709551616) (W % 18446744073709551616) (X / 18446744073709551616) (X % 18446744073709551616) (by unfold isU64; omega) (by unfold isU64; omega) (by unfold isU64; omega) (by unfold isU64; omega) (by omega)
 rw [show W / 18446744073709551616 * 18446744073709551616 + W % 18446744073709551616 = W from by omega, show X / 18446744073709551616 * 18446744073709551616 + X % 18446744073709551616 = X from by omega] at h
 exact h
theorem c122o (l l' : Int) (h1 : isU64 l) (h2 : isU64 l') : Pu Tryz.prog 122 [.agg #[.int .u64 0, .int .u64 l], .agg #[.int .u64 0, .int .u64 l']] (.agg (wd (l + l')).toArray) := by
 have h := c122 0 l 0 l' (by unfold isU64; omega) h1 (by unfold isU64; omega) h2 (by unfold isU64 at *; omega)
 rw [show (0 * 18446744073709551616 + l + (0 * 18446744073709551616 + l') : Int) = l + l' from by omega] at h
 exact h

theorem c123 (W X : Int) (h1 : 0 ≤ W) (h2 : 0 ≤ X) (h3 : W < 340282366920938463463374607431768211456) (h4 : X < 340282366920938463463374607431768211456) : Pu Tryz.prog 123 [.agg (wd W).toArray, .agg (wd X).toArray] (.bool (decide (X < W))) := by
 refine Pu.enter Tryz.func123 rfl Tryz.ntmps123 rfl (fun w => ?_)
 refine c_seq ?_
 refine c_reg ?_
 refine sx (ef_box rfl rfl rfl) rfl ?_
 rintro b2 hb2
 refine sx (ef_box rfl rfl rfl) rfl ?_
 rintro b3 hb3
 refine sq (rd_assign rfl) rfl ?_
 refine s_end ?_
 refine f_then ?_
 refine c_seq ?_
 refine c_reg ?_
 refine sq (rd_field F120_0 rfl) rfl ?_
 refine sq (rd_ldb C118 rfl (by repeat constructor) rfl) rfl ?_
 refine sq (rd_field F120_0 rfl) rfl ?_
 refine sq (rd_ldb C118 rfl (by repeat constructor) rfl) rfl ?_
 refine sq (rd_gtr rfl rfl) rfl ?_
 refine sq (rd_move rfl) rfl ?_
 refine s_split (d := 10) rfl (fun g10 => ?_) (fun g10 => ?_)
 ·try have g10p := of_decide_eq_true g10
  refine sg0 (fun a hA => wanted_no hA rfl rfl rfl g10 rfl) rfl ?_
  refine sg0 (fun a hA => wanted_no hA rfl rfl rfl g10 rfl) rfl ?_
  refine sg0 (fun a hA => wanted_no hA rfl rfl rfl g10 rfl) rfl ?_
  refine sg0 (fun a hA => wanted_no hA rfl rfl rfl g10 rfl) rfl ?_
  refine sg0 (fun a hA => wanted_no hA rfl rfl rfl g10 rfl) rfl ?_
  refine sg0 (fun a hA => wanted_no hA rfl rfl rfl g10 rfl) rfl ?_
  refine sg0 (fun a hA => wanted_un hA rfl rfl rfl) rfl ?_
  refine sg0 (fun a hA => wanted_un hA rfl rfl rfl) rfl ?_
  refine sg0 (fun a hA => wanted_un hA rfl rfl rfl) rfl ?_
  refine sg0 (fun a hA => wanted_un hA rfl rfl rfl) rfl ?_
  refine sg0 (fun a hA => wanted_un hA rfl rfl rfl) rfl ?_
  refine sg0 (fun a hA => wanted_no hA rfl rfl rfl g10 rfl) rfl ?_
  refine sq (rd_pick_tt rfl g10 rfl) rfl ?_
  refine sq (rd_assign rfl) rfl ?_
  refine s_end ?_
  refine f_then ?_
  refine c_ret ?_
  refine f_ret rfl (.tmp rfl .nil) ?_
  refine pu_end ?_
  simp only [resVal_one]
  congr 1
  first | exact (decide_eq_true (by omega)).symm | exact (decide_eq_false (by omega)).symm | (rw [decide_eq_decide]; omega)
 ·try have g10p := of_decide_eq_false g10
  refine sg1 (fun a hA => wanted_yes hA rfl rfl rfl g10) (rd_field F120_0 rfl) rfl ?_
  refine sg1 (fun a hA => wanted_yes hA rfl rfl rfl g10) (rd_ldb C118 rfl (by repeat constructor) rfl) rfl ?_
  refine sg1 (fun a hA => wanted_yes hA rfl rfl rfl g10) (rd_field F120_0 rfl) rfl ?_
  refine sg1 (fun a hA => wanted_yes hA rfl rfl rfl g10) (rd_ldb C118 rfl (by repeat constructor) rfl) rfl ?_
  refine sg1 (fun a hA => wanted_yes hA rfl rfl rfl g10) (rd_eql rfl rfl) rfl ?_
  refine sg1 (fun a hA => wanted_yes hA rfl rfl rfl g10) (rd_move rfl) rfl ?_
  refine s_split (d := 16) rfl (fun g16 => ?_) (fun g16 => ?_)
  ·try have g16p := of_decide_eq_true g16
   refine sg1 (fun a hA => wanted_yes hA rfl rfl rfl g16) (rd_field F120_1 rfl) rfl ?_
   refine sg1 (fun a hA => wanted_yes hA rfl rfl rfl g16) (rd_ldb C118 rfl (by repeat constructor) rfl) rfl ?_
   refine sg1 (fun a hA => wanted_yes hA rfl rfl rfl g16) (rd_field F120_1 rfl) rfl ?_
   refine sg1 (fun a hA => wanted_yes hA rfl rfl rfl g16) (rd_ldb C118 rfl (by repeat constructor) rfl) rfl ?_
   refine sg1 (fun a hA => wanted_yes hA rfl rfl rfl g16) (rd_gtr rfl rfl) rfl ?_
   refine sg1 (fun a hA => wanted_yes hA rfl rfl rfl g10) (rd_pick_tt rfl g16 rfl) rfl ?_
   refine sq (rd_pick_ff rfl g10 rfl) rfl ?_
   refine sq (rd_assign rfl) rfl ?_
   refine s_end ?_
   refine f_then ?_
   refine c_ret ?_
   refine f_ret rfl (.tmp rfl .nil) ?_
   refine pu_end ?_
   simp only [resVal_one]
   congr 1
   first | exact (decide_eq_true (by omega)).symm | exact (decide_eq_false (by omega)).symm | (rw [decide_eq_decide]; omega)
  ·try have g16p := of_decide_eq_false g16
   refine sg0 (fun a hA => wanted_no hA rfl rfl rfl g16 rfl) rfl ?_
   refine sg0 (fun a hA => wanted_no hA rfl rfl rfl g16 rfl) rfl ?_
   refine sg0 (fun a hA => wanted_no hA rfl rfl rfl g16 rfl) rfl ?_
   refine sg0 (fun a hA => wanted_no hA rfl rfl rfl g16 rfl) rfl ?_
   refine sg0 (fun a hA => wanted_no hA rfl rfl rfl g16 rfl) rfl ?_
   refine sg1 (fun a hA => wanted_yes hA rfl rfl rfl g10) (rd_pick_ff rfl g16 rfl) rfl ?_
   refine sq (rd_pick_ff rfl g10 rfl) rfl ?_
   refine sq (rd_assign rfl) rfl ?_
   refine s_end ?_
   refine f_then ?_
   refine c_ret ?_
   refine f_ret rfl (.tmp rfl .nil) ?_
   refine pu_end ?_
   simp only [resVal_one]
   congr 1
   first | exact (decide_eq_true (by omega)).symm | exact (decide_eq_false (by omega)).symm | (rw [decide_eq_decide]; omega)

theorem c70 (W : Int) (q : Bool) (h1 : 0 ≤ W) (h2 : W < 340282366920938463463374607431768211456) : Pu Tryz.prog 70 [.agg (wd W).toArray, .bool q] (.int .i64 (sat (if q = true then -W else W))) := by
 refine Pu.enter Tryz.func70 rfl Tryz.ntmps70 rfl (fun w => ?_)
 refine c_seq ?_
 refine c_reg ?_
 refine sx (ef_box rfl rfl rfl) rfl ?_
 rintro b2 hb2
 refine sq (rd_assign rfl) rfl ?_
 refine s_end ?_
 refine f_then ?_
 refine c_seq ?_
 refine c_block ?_
 refine c_seq ?_
 refine c_reg ?_
 refine sq (rd_move rfl) rfl ?_
 refine sq (rd_move rfl) rfl ?_
 refine s_split (d := 7) rfl (fun g7 => ?_) (fun g7 => ?_)
 ·try have g7p := of_decide_eq_true g7
  refine sg1 (fun a hA => wanted_yes hA rfl rfl rfl g7) (rd_field F120_0 rfl) rfl ?_
  refine sg1 (fun a hA => wanted_yes hA rfl rfl rfl g7) (rd_ldb C118 rfl (by first | exact .head _) rfl) rfl ?_
  refine sg1 (fun a hA => wanted_yes hA rfl rfl rfl g7) (rd_gtr rfl rfl) rfl ?_
  refine sg1 (fun a hA => wanted_yes hA rfl rfl rfl g7) (rd_move rfl) rfl ?_
  refine s_split (d := 11) rfl (fun g11 => ?_) (fun g11 => ?_)
  ·try have g11p := of_decide_eq_true g11
   refine sg0 (fun a hA => wanted_no hA rfl rfl rfl g11 rfl) rfl ?_
   refine sg0 (fun a hA => wanted_no hA rfl rfl rfl g11 rfl) rfl ?_
   refine sg0 (fun a hA => wanted_no hA rfl rfl rfl g11 rfl) rfl ?_
   refine sg1 (fun a hA => wanted_yes hA rfl rfl rfl g7) (rd_pick_tt rfl g11 rfl) rfl ?_
   refine sq (rd_pick_tt rfl g7 rfl) rfl ?_
   refine sq (rd_assign rfl) rfl ?_
   refine s_end ?_
   refine f_then ?_
   refine c_lit_t rfl ?_
   refine c_seq ?_
   refine c_reg ?_
   refine sq (rd_assign rfl) rfl ?_
   refine s_end ?_
   refine f_then ?_
   refine c_ret ?_
   refine f_blk_r ?_
   refine f_then_r ?_
   refine f_ret rfl (.tmp rfl .nil) ?_
   refine pu_end (int_eq ?_)
   first | (subst g7; cases h17; done) | ((first | simp only [wrapU, wrapI] | skip); unfold sat; (first | subst g7 | skip); (first | subst h17 | skip); simp only [if_true, if_false, Bool.false_eq_true]; (repeat' split) <;> omega)
  ·try have g11p := of_decide_eq_false g11
   refine sg1 (fun a hA => wanted_yes hA rfl rfl rfl g11) (rd_field F120_1 rfl) rfl ?_
   refine sg1 (fun a hA => wanted_yes hA rfl rfl rfl g11) (rd_ldb C118 rfl (by first | exact .head _) rfl) rfl ?_
   refine sg1 (fun a hA => wanted_yes hA rfl rfl rfl g11) (rd_gtr rfl rfl) rfl ?_
   refine sg1 (fun a hA => wanted_yes hA rfl rfl rfl g7) (rd_pick_ff rfl g11 rfl) rfl ?_
   refine sq (rd_pick_tt rfl g7 rfl) rfl ?_
   refine sq (rd_assign rfl) rfl ?_
   refine s_end ?_
   refine f_then ?_
   refine c_if rfl (fun h5 => ?_) (fun h5 => ?_)
   ·refine c_seq ?_
    refine c_reg ?_
    refine sq (rd_assign rfl) rfl ?_
    refine s_end ?_
    refine f_then ?_
    refine c_ret ?_
    refine f_blk_r ?_
    refine f_then_r ?_
    refine f_ret rfl (.tmp rfl .nil) ?_
    refine pu_end (int_eq ?_)
    first | (subst g7; cases h17; done) | ((first | simp only [wrapU, wrapI] | skip); unfold sat; (first | subst g7 | skip); (first | subst h17 | skip); simp only [if_true, if_false, Bool.false_eq_true]; (repeat' split) <;> omega)
   ·refine c_seq ?_
    refine c_reg ?_
    refine sq (rd_move rfl) rfl ?_
    refine sq (rd_assign rfl) rfl ?_
    refine s_end ?_
    refine f_then ?_
    refine c_cond rfl (fun h17 => ?_) (fun h17 => ?_)
    ·refine c_seq ?_
     refine c_reg ?_
     refine sq (rd_field F120_1 rfl) rfl ?_
     refine sq (rd_ldb C118 rfl (by first | exact .head _) rfl) rfl ?_
     refine sq (rd_neg rfl rfl) rfl ?_
     refine sq (rd_conv ⟨_, I118⟩ I2 rfl rfl) rfl ?_
     refine sq (rd_assign rfl) rfl ?_
     refine s_end ?_
     refine f_then ?_
     refine c_ret ?_
     refine f_blk_r ?_
     refine f_then_r ?_
     refine f_ret rfl (.tmp rfl .nil) ?_
     refine pu_end (int_eq ?_)
     first | (subst g7; cases h17; done) | ((first | simp only [wrapU, wrapI] | skip); unfold sat; (first | subst g7 | skip); (first | subst h17 | skip); simp only [if_true, if_false, Bool.false_eq_true]; (repeat' split) <;> omega)
    ·refine c_seq ?_
     refine c_reg ?_
     refine sq (rd_field F120_0 rfl) rfl ?_
     refine sq (rd_ldb C118 rfl (by first | exact .head _) rfl) rfl ?_
     refine sq (rd_gtr rfl rfl) rfl ?_
     refine sq (rd_move rfl) rfl ?_
     refine s_split (d := 27) rfl (fun g27 => ?_) (fun g27 => ?_)
     ·try have g27p := of_decide_eq_true g27
      refine sg0 (fun a hA => wanted_no hA rfl rfl rfl g27 rfl) rfl ?_
      refine sg0 (fun a hA => wanted_no hA rfl rfl rfl g27 rfl) rfl ?_
      refine sg0 (fun a hA => wanted_no hA rfl rfl rfl g27 rfl) rfl ?_
      refine sq (rd_pick_tt rfl g27 rfl) rfl ?_
      refine sq (rd_assign rfl) rfl ?_
      refine s_end ?_
      refine f_then ?_
      refine c_lit_t rfl ?_
      refine c_seq ?_
      refine c_reg ?_
      refine sq (rd_assign rfl) rfl ?_
      refine s_end ?_
      refine f_then ?_
      refine c_ret ?_
      refine f_blk_r ?_
      refine f_then_r ?_
      refine f_ret rfl (.tmp rfl .nil) ?_
      refine pu_end (int_eq ?_)
      first | (subst g7; cases h17; done) | ((first | simp only [wrapU, wrapI] | skip); unfold sat; (first | subst g7 | skip); (first | subst h17 | skip); simp only [if_true, if_false, Bool.false_eq_true]; (repeat' split) <;> omega)
     ·try have g27p := of_decide_eq_false g27
      refine sg1 (fun a hA => wanted_yes hA rfl rfl rfl g27) (rd_field F120_1 rfl) rfl ?_
      refine sg1 (fun a hA => wanted_yes hA rfl rfl rfl g27) (rd_ldb C118 rfl (by first | exact .head _) rfl) rfl ?_
      refine sg1 (fun a hA => wanted_yes hA rfl rfl rfl g27) (rd_gtr rfl rfl) rfl ?_
      refine sq (rd_pick_ff rfl g27 rfl) rfl ?_
      refine sq (rd_assign rfl) rfl ?_
      refine s_end ?_
      refine f_then ?_
      refine c_if rfl (fun h23 => ?_) (fun h23 => ?_)
      ·refine c_seq ?_
       refine c_reg ?_
       refine sq (rd_assign rfl) rfl ?_
       refine s_end ?_
       refine f_then ?_
       refine c_ret ?_
       refine f_blk_r ?_
       refine f_then_r ?_
       refine f_ret rfl (.tmp rfl .nil) ?_
       refine pu_end (int_eq ?_)
       first | (subst g7; cases h17; done) | ((first | simp only [wrapU, wrapI] | skip); unfold sat; (first | subst g7 | skip); (first | subst h17 | skip); simp only [if_true, if_false, Bool.false_eq_true]; (repeat' split) <;> omega)
      ·refine c_skip ?_
       refine f_blk ?_
       refine f_then ?_
       refine c_seq ?_
       refine c_reg ?_
       refine sq (rd_field F120_1 rfl) rfl ?_
       refine sq (rd_ldb C118 rfl (by first | exact .head _) rfl) rfl ?_
       refine sq (rd_conv ⟨_, I118⟩ I2 rfl rfl) rfl ?_
       refine sq (rd_assign rfl) rfl ?_
       refine s_end ?_
       refine f_then ?_
       refine c_ret ?_
       refine f_ret rfl (.tmp rfl .nil) ?_
       refine pu_end (int_eq ?_)
       first | (subst g7; cases h17; done) | ((first | simp only [wrapU, wrapI] | skip); unfold sat; (first | subst g7 | skip); (first | subst h17 | skip); simp only [if_true, if_false, Bool.false_eq_true]; (repeat' split) <;> omega)
 ·try have g7p := of_decide_eq_false g7
  refine sg0 (fun a hA => wanted_no hA rfl rfl rfl g7 rfl) rfl ?_
  refine sg0 (fun a hA => wanted_no hA rfl rfl rfl g7 rfl) rfl ?_
  refine sg0 (fun a hA => wanted_no hA rfl rfl rfl g7 rfl) rfl ?_
  refine sg0 (fun a hA => wanted_no hA rfl rfl rfl g7 rfl) rfl ?_
  refine sg0 (fun a hA => wanted_un hA rfl rfl rfl) rfl ?_
  refine sg0 (fun a hA => wanted_un hA rfl rfl rfl) rfl ?_
  refine sg0 (fun a hA => wanted_un hA rfl rfl rfl) rfl ?_
  refine sg0 (fun a hA => wanted_no hA rfl rfl rfl g7 rfl) rfl ?_
  refine sq (rd_pick_ff rfl g7 rfl) rfl ?_
  refine sq (rd_assign rfl) rfl ?_
  refine s_end ?_
  refine f_then ?_
  refine c_lit_f rfl ?_
  refine c_seq ?_
  refine c_reg ?_
  refine sq (rd_move rfl) rfl ?_
  refine sq (rd_assign rfl) rfl ?_
  refine s_end ?_
  refine f_then ?_
  refine c_cond rfl (fun h17 => ?_) (fun h17 => ?_)
  ·refine c_seq ?_
   refine c_reg ?_
   refine sq (rd_field F120_1 rfl) rfl ?_
   refine sq (rd_ldb C118 rfl (by first | exact .head _) rfl) rfl ?_
   refine sq (rd_neg rfl rfl) rfl ?_
   refine sq (rd_conv ⟨_, I118⟩ I2 rfl rfl) rfl ?_
   refine sq (rd_assign rfl) rfl ?_
   refine s_end ?_
   refine f_then ?_
   refine c_ret ?_
   refine f_blk_r ?_
   refine f_then_r ?_
   refine f_ret rfl (.tmp rfl .nil) ?_
   refine pu_end (int_eq ?_)
   first | (subst g7; cases h17; done) | ((first | simp only [wrapU, wrapI] | skip); unfold sat; (first | subst g7 | skip); (first | subst h17 | skip); simp only [if_true, if_false, Bool.false_eq_true]; (repeat' split) <;> omega)
  ·refine c_seq ?_
   refine c_reg ?_
   refine sq (rd_field F120_0 rfl) rfl ?_
   refine sq (rd_ldb C118 rfl (by first | exact .head _) rfl) rfl ?_
   refine sq (rd_gtr rfl rfl) rfl ?_
   refine sq (rd_move rfl) rfl ?_
   refine s_split (d := 27) rfl (fun g27_1 => ?_) (fun g27_1 => ?_)
   ·try have g27_1p := of_decide_eq_true g27_1
    refine sg0 (fun a hA => wanted_no hA rfl rfl rfl g27_1 rfl) rfl ?_
    refine sg0 (fun a hA => wanted_no hA rfl rfl rfl g27_1 rfl) rfl ?_
    refine sg0 (fun a hA => wanted_no hA rfl rfl rfl g27_1 rfl) rfl ?_
    refine sq (rd_pick_tt rfl g27_1 rfl) rfl ?_
    refine sq (rd_assign rfl) rfl ?_
    refine s_end ?_
    refine f_then ?_
    refine c_lit_t rfl ?_
    refine c_seq ?_
    refine c_reg ?_
    refine sq (rd_assign rfl) rfl ?_
    refine s_end ?_
    refine f_then ?_
    refine c_ret ?_
    refine f_blk_r ?_
    refine f_then_r ?_
    refine f_ret rfl (.tmp rfl .nil) ?_
    refine pu_end (int_eq ?_)
    first | (subst g7; cases h17; done) | ((first | simp only [wrapU, wrapI] | skip); unfold sat; (first | subst g7 | skip); (first | subst h17 | skip); simp only [if_true, if_false, Bool.false_eq_true]; (repeat' split) <;> omega)
   ·try have g27_1p := of_decide_eq_false g27_1
    refine sg1 (fun a hA => wanted_yes hA rfl rfl rfl g27_1) (rd_field F120_1 rfl) rfl ?_
    refine sg1 (fun a hA => wanted_yes hA rfl rfl rfl g27_1) (rd_ldb C118 rfl (by first | exact .head _) rfl) rfl ?_
    refine sg1 (fun a hA => wanted_yes hA rfl rfl rfl g27_1) (rd_gtr rfl rfl) rfl ?_
    refine sq (rd_pick_ff rfl g27_1 rfl) rfl ?_
    refine sq (rd_assign rfl) rfl ?_
    refine s_end ?_
    refine f_then ?_
    refine c_if rfl (fun h23 => ?_) (fun h23 => ?_)
    ·refine c_seq ?_
     refine c_reg ?_
     refine sq (rd_assign rfl) rfl ?_
     refine s_end ?_
     refine f_then ?_
     refine c_ret ?_
     refine f_blk_r ?_
     refine f_then_r ?_
     refine f_ret rfl (.tmp rfl .nil) ?_
     refine pu_end (int_eq ?_)
     first | (subst g7; cases h17; done) | ((first | simp only [wrapU, wrapI] | skip); unfold sat; (first | subst g7 | skip); (first | subst h17 | skip); simp only [if_true, if_false, Bool.false_eq_true]; (repeat' split) <;> omega)
    ·refine c_skip ?_
     refine f_blk ?_
     refine f_then ?_
     refine c_seq ?_
     refine c_reg ?_
     refine sq (rd_field F120_1 rfl) rfl ?_
     refine sq (rd_ldb C118 rfl (by first | exact .head _) rfl) rfl ?_
     refine sq (rd_conv ⟨_, I118⟩ I2 rfl rfl) rfl ?_
     refine sq (rd_assign rfl) rfl ?_
     refine s_end ?_
     refine f_then ?_
     refine c_ret ?_
     refine f_ret rfl (.tmp rfl .nil) ?_
     refine pu_end (int_eq ?_)
     first | (subst g7; cases h17; done) | ((first | simp only [wrapU, wrapI] | skip); unfold sat; (first | subst g7 | skip); (first | subst h17 | skip); simp only [if_true, if_false, Bool.false_eq_true]; (repeat' split) <;> omega)

theorem c73 (a b : Int) (h1 : isI64 a) (h2 : isI64 b) : Pu Tryz.prog 73 [.int .i64 a, .int .i64 b] (.int .i64 (sat (a - b))) := by
 refine Pu.enter Tryz.func73 rfl Tryz.ntmps73 rfl (fun w => ?_)
 refine c_seq ?_
 refine c_reg ?_
 refine sq (rd_assign rfl) rfl ?_
 refine s_end ?_
 refine f_then ?_
 refine c_seq ?_
 refine c_seq ?_
 refine c_reg ?_
 refine sq (rd_move rfl) rfl ?_
 refine sq (rd_lss rfl rfl) rfl ?_
 refine sq (rd_move rfl) rfl ?_
 refine sq (rd_lss rfl rfl) rfl ?_
 refine sq (rd_neb B4 rfl rfl) rfl ?_
 refine s_end ?_
 refine f_then ?_
 refine c_cond rfl (fun h9 => ?_) (fun h9 => ?_)
 ·refine c_seq ?_
  refine c_reg ?_
  refine sq (rd_move rfl) rfl ?_
  refine se (ef_pure rfl rfl K121 rfl (by exact (c121 _ h1))) rfl ?_
  refine sq (rd_build St120 rfl (by repeat constructor)) rfl ?_
  refine sq (rd_move rfl) rfl ?_
  refine se (ef_pure rfl rfl K121 rfl (by exact (c121 _ h2))) rfl ?_
  refine sq (rd_build St120 rfl (by repeat constructor)) rfl ?_
  refine se (ef_pure rfl rfl K122 rfl (by exact (c122o _ _ (by unfold isU64 isI64 at *; omega) (by unfold isU64 isI64 at *; omega)))) rfl ?_
  refine sq (rd_move rfl) rfl ?_
  refine sq (rd_lss rfl rfl) rfl ?_
  refine se (ef_pure rfl rfl K70 rfl (by exact (c70 _ _ (by unfold isI64 at *; omega) (by unfold isI64 at *; omega)))) rfl ?_
  refine sq (rd_assign rfl) rfl ?_
  refine s_end ?_
  refine f_then ?_
  refine c_ret ?_
  refine f_then_r ?_
  refine f_ret rfl (.tmp rfl .nil) ?_
  refine pu_end (int_eq ?_)
  unfold isI64 at *
  by_cases ha : a < 0 <;> by_cases hb : b < 0 <;> simp [ha, hb] at h9 <;> simp only [ha, decide_true, decide_false, if_true, if_false, Bool.false_eq_true, reduceIte] <;> congr 1 <;> omega
 ·refine c_skip ?_
  refine f_then ?_
  refine c_seq ?_
  refine c_reg ?_
  refine sq (rd_move rfl) rfl ?_
  refine sq (rd_move rfl) rfl ?_
  refine sq (rd_sub rfl rfl rfl) rfl ?_
  refine sq (rd_assign rfl) rfl ?_
  refine s_end ?_
  refine f_then ?_
  refine c_ret ?_
  refine f_ret rfl (.tmp rfl .nil) ?_
  refine pu_end (int_eq ?_)
  unfold isI64 at *
  rw [wrapI]
  by_cases ha : a < 0 <;> by_cases hb : b < 0 <;> simp [ha, hb] at h9 <;> unfold sat <;> (repeat' split) <;> omega

theorem c119 (U D a b : Int) (bu bd : Nat) (h1 : isI64 a) (h2 : isI64 b) (hU : 0 ≤ U) (hD : 0 ≤ D) (hU2 : U + (a.natAbs : Int) * (b.natAbs : Int) < 340282366920938463463374607431768211456) (hD2 : D + (a.natAbs : Int) * (b.natAbs : Int) < 340282366920938463463374607431768211456) (w : World) (hS : St w (fpOf [.blk bu (wd U) 120, .blk bd (wd D) 120]) [.blk bu (wd U) 120, .blk bd (wd D) 120] w) : Calls Tryz.prog 119 [.int .i64 a, .int .i64 b, .pointer (some ⟨bu, 0, none⟩), .pointer (some ⟨bd, 0, none⟩)].toArray w (RtE fun v w' => ∃ x : Unit, v = (fun _ => .int .i64 0) x ∧ (fun _ => True) x ∧ St w (fpOf [.blk bu (wd U) 120, .blk bd (wd D) 120]) ((fun _ => [.blk bu (wd (if (decide (a < 0) == decide (b < 0)) = true then U + (a.natAbs : Int) * (b.natAbs : Int) else U)) 120, .blk bd (wd (if (decide (a < 0) == decide (b < 0)) = true then D else D + (a.natAbs : Int) * (b.natAbs : Int))) 120]) x) w') := by
 refine enter Tryz.func119 rfl Tryz.ntmps119 rfl hS ?_
 refine c_seq ?_
 refine c_reg ?_
 refine sq (rd_assign rfl) rfl ?_
 refine s_end ?_
 refine f_then ?_
 refine c_seq ?_
 have hp : 0 ≤ (a.natAbs : Int) * (b.natAbs : Int) := by exact_mod_cast Nat.zero_le _
 refine c_reg ?_
 refine sq (rd_move rfl) rfl ?_
 refine se (ef_pure rfl rfl K121 rfl (by exact (c121 _ h1))) rfl ?_
 refine sq (rd_move rfl) rfl ?_
 refine se (ef_pure rfl rfl K121 rfl (by exact (c121 _ h2))) rfl ?_
 refine se (ef_pure rfl rfl K120 rfl (by exact (c120 _ _ (by unfold isU64 isI64 at *; omega) (by unfold isU64 isI64 at *; omega)))) rfl ?_
 refine sx (ef_alloc Z120 rfl) rfl ?_
 rintro b7 hb7
 refine se (ef_stores A120 rfl rfl rfl (by repeat constructor) (by first | exact SetR.all rfl | repeat constructor) rfl) rfl ?_
 refine s_end ?_
 refine f_then ?_
 refine c_seq ?_
 refine c_seq ?_
 refine c_reg ?_
 refine sq (rd_move rfl) rfl ?_
 refine sq (rd_lss rfl rfl) rfl ?_
 refine sq (rd_move rfl) rfl ?_
 refine sq (rd_lss rfl rfl) rfl ?_
 refine sq (rd_eqb B4 rfl rfl) rfl ?_
 refine s_end ?_
 refine f_then ?_
 refine c_cond rfl (fun h17 => ?_) (fun h17 => ?_)
 ·refine c_reg ?_
  refine sq (rd_ldsb A120 rfl (by repeat constructor) (by first | exact GetR.all _ | repeat constructor)) rfl ?_
  refine sq (rd_ldsb A120 rfl (by repeat constructor) (by first | exact GetR.all _ | repeat constructor)) rfl ?_
  refine se (ef_pure rfl rfl K122 rfl (by exact (c122w _ _ hU hp (by omega)))) rfl ?_
  refine se (ef_stores A120 rfl rfl rfl (by repeat constructor) (by first | exact SetR.all rfl | repeat constructor) rfl) rfl ?_
  refine s_end ?_
  refine f_then ?_
  refine c_seq ?_
  refine c_reg ?_
  refine sq (rd_assign rfl) rfl ?_
  refine s_end ?_
  refine f_then ?_
  refine c_ret ?_
  refine f_ret rfl (.tmp rfl .nil) ?_
  exact fun w' hS => ⟨_, rfl, (), rfl, trivial, by first | (rw [if_pos h17, if_pos h17]; exact hS.sb) | (rw [if_neg (by simpa using h17), if_neg (by simpa using h17)]; exact hS.sb)⟩
 ·refine c_reg ?_
  refine sq (rd_ldsb A120 rfl (by repeat constructor) (by first | exact GetR.all _ | repeat constructor)) rfl ?_
  refine sq (rd_ldsb A120 rfl (by repeat constructor) (by first | exact GetR.all _ | repeat constructor)) rfl ?_
  refine se (ef_pure rfl rfl K122 rfl (by exact (c122w _ _ hD hp (by omega)))) rfl ?_
  refine se (ef_stores A120 rfl rfl rfl (by repeat constructor) (by first | exact SetR.all rfl | repeat constructor) rfl) rfl ?_
  refine s_end ?_
  refine f_then ?_
  refine c_seq ?_
  refine c_reg ?_
  refine sq (rd_assign rfl) rfl ?_
  refine s_end ?_
  refine f_then ?_
  refine c_ret ?_
  refine f_ret rfl (.tmp rfl .nil) ?_
  exact fun w' hS => ⟨_, rfl, (), rfl, trivial, by first | (rw [if_pos h17, if_pos h17]; exact hS.sb) | (rw [if_neg (by simpa using h17), if_neg (by simpa using h17)]; exact hS.sb)⟩

theorem c72 (fd : Nat) (F : Int → Int → Int) (hK : callTy Tryz.prog fd) (hF : ∀ x y, isI64 x → isI64 y → Pu Tryz.prog fd [.int .i64 x, .int .i64 y] (.int .i64 (F x y))) (x1 x2 x3 y1 y2 y3 : Int) (h1 : isI64 x1) (h2 : isI64 x2) (h3 : isI64 x3) (h4 : isI64 y1) (h5 : isI64 y2) (h6 : isI64 y3) : Pu Tryz.prog 72 [.agg (vecL x1 x2 x3).toArray, .agg (vecL y1 y2 y3).toArray, .func (.func fd) #[] #[]] (.agg (vecL (F x1 y1) (F x2 y2) (F x3 y3)).toArray) := by
 refine Pu.enter Tryz.func72 rfl Tryz.ntmps72 rfl (fun w => ?_)
 refine c_seq ?_
 refine c_reg ?_
 refine sx (ef_box rfl rfl rfl) rfl ?_
 rintro b3 hb3
 refine sx (ef_box rfl rfl rfl) rfl ?_
 rintro b4 hb4
 refine sx (ef_alloc Z48 rfl) rfl ?_
 rintro b6 hb6
 refine s_end ?_
 refine f_then ?_
 refine c_seq ?_
 refine c_regd [.blk b4 _ _, .blk b3 _ _] (.q 0 (.q 1 (.q 2 (.q 3 (.q 4 (.q 6 (.q 7 (.q 8 (.q 9 (.q 10 (.q 12 (.q 13 (.q 14 (.q 15 (.q 16 (.alt 5 (.alt 11 (.alt 17 (.q 18 (.alt 19 .done .stop)) .stop) .stop) .stop)))))))))))))))) (by kernel_rfl) (by kernel_rfl) (by kernel_rfl) (by kernel_rfl) (fun _ h => h.sb) ?_
 refine dq rfl (rd_move rfl) rfl ?_
 refine dq rfl (rd_field F48_0 rfl) rfl ?_
 refine dq rfl (rd_ldb C2 rfl (by repeat constructor) rfl) rfl ?_
 refine dq rfl (rd_field F48_0 rfl) rfl ?_
 refine dq rfl (rd_ldb C2 rfl (by repeat constructor) rfl) rfl ?_
 refine dq rfl (rd_move rfl) rfl ?_
 refine dq rfl (rd_field F48_1 rfl) rfl ?_
 refine dq rfl (rd_ldb C2 rfl (by repeat constructor) rfl) rfl ?_
 refine dq rfl (rd_field F48_1 rfl) rfl ?_
 refine dq rfl (rd_ldb C2 rfl (by repeat constructor) rfl) rfl ?_
 refine dq rfl (rd_move rfl) rfl ?_
 refine dq rfl (rd_field F48_2 rfl) rfl ?_
 refine dq rfl (rd_ldb C2 rfl (by repeat constructor) rfl) rfl ?_
 refine dq rfl (rd_field F48_2 rfl) rfl ?_
 refine dq rfl (rd_ldb C2 rfl (by repeat constructor) rfl) rfl ?_
 refine de rfl rfl (ef_pure rfl rfl hK rfl (by exact (hF _ _ h1 h4))) (fun _ h => h.sb) ?_ d_stop
 refine de rfl rfl (ef_pure rfl rfl hK rfl (by exact (hF _ _ h2 h5))) (fun _ h => h.sb) ?_ d_stop
 refine de rfl rfl (ef_pure rfl rfl hK rfl (by exact (hF _ _ h3 h6))) (fun _ h => h.sb) ?_ d_stop
 refine dq rfl (rd_build St48 rfl (by repeat constructor)) rfl ?_
 refine de rfl rfl (ef_stores A48 rfl rfl rfl (by repeat constructor) (by first | exact SetR.all rfl | repeat constructor) rfl) (fun _ h => h.sb) ?_ d_stop
 refine d_end ?_
 refine f_then ?_
 refine c_ret ?_
 refine f_ret rfl (.cell (res_ldsb A48 rfl (by repeat constructor) (by first | exact GetR.all _ | repeat constructor)) .nil) ?_
 exact pu_end rfl

theorem c32 (x1 x2 x3 y1 y2 y3 : Int) (h1 : isI64 x1) (h2 : isI64 x2) (h3 : isI64 x3) (h4 : isI64 y1) (h5 : isI64 y2) (h6 : isI64 y3) : Pu Tryz.prog 32 [.agg (vecL x1 x2 x3).toArray, .agg (vecL y1 y2 y3).toArray] (.agg (vecL (sat (x1 - y1)) (sat (x2 - y2)) (sat (x3 - y3))).toArray) := by
 refine Pu.enter Tryz.func32 rfl Tryz.ntmps32 rfl (fun w => ?_)
 refine c_seq ?_
 refine c_reg ?_
 refine sx (ef_box rfl rfl rfl) rfl ?_
 rintro b2 hb2
 refine sx (ef_box rfl rfl rfl) rfl ?_
 rintro b3 hb3
 refine sx (ef_alloc Z48 rfl) rfl ?_
 rintro b4 hb4
 refine s_end ?_
 refine f_then ?_
 refine c_seq ?_
 refine c_reg ?_
 refine sq (rd_ldsb A48 rfl (by repeat constructor) (by first | exact GetR.all _ | repeat constructor)) rfl ?_
 refine sq (rd_ldsb A48 rfl (by repeat constructor) (by first | exact GetR.all _ | repeat constructor)) rfl ?_
 refine se (ef_pure rfl rfl K72 rfl (by exact (c72 73 _ K73 (fun x y => c73 x y) _ _ _ _ _ _ h1 h2 h3 h4 h5 h6))) rfl ?_
 refine se (ef_stores A48 rfl rfl rfl (by repeat constructor) (by first | exact SetR.all rfl | repeat constructor) rfl) rfl ?_
 refine s_end ?_
 refine f_then ?_
 refine c_ret ?_
 refine f_ret rfl (.cell (res_ldsb A48 rfl (by repeat constructor) (by first | exact GetR.all _ | repeat constructor)) .nil) ?_
 exact pu_end rfl

theorem sq_bound {a : Int} (h : isI64 a) : 0 ≤ a * a ∧ a * a ≤ 85070591730234615865843651857942052864 := by
 have e : a * a = ((a.natAbs * a.natAbs : Nat) : Int) := by rw [Int.natCast_mul]; exact (Int.natAbs_mul_self' a).symm
 have h1 : a.natAbs ≤ 9223372036854775808 := by unfold isI64 at h; omega
 have h2 : a.natAbs * a.natAbs ≤ 9223372036854775808 * 9223372036854775808 := Nat.mul_le_mul h1 h1
 rw [e]
 omega
theorem c119s (U a : Int) (bu bd : Nat) (h1 : isI64 a) (hU : 0 ≤ U) (hU2 : U + a * a < 340282366920938463463374607431768211456) (w : World) (hS : St w (fpOf [.blk bu (wd U) 120, .blk bd (wd 0) 120]) [.blk bu (wd U) 120, .blk bd (wd 0) 120] w) :
  Calls Tryz.prog 119 [.int .i64 a, .int .i64 a, .pointer (some ⟨bu, 0, none⟩), .pointer (some ⟨bd, 0, none⟩)].toArray w (RtE fun v w' => ∃ x : Unit, v = (fun _ => Value.int .i64 0) x ∧ (fun _ => True) x ∧ St w (fpOf [.blk bu (wd U) 120, .blk bd (wd 0) 120]) ((fun _ => [.blk bu (wd (U + a * a)) 120, .blk bd (wd 0) 120]) x) w') := by
 have e : (a.natAbs : Int) * (a.natAbs : Int) = a * a := Int.natAbs_mul_self' a
 have hb := sq_bound h1
 have h := c119 U 0 a a bu bd h1 h1 hU (by omega) (by omega) (by omega) w hS
 simp only [e, beq_self_eq_true, if_true] at h
 exact h

theorem c72u (x1 x2 x3 : Int) (bu bd : Nat) (h1 : isI64 x1) (h2 : isI64 x2) (h3 : isI64 x3) (w : World) (hS : St w (fpOf [.blk bu (wd 0) 120, .blk bd (wd 0) 120]) [.blk bu (wd 0) 120, .blk bd (wd 0) 120] w) : Calls Tryz.prog 72 [.agg (vecL x1 x2 x3).toArray, .agg (vecL x1 x2 x3).toArray, .func (.func 119) #[] #[.pointer (some ⟨bu, 0, none⟩), .pointer (some ⟨bd, 0, none⟩)]].toArray w (RtE fun v w' => ∃ x : Unit, v = (fun _ => .agg (vecL 0 0 0).toArray) x ∧ (fun _ => True) x ∧ St w (fpOf [.blk bu (wd 0) 120, .blk bd (wd 0) 120]) ((fun _ => [.blk bu (wd (0 + x1 * x1 + x2 * x2 + x3 * x3)) 120, .blk bd (wd 0) 120]) x) w') := by
 refine enter Tryz.func72 rfl Tryz.ntmps72 rfl hS ?_
 refine c_seq ?_
 refine c_reg ?_
 refine sx (ef_box rfl rfl rfl) rfl ?_
 rintro b3 hb3
 refine sx (ef_box rfl rfl rfl) rfl ?_
 rintro b4 hb4
 refine sx (ef_alloc Z48 rfl) rfl ?_
 rintro b6 hb6
 refine s_end ?_
 refine f_then ?_
 refine c_seq ?_
 have q1 := sq_bound h1
 have q2 := sq_bound h2
 have q3 := sq_bound h3
 refine c_regd [.blk b4 _ _, .blk b3 _ _] (.q 0 (.q 1 (.q 2 (.q 3 (.q 4 (.q 6 (.q 7 (.q 8 (.q 9 (.q 10 (.q 12 (.q 13 (.q 14 (.q 15 (.q 16 (.alt 5 (.alt 11 (.alt 17 (.q 18 (.alt 19 .done .stop)) .stop) .stop) .stop)))))))))))))))) (by kernel_rfl) (by kernel_rfl) (by kernel_rfl) (by kernel_rfl) (fun _ h => h.sb) ?_
 refine dq rfl (rd_move rfl) rfl ?_
 refine dq rfl (rd_field F48_0 rfl) rfl ?_
 refine dq rfl (rd_ldb C2 rfl (by repeat constructor) rfl) rfl ?_
 refine dq rfl (rd_field F48_0 rfl) rfl ?_
 refine dq rfl (rd_ldb C2 rfl (by repeat constructor) rfl) rfl ?_
 refine dq rfl (rd_move rfl) rfl ?_
 refine dq rfl (rd_field F48_1 rfl) rfl ?_
 refine dq rfl (rd_ldb C2 rfl (by repeat constructor) rfl) rfl ?_
 refine dq rfl (rd_field F48_1 rfl) rfl ?_
 refine dq rfl (rd_ldb C2 rfl (by repeat constructor) rfl) rfl ?_
 refine dq rfl (rd_move rfl) rfl ?_
 refine dq rfl (rd_field F48_2 rfl) rfl ?_
 refine dq rfl (rd_ldb C2 rfl (by repeat constructor) rfl) rfl ?_
 refine dq rfl (rd_field F48_2 rfl) rfl ?_
 refine dq rfl (rd_ldb C2 rfl (by repeat constructor) rfl) rfl ?_
 refine d_front (.blk bd _ _) (by repeat constructor) ?_
 refine d_front (.blk bu _ _) (by repeat constructor) ?_
 refine dx rfl rfl (ef_call rfl rfl K119 (fun _ e => by cases e; rfl) [.blk bu _ _, .blk bd _ _] _ (.refl _) _ _ _ (fun w hS => by exact c119s 0 _ bu bd h1 (by omega) (by omega) w hS.own)) (fun _ _ _ h => h.sb) ?_ d_stop
 rintro _ _
 refine dx rfl rfl (ef_call rfl rfl K119 (fun _ e => by cases e; rfl) [.blk bu _ _, .blk bd _ _] _ (.refl _) _ _ _ (fun w hS => by exact c119s (0 + x1 * x1) _ bu bd h2 (by omega) (by omega) w hS.own)) (fun _ _ _ h => h.sb) ?_ d_stop
 rintro _ _
 refine dx rfl rfl (ef_call rfl rfl K119 (fun _ e => by cases e; rfl) [.blk bu _ _, .blk bd _ _] _ (.refl _) _ _ _ (fun w hS => by exact c119s (0 + x1 * x1 + x2 * x2) _ bu bd h3 (by omega) (by omega) w hS.own)) (fun _ _ _ h => h.sb) ?_ d_stop
 rintro _ _
 refine dq rfl (rd_build St48 rfl (by repeat constructor)) rfl ?_
 refine de rfl rfl (ef_stores A48 rfl rfl rfl (by repeat constructor) (by first | exact SetR.all rfl | repeat constructor) rfl) (fun _ h => h.sb) ?_ d_stop
 refine d_end ?_
 refine f_then ?_
 refine c_ret ?_
 refine f_ret rfl (.cell (res_ldsb A48 rfl (by repeat constructor) (by first | exact GetR.all _ | repeat constructor)) .nil) ?_
 exact fun w' hS => ⟨_, rfl, (), rfl, trivial, (hS.sb)⟩

theorem wd_zero : wd 0 = [.int .u64 0, .int .u64 0] := by simp [wd]
theorem c72z (x1 x2 x3 : Int) (bu bd : Nat) (h1 : isI64 x1) (h2 : isI64 x2) (h3 : isI64 x3) (w : World) (hS : St w (fpOf [.blk bu [.int .u64 0, .int .u64 0] 120, .blk bd [.int .u64 0, .int .u64 0] 120]) [.blk bu [.int .u64 0, .int .u64 0] 120, .blk bd [.int .u64 0, .int .u64 0] 120] w) :
  Calls Tryz.prog 72 [.agg (vecL x1 x2 x3).toArray, .agg (vecL x1 x2 x3).toArray, .func (.func 119) #[] #[.pointer (some ⟨bu, 0, none⟩), .pointer (some ⟨bd, 0, none⟩)]].toArray w (RtE fun v w' => ∃ x : Unit, v = (fun _ => Value.agg (vecL 0 0 0).toArray) x ∧ (fun _ => True) x ∧ St w (fpOf [.blk bu [.int .u64 0, .int .u64 0] 120, .blk bd [.int .u64 0, .int .u64 0] 120]) ((fun _ => [.blk bu (wd (0 + x1 * x1 + x2 * x2 + x3 * x3)) 120, .blk bd (wd 0) 120]) x) w') := by
 have h := c72u x1 x2 x3 bu bd h1 h2 h3 w
 rw [wd_zero] at h
 rw [wd_zero]
 exact h hS

theorem c69 (x1 x2 x3 : Int) (h1 : isI64 x1) (h2 : isI64 x2) (h3 : isI64 x3) : Pu Tryz.prog 69 [.agg (vecL x1 x2 x3).toArray, .agg (vecL x1 x2 x3).toArray] (.tuple #[.agg (wd (x1 * x1 + x2 * x2 + x3 * x3)).toArray, .agg (wd 0).toArray]) := by
 refine Pu.enter Tryz.func69 rfl Tryz.ntmps69 rfl (fun w => ?_)
 refine c_seq ?_
 refine c_reg ?_
 refine sx (ef_box rfl rfl rfl) rfl ?_
 rintro b2 hb2
 refine sx (ef_box rfl rfl rfl) rfl ?_
 rintro b3 hb3
 refine sx (ef_alloc Z120 rfl) rfl ?_
 rintro b4 hb4
 refine sx (ef_alloc Z120 rfl) rfl ?_
 rintro b5 hb5
 refine s_end ?_
 refine f_then ?_
 refine c_seq ?_
 refine c_reg ?_
 refine sq (rd_ldsb A48 rfl (by repeat constructor) (by first | exact GetR.all _ | repeat constructor)) rfl ?_
 refine sq (rd_ldsb A48 rfl (by repeat constructor) (by first | exact GetR.all _ | repeat constructor)) rfl ?_
 refine sq (rd_func rfl rfl) rfl ?_
 refine s_front (.blk b4 _ _) (by repeat constructor) ?_
 refine sx (ef_call rfl rfl K72 (fun _ e => by cases e; rfl) [.blk b4 _ _, .blk b5 _ _] _ (.refl _) _ _ _ (fun w hS => by exact c72z _ _ _ _ _ h1 h2 h3 w hS.own)) rfl ?_
 rintro _ _
 refine s_end ?_
 refine f_then ?_
 refine c_seq ?_
 refine c_regd [.blk b4 _ _, .blk b5 _ _, .blk b3 _ _, .blk b2 _ _] (.q 0 (.q 1 (.alt 2 (.alt 3 .done .stop) .stop))) (by kernel_rfl) (by kernel_rfl) (by kernel_rfl) (by kernel_rfl) (fun _ h => h.sb) ?_
 refine dq rfl (rd_ldsb A120 rfl (by repeat constructor) (by first | exact GetR.all _ | repeat constructor)) rfl ?_
 refine dq rfl (rd_ldsb A120 rfl (by repeat constructor) (by first | exact GetR.all _ | repeat constructor)) rfl ?_
 refine de rfl rfl (ef_stores A120 rfl rfl rfl (by repeat constructor) (by first | exact SetR.all rfl | repeat constructor) rfl) (fun _ h => h.sb) ?_ d_stop
 refine de rfl rfl (ef_stores A120 rfl rfl rfl (by repeat constructor) (by first | exact SetR.all rfl | repeat constructor) rfl) (fun _ h => h.sb) ?_ d_stop
 refine d_end ?_
 refine f_then ?_
 refine c_ret ?_
 refine f_ret rfl (.cell (res_ldsb A120 rfl (by repeat constructor) (by first | exact GetR.all _ | repeat constructor)) (.cell (res_ldsb A120 rfl (by repeat constructor) (by first | exact GetR.all _ | repeat constructor)) .nil)) ?_
 refine pu_end ?_
 simp only [resVal_two]
 rw [show (0 + x1 * x1 + x2 * x2 + x3 * x3 : Int) = x1 * x1 + x2 * x2 + x3 * x3 from by omega]
 first | done | rfl

/-- The root, bit by bit. -/
def rootGo (W : Nat) : Nat → Nat → Nat
 | 0, n => n
 | k + 1, n => rootGo W k (if (n + 2 ^ k) * (n + 2 ^ k) ≤ W then n + 2 ^ k else n)
/-- The greatest number whose square is not above W (below 2^64). -/
def isq (W : Nat) : Nat := rootGo W 64 0
theorem root_step {k n : Nat} (hn : n % 2 ^ (k + 1) = 0) (hb : n + 2 ^ (k + 1) ≤ 2 ^ 64) : (n + 2 ^ k) % 2 ^ k = 0 ∧ n + 2 ^ k + 2 ^ k ≤ 2 ^ 64 ∧ n % 2 ^ k = 0 ∧ n + 2 ^ k ≤ 2 ^ 64 := by
 have e : 2 ^ (k + 1) = 2 ^ k * 2 := Nat.pow_succ ..
 have h0 : n % 2 ^ k = 0 := Nat.mod_eq_zero_of_dvd (Nat.dvd_trans (Nat.pow_dvd_pow 2 (Nat.le_succ k)) (Nat.dvd_of_mod_eq_zero hn))
 refine ⟨by rw [Nat.add_mod, h0]; simp, by omega, h0, by omega⟩
theorem root_half (k : Nat) : 2 ^ (k + 1) / 2 = 2 ^ k := by rw [Nat.pow_succ]; omega
theorem root_or {k n : Nat} (hn : n % 2 ^ (k + 1) = 0) (hb : n + 2 ^ (k + 1) ≤ 2 ^ 64) : bits .or .u64 (n : Int) ((2 ^ (k + 1) / 2 : Nat) : Int) = ((n + 2 ^ k : Nat) : Int) := by
 have e : 2 ^ (k + 1) = 2 ^ k * 2 := Nat.pow_succ ..
 have hp : 0 < 2 ^ k := Nat.two_pow_pos k
 rw [root_half, bits_or_u64_nat n (2 ^ k) (by omega) (by omega)]
 congr 1
 have hq : n = 2 ^ (k + 1) * (n / 2 ^ (k + 1)) := by have := Nat.div_add_mod n (2 ^ (k + 1)); omega
 have hlt : 2 ^ k < 2 ^ (k + 1) := by omega
 have := Nat.two_pow_add_eq_or_of_lt hlt (n / 2 ^ (k + 1))
 rw [← hq] at this
 exact this.symm
theorem root_shr {k : Nat} {i : IntKind} (hi : i = .u64) : ((2 ^ (k + 1) / 2 : Nat) : Int).fdiv (2 ^ (min (1 : Int).toNat i.bits)) = ((2 ^ k / 2 : Nat) : Int) := by
 subst hi
 rw [root_half, Int.fdiv_eq_ediv_of_nonneg _ (by decide)]
 show ((2 ^ k : Nat) : Int) / 2 = _
 omega
theorem mul_bound {a : Nat} (h : a < 2 ^ 64) : 0 ≤ (a : Int) * (a : Int) ∧ (a : Int) * (a : Int) < 340282366920938463463374607431768211456 := by
 have h2 : a * a ≤ 18446744073709551615 * 18446744073709551615 := Nat.mul_le_mul (by omega) (by omega)
 rw [← Int.natCast_mul]
 omega
theorem rootGo_yes {W k n : Nat} (h : ¬ (W : Int) < ((n + 2 ^ k : Nat) : Int) * ((n + 2 ^ k : Nat) : Int)) : rootGo W (k + 1) n = rootGo W k (n + 2 ^ k) := by
 rw [rootGo, if_pos (by rw [← Int.natCast_mul] at h; omega)]
theorem rootGo_no {W k n : Nat} (h : ¬ ¬ (W : Int) < ((n + 2 ^ k : Nat) : Int) * ((n + 2 ^ k : Nat) : Int)) : rootGo W (k + 1) n = rootGo W k n := by
 rw [rootGo, if_neg (by rw [← Int.natCast_mul] at h; omega)]

theorem c71 (W : Nat) (hW : (W : Int) < 340282366920938463463374607431768211456) : Pu Tryz.prog 71 [.agg (wd (W : Int)).toArray] (.int .u64 ((isq W : Nat) : Int)) := by
 refine Pu.enter Tryz.func71 rfl Tryz.ntmps71 rfl (fun w => ?_)
 refine c_seq ?_
 refine c_reg ?_
 refine sx (ef_box rfl rfl rfl) rfl ?_
 rintro b1 hb1
 refine sq (rd_assign rfl) rfl ?_
 refine s_end ?_
 refine f_then ?_
 refine c_seq ?_
 refine c_seq ?_
 refine c_reg ?_
 refine sq (rd_assign rfl) rfl ?_
 refine s_end ?_
 refine f_then ?_
 refine c_block ?_
 refine c_keep (L' := [(1, _), (2, _), (3, _)]) (by repeat constructor) ?_
 refine c_for (α := Nat × Nat) (fun ⟨k, n⟩ => k ≤ 64 ∧ n % 2 ^ k = 0 ∧ n + 2 ^ k ≤ 2 ^ 64 ∧ rootGo W k n = isq W) (fun ⟨k, n⟩ => []) [.blk b1 _ _] (fun ⟨k, n⟩ => [(2, .int .u64 (n : Int)), (3, .int .u64 ((2 ^ k / 2 : Nat) : Int))]) [(1, _)] (fun ⟨k, n⟩ => k) ((64, 0)) (⟨Nat.le_refl _, by decide, by decide, rfl⟩) (by repeat constructor) (fun _ h => h) ?_
 rintro ⟨k, n⟩ ⟨hk, hn, hb, hr⟩
 refine c_seq ?_
 refine c_seq ?_
 refine c_reg ?_
 refine sq (rd_move rfl) rfl ?_
 refine sq (rd_gtr rfl rfl) rfl ?_
 refine s_end ?_
 refine f_then ?_
 refine c_if rfl (fun h5 => ?_) (fun h5 => ?_)
 ·obtain ⟨k, rfl⟩ : ∃ m, k = m + 1 := ⟨k - 1, by rcases k with _ | k; (simp at h5); rfl⟩
  obtain ⟨s1, s2, s3, s4⟩ := root_step hn hb
  have hlt : n + 2 ^ k < 2 ^ 64 := by have := Nat.two_pow_pos k; omega
  obtain ⟨m1, m2⟩ := mul_bound hlt
  have hu : isU64 ((n + 2 ^ k : Nat) : Int) := by unfold isU64; omega
  refine c_skip ?_
  refine f_then ?_
  refine c_seq ?_
  refine c_block ?_
  refine c_seq ?_
  refine c_regd [.blk b1 _ _] (.q 0 (.q 1 (.q 2 (.q 3 (.q 4 (.q 5 (.q 7 (.alt 6 (.alt 8 (.q 9 .done) .stop) .stop)))))))) (by kernel_rfl) (by kernel_rfl) (by kernel_rfl) (by kernel_rfl) (fun _ h => h.sb) ?_
  refine dq rfl (rd_move rfl) rfl ?_
  refine dq rfl (rd_move rfl) rfl ?_
  refine dq rfl (rd_or' rfl rfl (root_or hn hb)) rfl ?_
  refine dq rfl (rd_move rfl) rfl ?_
  refine dq rfl (rd_move rfl) rfl ?_
  refine dq rfl (rd_or' rfl rfl (root_or hn hb)) rfl ?_
  refine dq rfl (rd_ldsb A120 rfl (by first | exact .head _) (by first | exact GetR.all _ | repeat constructor)) rfl ?_
  refine de rfl rfl (ef_pure rfl rfl K120 rfl (by exact (c120 _ _ hu hu))) (fun _ h => h.sb) ?_ d_stop
  refine de rfl rfl (ef_pure rfl rfl K123 rfl (by exact (c123 _ _ m1 (by omega) m2 (by omega)))) (fun _ h => h.sb) ?_ d_stop
  refine dq rfl ((by first | exact rd_notd rfl | exact rd_not rfl)) rfl ?_
  refine d_end ?_
  refine f_then ?_
  refine c_if rfl (fun h17 => ?_) (fun h17 => ?_)
  ·refine c_reg ?_
   refine sq (rd_move rfl) rfl ?_
   refine sq (rd_move rfl) rfl ?_
   refine sq (rd_or' rfl rfl (root_or hn hb)) rfl ?_
   refine sq (rd_assign rfl) rfl ?_
   refine s_end ?_
   refine f_blk ?_
   refine f_then ?_
   refine c_reg ?_
   refine sq (rd_move rfl) rfl ?_
   refine sq (rd_shr rfl rfl (by decide) (root_shr rfl)) rfl ?_
   refine sq (rd_assign rfl) rfl ?_
   refine s_end ?_
   refine f_again ((k, n + 2 ^ k)) (⟨by omega, s1, s2, (rootGo_yes h17).symm.trans hr⟩) (Nat.lt_succ_self k) (by repeat constructor) (fun _ h => h.sb)
  ·refine c_skip ?_
   refine f_blk ?_
   refine f_then ?_
   refine c_reg ?_
   refine sq (rd_move rfl) rfl ?_
   refine sq (rd_shr rfl rfl (by decide) (root_shr rfl)) rfl ?_
   refine sq (rd_assign rfl) rfl ?_
   refine s_end ?_
   refine f_again ((k, n)) (⟨by omega, s3, s4, (rootGo_no h17).symm.trans hr⟩) (Nat.lt_succ_self k) (by repeat constructor) (fun _ h => h.sb)
 ·refine c_exit ?_
  refine f_then_x ?_
  refine f_then_x ?_
  refine f_blk_x ?_
  refine f_then ?_
  refine c_seq ?_
  refine c_reg ?_
  refine sq (rd_move rfl) rfl ?_
  refine sq (rd_assign rfl) rfl ?_
  refine s_end ?_
  refine f_then ?_
  refine c_ret ?_
  refine f_ret rfl (.tmp rfl .nil) ?_
  refine pu_end (int_eq ?_)
  have hk0 : k = 0 := by
   rcases k with _ | k
   ·rfl
   ·rw [root_half] at h5; have := Nat.two_pow_pos k; omega
  subst hk0
  rw [← hr]; rfl

/-- A vector's length. -/
def long (x y z : Int) : Int := sat ((isq (x.natAbs * x.natAbs + y.natAbs * y.natAbs + z.natAbs * z.natAbs) : Nat) : Int)
theorem natAbs_sq (a : Int) : ((a.natAbs * a.natAbs : Nat) : Int) = a * a := by rw [Int.natCast_mul]; exact Int.natAbs_mul_self' a
theorem rootGo_lt (W : Nat) : ∀ k n, n + 2 ^ k ≤ 2 ^ 64 → rootGo W k n < 2 ^ 64
 | 0, n, h => by simp only [rootGo]; omega
 | k + 1, n, h => by
  have e : 2 ^ (k + 1) = 2 ^ k * 2 := Nat.pow_succ ..
  simp only [rootGo]
  split
  ·exact rootGo_lt W k _ (by omega)
  ·exact rootGo_lt W k _ (by omega)
theorem isq_lt (W : Nat) : isq W < 2 ^ 64 := rootGo_lt W 64 0 (by decide)
theorem c71s (x y z : Int) (h1 : isI64 x) (h2 : isI64 y) (h3 : isI64 z) : Pu Tryz.prog 71 [.agg (wd (x * x + y * y + z * z)).toArray] (.int .u64 ((isq (x.natAbs * x.natAbs + y.natAbs * y.natAbs + z.natAbs * z.natAbs) : Nat) : Int)) := by
 have e : (((x.natAbs * x.natAbs + y.natAbs * y.natAbs + z.natAbs * z.natAbs : Nat)) : Int) = x * x + y * y + z * z := by
  rw [Int.natCast_add, Int.natCast_add, natAbs_sq, natAbs_sq, natAbs_sq]
 have q1 := sq_bound h1
 have q2 := sq_bound h2
 have q3 := sq_bound h3
 rw [← e]
 exact c71 _ (by rw [e]; omega)
theorem c70n (n : Nat) (h : n < 2 ^ 64) : Pu Tryz.prog 70 [.agg #[.int .u64 0, .int .u64 (n : Int)], .bool false] (.int .i64 (sat (n : Int))) := by
 have h := c70 (n : Int) false (by omega) (by omega)
 have e : wd (n : Int) = [.int .u64 0, .int .u64 (n : Int)] := by
  unfold wd
  rw [show (n : Int) / 18446744073709551616 = 0 from by omega, show (n : Int) % 18446744073709551616 = n from by omega]
 rw [e] at h
 simpa using h

theorem c31 (x1 x2 x3 : Int) (h1 : isI64 x1) (h2 : isI64 x2) (h3 : isI64 x3) : Pu Tryz.prog 31 [.agg (vecL x1 x2 x3).toArray] (.int .i64 (long x1 x2 x3)) := by
 refine Pu.enter Tryz.func31 rfl Tryz.ntmps31 rfl (fun w => ?_)
 refine c_seq ?_
 refine c_reg ?_
 refine sx (ef_box rfl rfl rfl) rfl ?_
 rintro b1 hb1
 refine sq (rd_assign rfl) rfl ?_
 refine s_end ?_
 refine f_then ?_
 refine c_seq ?_
 refine c_reg ?_
 refine sq (rd_ldsb A48 rfl (by first | exact .head _) (by first | exact GetR.all _ | repeat constructor)) rfl ?_
 refine sq (rd_ldsb A48 rfl (by first | exact .head _) (by first | exact GetR.all _ | repeat constructor)) rfl ?_
 refine se (ef_pure rfl rfl K69 rfl (by exact (c69 _ _ _ h1 h2 h3))) rfl ?_
 refine sq (rd_move rfl) rfl ?_
 refine sq (rd_extract rfl rfl) rfl ?_
 refine sq (rd_extract rfl rfl) rfl ?_
 refine sx (ef_alloc Z120 rfl) rfl ?_
 rintro b3 hb3
 refine sx (ef_alloc Z120 rfl) rfl ?_
 rintro b4 hb4
 refine se (ef_stores A120 rfl rfl rfl (by repeat constructor) (by first | exact SetR.all rfl | repeat constructor) rfl) rfl ?_
 refine se (ef_stores A120 rfl rfl rfl (by repeat constructor) (by first | exact SetR.all rfl | repeat constructor) rfl) rfl ?_
 refine s_end ?_
 refine f_then ?_
 refine c_seq ?_
 refine c_reg ?_
 refine sq (rd_ldsb A120 rfl (by repeat constructor) (by first | exact GetR.all _ | repeat constructor)) rfl ?_
 refine se (ef_pure rfl rfl K71 rfl (by exact (c71s _ _ _ h1 h2 h3))) rfl ?_
 refine sq (rd_build St120 rfl (by repeat constructor)) rfl ?_
 refine se (ef_pure rfl rfl K70 rfl (by exact (c70n _ (isq_lt _)))) rfl ?_
 refine sq (rd_assign rfl) rfl ?_
 refine s_end ?_
 refine f_then ?_
 refine c_ret ?_
 refine f_ret rfl (.tmp rfl .nil) ?_
 exact pu_end rfl

end Go.Proofs.YtfccnoccfhgcbaaGreatDoor
namespace Go.Proofs.YtfccnoccfhgcbaaGreatDoor
open Go Go.RowKit
theorem Z84 : zeroTy Tryz.prog 84 [.int .i64 0, .slice none 0 0] := by unfold zeroTy; kernel_rfl
theorem F51_0 : fieldTy Tryz.prog 51 0 0 := fieldTy.mk' Tryz.underlying51 rfl (by kernel_rfl) rfl
theorem C3 : cellTy Tryz.prog 3 := ⟨by kernel_rfl, by kernel_rfl⟩
theorem F51_1 : fieldTy Tryz.prog 51 1 1 := fieldTy.mk' Tryz.underlying51 rfl (by kernel_rfl) rfl
theorem F51_2 : fieldTy Tryz.prog 51 2 4 := fieldTy.mk' Tryz.underlying51 rfl (by kernel_rfl) rfl
theorem F51_3 : fieldTy Tryz.prog 51 3 7 := fieldTy.mk' Tryz.underlying51 rfl (by kernel_rfl) rfl
theorem C4 : cellTy Tryz.prog 4 := ⟨by kernel_rfl, by kernel_rfl⟩
theorem F51_4 : fieldTy Tryz.prog 51 4 8 := fieldTy.mk' Tryz.underlying51 rfl (by kernel_rfl) rfl
theorem F51_5 : fieldTy Tryz.prog 51 5 9 := fieldTy.mk' Tryz.underlying51 rfl (by kernel_rfl) rfl
theorem F51_6 : fieldTy Tryz.prog 51 6 10 := fieldTy.mk' Tryz.underlying51 rfl (by kernel_rfl) rfl
theorem F51_7 : fieldTy Tryz.prog 51 7 11 := fieldTy.mk' Tryz.underlying51 rfl (by kernel_rfl) rfl
theorem R49 : arrTy Tryz.prog 49 2 3 1 := ⟨by kernel_rfl, by kernel_rfl⟩
theorem F51_8 : fieldTy Tryz.prog 51 8 13 := fieldTy.mk' Tryz.underlying51 rfl (by kernel_rfl) rfl
theorem F51_9 : fieldTy Tryz.prog 51 9 14 := fieldTy.mk' Tryz.underlying51 rfl (by kernel_rfl) rfl
theorem K82 : callTy Tryz.prog 82 := by unfold callTy; kernel_rfl
theorem Rt82 : rowTy Tryz.prog 82 2 1 8 [.int .i64 0] := ⟨by kernel_rfl, by kernel_rfl, by kernel_rfl, by unfold zeroTy; kernel_rfl, by decide, rfl⟩
theorem St84 : structTy Tryz.prog 84 [(0, 1), (1, 1)] [.int .i64 0, .slice none 0 0] := ⟨by unfold zeroTy; kernel_rfl, _, Tryz.underlying84, fun w => by kernel_rfl⟩
theorem A84 : aggTy Tryz.prog 84 2 := ⟨by kernel_rfl, by kernel_rfl⟩
theorem F54_0 : fieldTy Tryz.prog 54 0 0 := fieldTy.mk' Tryz.underlying54 rfl (by kernel_rfl) rfl
theorem F54_1 : fieldTy Tryz.prog 54 1 1 := fieldTy.mk' Tryz.underlying54 rfl (by kernel_rfl) rfl
theorem F54_2 : fieldTy Tryz.prog 54 2 2 := fieldTy.mk' Tryz.underlying54 rfl (by kernel_rfl) rfl
theorem F54_3 : fieldTy Tryz.prog 54 3 3 := fieldTy.mk' Tryz.underlying54 rfl (by kernel_rfl) rfl
theorem F54_4 : fieldTy Tryz.prog 54 4 6 := fieldTy.mk' Tryz.underlying54 rfl (by kernel_rfl) rfl
theorem F54_5 : fieldTy Tryz.prog 54 5 9 := fieldTy.mk' Tryz.underlying54 rfl (by kernel_rfl) rfl
theorem F54_6 : fieldTy Tryz.prog 54 6 10 := fieldTy.mk' Tryz.underlying54 rfl (by kernel_rfl) rfl
theorem A51 : aggTy Tryz.prog 51 15 := ⟨by kernel_rfl, by kernel_rfl⟩
theorem K43 : callTy Tryz.prog 43 := by unfold callTy; kernel_rfl
theorem S22 : sliceTy Tryz.prog 22 51 15 := ⟨by kernel_rfl, by kernel_rfl⟩
theorem Z51 : zeroTy Tryz.prog 51 [.int .i64 0, .int .i64 0, .int .i64 0, .int .i64 0, .int .i64 0, .int .i64 0, .int .i64 0, .bool false, .int .i64 0, .int .i64 0, .int .i64 0, .int .i64 0, .int .i64 0, .int .i64 0, .int .i64 0] := by unfold zeroTy; kernel_rfl
theorem Rt80 : rowTy Tryz.prog 80 84 2 32 [.int .i64 0, .slice none 0 0] := ⟨by kernel_rfl, by kernel_rfl, by kernel_rfl, by unfold zeroTy; kernel_rfl, by decide, rfl⟩
theorem A54 : aggTy Tryz.prog 54 11 := ⟨by kernel_rfl, by kernel_rfl⟩
theorem K45 : callTy Tryz.prog 45 := by unfold callTy; kernel_rfl
theorem S23 : sliceTy Tryz.prog 23 54 11 := ⟨by kernel_rfl, by kernel_rfl⟩
theorem Z54 : zeroTy Tryz.prog 54 [.int .i64 0, .int .i64 0, .int .i64 0, .int .i64 0, .int .i64 0, .int .i64 0, .int .i64 0, .int .i64 0, .int .i64 0, .int .i64 0, .bool false] := by unfold zeroTy; kernel_rfl
theorem S82 : sliceTy Tryz.prog 82 2 1 := ⟨by kernel_rfl, by kernel_rfl⟩
theorem F84_1 : fieldTy Tryz.prog 84 1 1 := fieldTy.mk' Tryz.underlying84 rfl (by kernel_rfl) rfl
theorem C82 : cellTy Tryz.prog 82 := ⟨by kernel_rfl, by kernel_rfl⟩
theorem F84_0 : fieldTy Tryz.prog 84 0 0 := fieldTy.mk' Tryz.underlying84 rfl (by kernel_rfl) rfl
theorem Ab49 : arrB Tryz.prog 49 1 [.int .i64 0, .int .i64 0] := ⟨by unfold zeroTy; kernel_rfl, _, _, Tryz.underlying49, by kernel_rfl⟩
theorem K105 : callTy Tryz.prog 105 := by unfold callTy; kernel_rfl
theorem St51 : structTy Tryz.prog 51 [(0, 1), (1, 3), (4, 3), (7, 1), (8, 1), (9, 1), (10, 1), (11, 2), (13, 1), (14, 1)] [.int .i64 0, .int .i64 0, .int .i64 0, .int .i64 0, .int .i64 0, .int .i64 0, .int .i64 0, .bool false, .int .i64 0, .int .i64 0, .int .i64 0, .int .i64 0, .int .i64 0, .int .i64 0, .int .i64 0] := ⟨by unfold zeroTy; kernel_rfl, _, Tryz.underlying51, fun w => by kernel_rfl⟩
theorem St54 : structTy Tryz.prog 54 [(0, 1), (1, 1), (2, 1), (3, 3), (6, 3), (9, 1), (10, 1)] [.int .i64 0, .int .i64 0, .int .i64 0, .int .i64 0, .int .i64 0, .int .i64 0, .int .i64 0, .int .i64 0, .int .i64 0, .int .i64 0, .bool false] := ⟨by unfold zeroTy; kernel_rfl, _, Tryz.underlying54, fun w => by kernel_rfl⟩
theorem c82 (q : Bool) : Pu Tryz.prog 82 [.bool q] (.int .i64 (flg q)) := by
 refine Pu.enter Tryz.func82 rfl Tryz.ntmps82 rfl (fun w => ?_)
 refine c_seq ?_
 refine c_reg ?_
 refine sq (rd_assign rfl) rfl ?_
 refine s_end ?_
 refine f_then ?_
 refine c_seq ?_
 refine c_seq ?_
 refine c_reg ?_
 refine sq (rd_move rfl) rfl ?_
 refine s_end ?_
 refine f_then ?_
 refine c_cond rfl (fun h3 => ?_) (fun h3 => ?_)
 ·refine c_seq ?_
  refine c_reg ?_
  refine sq (rd_assign rfl) rfl ?_
  refine s_end ?_
  refine f_then ?_
  refine c_ret ?_
  refine f_then_r ?_
  refine f_ret rfl (.tmp rfl .nil) ?_
  refine pu_end (int_eq ?_)
  unfold flg
  simp only [*]
  rfl
 ·refine c_skip ?_
  refine f_then ?_
  refine c_seq ?_
  refine c_reg ?_
  refine sq (rd_assign rfl) rfl ?_
  refine s_end ?_
  refine f_then ?_
  refine c_ret ?_
  refine f_ret rfl (.tmp rfl .nil) ?_
  refine pu_end (int_eq ?_)
  unfold flg
  simp only [*]
  rfl

theorem c43 (w : World) (p : PL) (hS : St w (fpOf []) [] w) : Calls Tryz.prog 43 [.agg p.enc.toArray].toArray w (RtE fun v w' => ∃ x : Nat, v = (fun b => .agg #[.int .i64 p.id, .slice (some ⟨b, 0, none⟩) 14 14]) x ∧ (fun _ => True) x ∧ St w (fpOf []) ((fun b => [.blk b (ints p.fields) 2]) x) w') := by
 refine enter Tryz.func43 rfl Tryz.ntmps43 rfl hS ?_
 refine c_seq ?_
 refine c_reg ?_
 refine sx (ef_box rfl rfl rfl) rfl ?_
 rintro b1 hb1
 refine sx (ef_alloc Z84 rfl) rfl ?_
 rintro b2 hb2
 refine s_end ?_
 refine f_then ?_
 refine c_seq ?_
 refine c_regd [.blk b1 _ _] (.q 0 (.q 1 (.q 2 (.q 3 (.q 4 (.q 5 (.q 6 (.q 7 (.q 8 (.q 9 (.q 10 (.q 11 (.q 12 (.q 13 (.q 14 (.q 15 (.q 16 (.q 17 (.q 18 (.q 19 (.q 20 (.q 21 (.q 23 (.q 24 (.q 25 (.q 26 (.q 27 (.q 28 (.q 29 (.q 30 (.q 31 (.q 32 (.q 33 (.q 34 (.q 35 (.q 36 (.q 37 (.q 38 (.alt 22 (.alt 39 (.q 40 (.alt 41 .done .stop)) .stop) .stop))))))))))))))))))))))))))))))))))))))) (by kernel_rfl) (by kernel_rfl) (by kernel_rfl) (by kernel_rfl) (fun _ h => h.sb) ?_
 refine dq rfl (rd_field F51_0 rfl) rfl ?_
 refine dq rfl (rd_ldb C3 rfl (by first | exact .head _) rfl) rfl ?_
 refine dq rfl (rd_field F51_1 rfl) rfl ?_
 refine dq rfl (rd_field F48_0 rfl) rfl ?_
 refine dq rfl (rd_ldb C2 rfl (by first | exact .head _) rfl) rfl ?_
 refine dq rfl (rd_field F51_1 rfl) rfl ?_
 refine dq rfl (rd_field F48_1 rfl) rfl ?_
 refine dq rfl (rd_ldb C2 rfl (by first | exact .head _) rfl) rfl ?_
 refine dq rfl (rd_field F51_1 rfl) rfl ?_
 refine dq rfl (rd_field F48_2 rfl) rfl ?_
 refine dq rfl (rd_ldb C2 rfl (by first | exact .head _) rfl) rfl ?_
 refine dq rfl (rd_field F51_2 rfl) rfl ?_
 refine dq rfl (rd_field F48_0 rfl) rfl ?_
 refine dq rfl (rd_ldb C2 rfl (by first | exact .head _) rfl) rfl ?_
 refine dq rfl (rd_field F51_2 rfl) rfl ?_
 refine dq rfl (rd_field F48_1 rfl) rfl ?_
 refine dq rfl (rd_ldb C2 rfl (by first | exact .head _) rfl) rfl ?_
 refine dq rfl (rd_field F51_2 rfl) rfl ?_
 refine dq rfl (rd_field F48_2 rfl) rfl ?_
 refine dq rfl (rd_ldb C2 rfl (by first | exact .head _) rfl) rfl ?_
 refine dq rfl (rd_field F51_3 rfl) rfl ?_
 refine dq rfl (rd_ldb C4 rfl (by first | exact .head _) rfl) rfl ?_
 refine dq rfl (rd_field F51_4 rfl) rfl ?_
 refine dq rfl (rd_ldb C3 rfl (by first | exact .head _) rfl) rfl ?_
 refine dq rfl (rd_field F51_5 rfl) rfl ?_
 refine dq rfl (rd_ldb C3 rfl (by first | exact .head _) rfl) rfl ?_
 refine dq rfl (rd_field F51_6 rfl) rfl ?_
 refine dq rfl (rd_ldb C3 rfl (by first | exact .head _) rfl) rfl ?_
 refine dq rfl (rd_field F51_7 rfl) rfl ?_
 refine dq rfl (rd_index_arr R49 rfl rfl (by omega) (by omega)) rfl ?_
 refine dq rfl (rd_ldb C3 rfl (by first | exact .head _) rfl) rfl ?_
 refine dq rfl (rd_field F51_7 rfl) rfl ?_
 refine dq rfl (rd_index_arr R49 rfl rfl (by omega) (by omega)) rfl ?_
 refine dq rfl (rd_ldb C3 rfl (by first | exact .head _) rfl) rfl ?_
 refine dq rfl (rd_field F51_8 rfl) rfl ?_
 refine dq rfl (rd_ldb C3 rfl (by first | exact .head _) rfl) rfl ?_
 refine dq rfl (rd_field F51_9 rfl) rfl ?_
 refine dq rfl (rd_ldb C3 rfl (by first | exact .head _) rfl) rfl ?_
 refine de rfl rfl (ef_pure rfl rfl K82 rfl (by exact (c82 _))) (fun _ h => h.sb) ?_ d_stop
 refine dx rfl rfl (ef_slice Rt82 rfl (by repeat constructor) rfl rfl) (fun _ _ _ h => h.sb) ?_ d_stop
 rintro b42 hb42
 refine dq rfl (rd_build St84 rfl (by repeat constructor)) rfl ?_
 refine de rfl rfl (ef_stores A84 rfl rfl rfl (by repeat constructor) (by first | exact SetR.all rfl | repeat constructor) rfl) (fun _ h => h.sb) ?_ d_stop
 refine d_end ?_
 refine f_then ?_
 refine c_ret ?_
 refine f_ret rfl (.cell (res_ldsb A84 rfl (by repeat constructor) (by first | exact GetR.all _ | repeat constructor)) .nil) ?_
 exact fun w' hS => ⟨_, rfl, b42, rfl, trivial, St.sub (E' := [_]) hS (by repeat (first | exact .refl _ | apply List.Sublist.cons_cons | apply List.Sublist.cons))⟩

theorem c45 (w : World) (p : SH) (hS : St w (fpOf []) [] w) : Calls Tryz.prog 45 [.agg p.enc.toArray].toArray w (RtE fun v w' => ∃ x : Nat, v = (fun b => .agg #[.int .i64 p.id, .slice (some ⟨b, 0, none⟩) 10 10]) x ∧ (fun _ => True) x ∧ St w (fpOf []) ((fun b => [.blk b (ints p.fields) 2]) x) w') := by
 refine enter Tryz.func45 rfl Tryz.ntmps45 rfl hS ?_
 refine c_seq ?_
 refine c_reg ?_
 refine sx (ef_box rfl rfl rfl) rfl ?_
 rintro b1 hb1
 refine sx (ef_alloc Z84 rfl) rfl ?_
 rintro b2 hb2
 refine s_end ?_
 refine f_then ?_
 refine c_seq ?_
 refine c_regd [.blk b1 _ _] (.q 0 (.q 1 (.q 2 (.q 3 (.q 4 (.q 5 (.q 6 (.q 7 (.q 8 (.q 9 (.q 10 (.q 11 (.q 12 (.q 13 (.q 14 (.q 15 (.q 16 (.q 17 (.q 18 (.q 19 (.q 20 (.q 21 (.q 22 (.q 23 (.q 24 (.q 25 (.q 26 (.q 27 (.alt 28 (.alt 29 (.q 30 (.alt 31 .done .stop)) .stop) .stop))))))))))))))))))))))))))))) (by kernel_rfl) (by kernel_rfl) (by kernel_rfl) (by kernel_rfl) (fun _ h => h.sb) ?_
 refine dq rfl (rd_field F54_0 rfl) rfl ?_
 refine dq rfl (rd_ldb C3 rfl (by first | exact .head _) rfl) rfl ?_
 refine dq rfl (rd_field F54_1 rfl) rfl ?_
 refine dq rfl (rd_ldb C3 rfl (by first | exact .head _) rfl) rfl ?_
 refine dq rfl (rd_field F54_2 rfl) rfl ?_
 refine dq rfl (rd_ldb C3 rfl (by first | exact .head _) rfl) rfl ?_
 refine dq rfl (rd_field F54_3 rfl) rfl ?_
 refine dq rfl (rd_field F48_0 rfl) rfl ?_
 refine dq rfl (rd_ldb C2 rfl (by first | exact .head _) rfl) rfl ?_
 refine dq rfl (rd_field F54_3 rfl) rfl ?_
 refine dq rfl (rd_field F48_1 rfl) rfl ?_
 refine dq rfl (rd_ldb C2 rfl (by first | exact .head _) rfl) rfl ?_
 refine dq rfl (rd_field F54_3 rfl) rfl ?_
 refine dq rfl (rd_field F48_2 rfl) rfl ?_
 refine dq rfl (rd_ldb C2 rfl (by first | exact .head _) rfl) rfl ?_
 refine dq rfl (rd_field F54_4 rfl) rfl ?_
 refine dq rfl (rd_field F48_0 rfl) rfl ?_
 refine dq rfl (rd_ldb C2 rfl (by first | exact .head _) rfl) rfl ?_
 refine dq rfl (rd_field F54_4 rfl) rfl ?_
 refine dq rfl (rd_field F48_1 rfl) rfl ?_
 refine dq rfl (rd_ldb C2 rfl (by first | exact .head _) rfl) rfl ?_
 refine dq rfl (rd_field F54_4 rfl) rfl ?_
 refine dq rfl (rd_field F48_2 rfl) rfl ?_
 refine dq rfl (rd_ldb C2 rfl (by first | exact .head _) rfl) rfl ?_
 refine dq rfl (rd_field F54_5 rfl) rfl ?_
 refine dq rfl (rd_ldb C3 rfl (by first | exact .head _) rfl) rfl ?_
 refine dq rfl (rd_field F54_6 rfl) rfl ?_
 refine dq rfl (rd_ldb C4 rfl (by first | exact .head _) rfl) rfl ?_
 refine de rfl rfl (ef_pure rfl rfl K82 rfl (by exact (c82 _))) (fun _ h => h.sb) ?_ d_stop
 refine dx rfl rfl (ef_slice Rt82 rfl (by repeat constructor) rfl rfl) (fun _ _ _ h => h.sb) ?_ d_stop
 rintro b32 hb32
 refine dq rfl (rd_build St84 rfl (by repeat constructor)) rfl ?_
 refine de rfl rfl (ef_stores A84 rfl rfl rfl (by repeat constructor) (by first | exact SetR.all rfl | repeat constructor) rfl) (fun _ h => h.sb) ?_ d_stop
 refine d_end ?_
 refine f_then ?_
 refine c_ret ?_
 refine f_ret rfl (.cell (res_ldsb A84 rfl (by repeat constructor) (by first | exact GetR.all _ | repeat constructor)) .nil) ?_
 exact fun w' hS => ⟨_, rfl, b32, rfl, trivial, St.sub (E' := [_]) hS (by repeat (first | exact .refl _ | apply List.Sublist.cons_cons | apply List.Sublist.cons))⟩

theorem c42 (w : World) (A : Option Addr) (n cap : Nat) (ps : List PL) (hsl : Sl w none' A n 15 (flat PL.enc ps)) (hb : n ≤ 1000000) (hS : St w (fpOf []) [] w) : Calls Tryz.prog 42 [.slice A n cap, .func (.func 43) #[] #[]].toArray w (RtE fun v w' => ∃ x : Option Addr × Nat × List (Option Addr × Nat) × (Nat → Prop), v = (fun x => .slice x.1 n x.2.1) x ∧ (fun _ => True) x ∧ St w (fpOf []) ((fun x => [rowsE x.2.2.2 x.1 n x.2.2.1 (ps.map PL.row)]) x) w') := by
 refine enter Tryz.func42 rfl Tryz.ntmps42 rfl hS ?_
 refine c_seq ?_
 refine c_reg ?_
 refine sq (rd_assign rfl) rfl ?_
 refine s_end ?_
 refine f_then ?_
 refine c_seq ?_
 refine c_seq ?_
 have hlen : ps.length = n := by have := hsl.len; rw [flat_len PL.enc_len] at this; omega
 refine c_nilrow 84 2 ?_
 refine c_ents (fun _ h => h.inNil) ?_
 refine c_reg ?_
 refine sq (rd_move rfl) rfl ?_
 refine sq (rd_len S22 rfl rfl) rfl ?_
 refine sq (rd_move rfl) rfl ?_
 refine s_end ?_
 refine f_then ?_
 refine c_block ?_
 refine c_keep (L' := [(1, _), (4, _), (7, _), (8, _), (9, _)]) (by repeat constructor) ?_
 refine c_front (.row _ _ none _ _ _) (by repeat constructor) ?_
 refine c_for (α := Nat × Option Addr × Nat × List (Option Addr × Nat) × (Nat → Prop)) (fun ⟨k, B, bc, hd, fp⟩ => k ≤ n ∧ (0 < k → plainA B) ∧ hd.length = k) (fun ⟨k, B, bc, hd, fp⟩ => [.row 84 2 B k bc (rowCells hd ((ps.take k).map PL.row)), inE fp hd ((ps.take k).map PL.row)]) [] (fun ⟨k, B, bc, hd, fp⟩ => [(4, .slice B k bc), (9, .int .i64 (k : Int))]) [(1, _), (7, _), (8, _)] (fun ⟨k, B, bc, hd, fp⟩ => n - k) ((0, none, 0, [], fun _ => False)) (⟨Nat.zero_le _, fun h => absurd h (Nat.lt_irrefl _), rfl⟩) (by repeat constructor) (fun _ h => h) ?_
 rintro ⟨k, B, bc, hd, fp⟩ ⟨hk, hB, hhd⟩
 refine c_seq ?_
 refine c_reg ?_
 refine sq (rd_lss rfl rfl) rfl ?_
 refine s_end ?_
 refine f_then ?_
 refine c_seq ?_
 refine c_if rfl (fun h10 => ?_) (fun h10 => ?_)
 ·have hkn : k < n := by omega
  obtain ⟨p, hp⟩ : ∃ p, ps[k]? = some p := ⟨ps[k]'(by omega), by simp⟩
  refine c_skip ?_
  refine f_then ?_
  refine c_seq ?_
  refine c_block ?_
  refine c_seq ?_
  refine c_reg ?_
  refine sq (rd_index S22 rfl rfl hsl.plain (by omega) (by omega)) rfl ?_
  refine sq (rd_ldssl A51 hsl rfl (flat_part PL.enc_len ps _ p hp)) rfl ?_
  refine sx (ef_alloc Z51 rfl) rfl ?_
  rintro b6 hb6
  refine se (ef_stores A51 rfl rfl rfl (by repeat constructor) (by first | exact SetR.all rfl | repeat constructor) rfl) rfl ?_
  refine s_end ?_
  refine f_then ?_
  refine c_reg ?_
  refine sq (rd_move rfl) rfl ?_
  refine sq (rd_move rfl) rfl ?_
  refine sq (rd_ldsb A51 rfl (by repeat constructor) (by first | exact GetR.all _ | repeat constructor)) rfl ?_
  refine sx (ef_call rfl rfl K43 (fun _ e => by cases e; rfl) [] _ (.refl _) _ _ _ (fun w hS => by exact c43 w p hS.own)) rfl ?_
  rintro b16 _
  refine sx (ef_slice Rt80 rfl (by repeat constructor) rfl rfl) rfl ?_
  rintro b17 hb17
  refine s_front (.row _ _ B _ _ _) (by repeat constructor) ?_
  refine sx (ef_append Rt80 rfl rfl rfl rfl (src_blk (by repeat constructor) rfl) rfl (by omega) (by unfold maxLen; omega) rfl) rfl ?_
  rintro ⟨B', bc'⟩ hB'
  refine sq (rd_assign rfl) rfl ?_
  refine s_end ?_
  refine f_blk ?_
  refine f_then ?_
  refine c_reg ?_
  refine sq (rd_add rfl rfl (by first | exact wrap_i64 (by omega) | exact rfl)) rfl ?_
  refine sq (rd_move rfl) rfl ?_
  refine s_end ?_
  have e1 : ((ps.take (k + 1)).map PL.row) = (ps.take k).map PL.row ++ [PL.row p] := by rw [List.take_add_one, hp]; simp
  refine f_front (inE fp _ _) (by repeat constructor) ?_
  refine f_front (.blk b16 _ _) (by repeat constructor) ?_
  refine f_again ((k + 1, B', bc', hd ++ [(some ⟨b16, 0, none⟩, (PL.fields p).length)], fun j => fp j ∨ j = b16)) (⟨by omega, hB', by simp [hhd]⟩) (by show n - (k + 1) < n - k; omega) (by repeat constructor) (fun _ h => by dsimp only; rw [e1, rowCells_append _ _ _ _ (by simp [hhd, hlen]; omega)]; exact ((St.sub (E' := [_, _, _]) h (by repeat (first | exact .refl _ | apply List.Sublist.cons_cons | apply List.Sublist.cons))).inAdd (by rw [PL.fields_len]; decide)).perm (.swap _ _ _))
 ·have hkn : k = n := by omega
  subst hkn
  
  refine c_exit ?_
  refine f_then_x ?_
  refine f_then_x ?_
  refine f_blk_x ?_
  refine f_then ?_
  refine c_seq ?_
  refine c_reg ?_
  refine sq (rd_move rfl) rfl ?_
  refine sq (rd_assign rfl) rfl ?_
  refine s_end ?_
  refine f_then ?_
  refine c_ret ?_
  refine f_ret rfl (.tmp rfl .nil) ?_
  exact fun w' hS => ⟨_, rfl, (B, bc, hd, fun j => fp j ∨ B.map (·.block) = some j), rfl, trivial, by dsimp only at hS; rw [List.take_of_length_le (by omega)] at hS; exact hS.rowsJoin⟩

theorem c44 (w : World) (A : Option Addr) (n cap : Nat) (ps : List SH) (hsl : Sl w none' A n 11 (flat SH.enc ps)) (hb : n ≤ 1000000) (hS : St w (fpOf []) [] w) : Calls Tryz.prog 44 [.slice A n cap, .func (.func 45) #[] #[]].toArray w (RtE fun v w' => ∃ x : Option Addr × Nat × List (Option Addr × Nat) × (Nat → Prop), v = (fun x => .slice x.1 n x.2.1) x ∧ (fun _ => True) x ∧ St w (fpOf []) ((fun x => [rowsE x.2.2.2 x.1 n x.2.2.1 (ps.map SH.row)]) x) w') := by
 refine enter Tryz.func44 rfl Tryz.ntmps44 rfl hS ?_
 refine c_seq ?_
 refine c_reg ?_
 refine sq (rd_assign rfl) rfl ?_
 refine s_end ?_
 refine f_then ?_
 refine c_seq ?_
 refine c_seq ?_
 have hlen : ps.length = n := by have := hsl.len; rw [flat_len SH.enc_len] at this; omega
 refine c_nilrow 84 2 ?_
 refine c_ents (fun _ h => h.inNil) ?_
 refine c_reg ?_
 refine sq (rd_move rfl) rfl ?_
 refine sq (rd_len S23 rfl rfl) rfl ?_
 refine sq (rd_move rfl) rfl ?_
 refine s_end ?_
 refine f_then ?_
 refine c_block ?_
 refine c_keep (L' := [(1, _), (4, _), (7, _), (8, _), (9, _)]) (by repeat constructor) ?_
 refine c_front (.row _ _ none _ _ _) (by repeat constructor) ?_
 refine c_for (α := Nat × Option Addr × Nat × List (Option Addr × Nat) × (Nat → Prop)) (fun ⟨k, B, bc, hd, fp⟩ => k ≤ n ∧ (0 < k → plainA B) ∧ hd.length = k) (fun ⟨k, B, bc, hd, fp⟩ => [.row 84 2 B k bc (rowCells hd ((ps.take k).map SH.row)), inE fp hd ((ps.take k).map SH.row)]) [] (fun ⟨k, B, bc, hd, fp⟩ => [(4, .slice B k bc), (9, .int .i64 (k : Int))]) [(1, _), (7, _), (8, _)] (fun ⟨k, B, bc, hd, fp⟩ => n - k) ((0, none, 0, [], fun _ => False)) (⟨Nat.zero_le _, fun h => absurd h (Nat.lt_irrefl _), rfl⟩) (by repeat constructor) (fun _ h => h) ?_
 rintro ⟨k, B, bc, hd, fp⟩ ⟨hk, hB, hhd⟩
 refine c_seq ?_
 refine c_reg ?_
 refine sq (rd_lss rfl rfl) rfl ?_
 refine s_end ?_
 refine f_then ?_
 refine c_seq ?_
 refine c_if rfl (fun h10 => ?_) (fun h10 => ?_)
 ·have hkn : k < n := by omega
  obtain ⟨p, hp⟩ : ∃ p, ps[k]? = some p := ⟨ps[k]'(by omega), by simp⟩
  refine c_skip ?_
  refine f_then ?_
  refine c_seq ?_
  refine c_block ?_
  refine c_seq ?_
  refine c_reg ?_
  refine sq (rd_index S23 rfl rfl hsl.plain (by omega) (by omega)) rfl ?_
  refine sq (rd_ldssl A54 hsl rfl (flat_part SH.enc_len ps _ p hp)) rfl ?_
  refine sx (ef_alloc Z54 rfl) rfl ?_
  rintro b6 hb6
  refine se (ef_stores A54 rfl rfl rfl (by repeat constructor) (by first | exact SetR.all rfl | repeat constructor) rfl) rfl ?_
  refine s_end ?_
  refine f_then ?_
  refine c_reg ?_
  refine sq (rd_move rfl) rfl ?_
  refine sq (rd_move rfl) rfl ?_
  refine sq (rd_ldsb A54 rfl (by repeat constructor) (by first | exact GetR.all _ | repeat constructor)) rfl ?_
  refine sx (ef_call rfl rfl K45 (fun _ e => by cases e; rfl) [] _ (.refl _) _ _ _ (fun w hS => by exact c45 w p hS.own)) rfl ?_
  rintro b16 _
  refine sx (ef_slice Rt80 rfl (by repeat constructor) rfl rfl) rfl ?_
  rintro b17 hb17
  refine s_front (.row _ _ B _ _ _) (by repeat constructor) ?_
  refine sx (ef_append Rt80 rfl rfl rfl rfl (src_blk (by repeat constructor) rfl) rfl (by omega) (by unfold maxLen; omega) rfl) rfl ?_
  rintro ⟨B', bc'⟩ hB'
  refine sq (rd_assign rfl) rfl ?_
  refine s_end ?_
  refine f_blk ?_
  refine f_then ?_
  refine c_reg ?_
  refine sq (rd_add rfl rfl (by first | exact wrap_i64 (by omega) | exact rfl)) rfl ?_
  refine sq (rd_move rfl) rfl ?_
  refine s_end ?_
  have e1 : ((ps.take (k + 1)).map SH.row) = (ps.take k).map SH.row ++ [SH.row p] := by rw [List.take_add_one, hp]; simp
  refine f_front (inE fp _ _) (by repeat constructor) ?_
  refine f_front (.blk b16 _ _) (by repeat constructor) ?_
  refine f_again ((k + 1, B', bc', hd ++ [(some ⟨b16, 0, none⟩, (SH.fields p).length)], fun j => fp j ∨ j = b16)) (⟨by omega, hB', by simp [hhd]⟩) (by show n - (k + 1) < n - k; omega) (by repeat constructor) (fun _ h => by dsimp only; rw [e1, rowCells_append _ _ _ _ (by simp [hhd, hlen]; omega)]; exact ((St.sub (E' := [_, _, _]) h (by repeat (first | exact .refl _ | apply List.Sublist.cons_cons | apply List.Sublist.cons))).inAdd (by rw [SH.fields_len]; decide)).perm (.swap _ _ _))
 ·have hkn : k = n := by omega
  subst hkn
  
  refine c_exit ?_
  refine f_then_x ?_
  refine f_then_x ?_
  refine f_blk_x ?_
  refine f_then ?_
  refine c_seq ?_
  refine c_reg ?_
  refine sq (rd_move rfl) rfl ?_
  refine sq (rd_assign rfl) rfl ?_
  refine s_end ?_
  refine f_then ?_
  refine c_ret ?_
  refine f_ret rfl (.tmp rfl .nil) ?_
  exact fun w' hS => ⟨_, rfl, (B, bc, hd, fun j => fp j ∨ B.map (·.block) = some j), rfl, trivial, by dsimp only at hS; rw [List.take_of_length_le (by omega)] at hS; exact hS.rowsJoin⟩

theorem c105 (w : World) (A : Option Addr) (m cap : Nat) (a b c : Int) (r : List Int) (hsl : Sl w none' A m 1 (ints (a :: b :: c :: r))) : Pw Tryz.prog w 105 [.slice A m cap] (.agg (vecL a b c).toArray) := by
 refine Pw.enter Tryz.func105 rfl Tryz.ntmps105 rfl ?_
 refine c_seq ?_
 refine c_reg ?_
 refine sx (ef_alloc Z48 rfl) rfl ?_
 rintro b2 hb2
 refine s_end ?_
 refine f_then ?_
 refine c_seq ?_
 have hm : 3 ≤ m := by have := hsl.len; simp [ints] at this; omega
 refine c_regd [] (.q 0 (.q 1 (.q 2 (.q 3 (.q 4 (.q 5 (.q 6 (.q 7 (.q 8 (.q 9 (.alt 10 .done .stop))))))))))) (by kernel_rfl) (by kernel_rfl) (by kernel_rfl) (by kernel_rfl) (fun _ h => h.sb) ?_
 refine dq rfl (rd_move rfl) rfl ?_
 refine dq rfl (rd_index S82 rfl rfl hsl.plain (by omega) (by omega)) rfl ?_
 refine dq rfl (rd_ldsl C2 hsl rfl rfl) rfl ?_
 refine dq rfl (rd_move rfl) rfl ?_
 refine dq rfl (rd_index S82 rfl rfl hsl.plain (by omega) (by omega)) rfl ?_
 refine dq rfl (rd_ldsl C2 hsl rfl rfl) rfl ?_
 refine dq rfl (rd_move rfl) rfl ?_
 refine dq rfl (rd_index S82 rfl rfl hsl.plain (by omega) (by omega)) rfl ?_
 refine dq rfl (rd_ldsl C2 hsl rfl rfl) rfl ?_
 refine dq rfl (rd_build St48 rfl (by repeat constructor)) rfl ?_
 refine de rfl rfl (ef_stores A48 rfl rfl rfl (by first | exact .here) (by first | exact SetR.all rfl | repeat constructor) rfl) (fun _ h => h.sb) ?_ d_stop
 refine d_end ?_
 refine f_then ?_
 refine c_ret ?_
 refine f_ret rfl (.cell (res_ldsb A48 rfl (by first | exact .head _) (by first | exact GetR.all _ | repeat constructor)) .nil) ?_
 exact pu_end rfl

theorem c56 (w : World) (A : Option Addr) (cap : Nat) (id a0 a1 a2 a3 a4 a5 a6 a7 a8 a9 a10 a11 a12 a13 : Int) (hc : 14 ≤ cap) (hsl : Sl w none' A 14 1 (ints [a0, a1, a2, a3, a4, a5, a6, a7, a8, a9, a10, a11, a12, a13])) : Pw Tryz.prog w 56 [.agg #[.int .i64 id, .slice A 14 cap]] (.agg (PL.of (id, [a0, a1, a2, a3, a4, a5, a6, a7, a8, a9, a10, a11, a12, a13])).enc.toArray) := by
 refine Pw.enter Tryz.func56 rfl Tryz.ntmps56 rfl ?_
 refine c_seq ?_
 refine c_reg ?_
 refine sx (ef_box rfl rfl rfl) rfl ?_
 rintro b1 hb1
 refine sx (ef_alloc Z51 rfl) rfl ?_
 rintro b2 hb2
 refine s_end ?_
 refine f_then ?_
 refine c_seq ?_
 refine c_reg ?_
 refine sq (rd_field F84_1 rfl) rfl ?_
 refine sq (rd_ldb C82 rfl (by repeat constructor) rfl) rfl ?_
 refine sq (rd_assign rfl) rfl ?_
 refine s_end ?_
 refine f_then ?_
 refine c_seq ?_
 refine c_regd [.blk b1 _ _] (.q 0 (.q 1 (.q 2 (.q 4 (.q 5 (.q 7 (.q 8 (.q 9 (.q 10 (.q 11 (.q 12 (.q 13 (.q 14 (.q 15 (.q 16 (.q 17 (.q 18 (.q 19 (.q 20 (.q 21 (.q 22 (.q 23 (.q 24 (.q 25 (.q 26 (.q 27 (.q 28 (.q 29 (.q 30 (.q 31 (.q 32 (.alt 3 (.alt 6 (.q 33 (.alt 34 .done .stop)) .stop) .stop)))))))))))))))))))))))))))))))) (by kernel_rfl) (by kernel_rfl) (by kernel_rfl) (by kernel_rfl) (fun _ h => h.sb) ?_
 refine dq rfl (rd_field F84_0 rfl) rfl ?_
 refine dq rfl (rd_ldb C3 rfl (by first | exact .head _) rfl) rfl ?_
 refine dq rfl (rd_move rfl) rfl ?_
 refine dq rfl (rd_move rfl) rfl ?_
 refine dq rfl (rd_slice_lo S82 rfl rfl (by omega) (by omega)) rfl ?_
 refine dq rfl (rd_move rfl) rfl ?_
 refine dq rfl (rd_index S82 rfl rfl hsl.plain (by omega) (by omega)) rfl ?_
 refine dq rfl (rd_ldsl C2 hsl rfl rfl) rfl ?_
 refine dq rfl (rd_neq rfl rfl) rfl ?_
 refine dq rfl (rd_move rfl) rfl ?_
 refine dq rfl (rd_index S82 rfl rfl hsl.plain (by omega) (by omega)) rfl ?_
 refine dq rfl (rd_ldsl C2 hsl rfl rfl) rfl ?_
 refine dq rfl (rd_move rfl) rfl ?_
 refine dq rfl (rd_index S82 rfl rfl hsl.plain (by omega) (by omega)) rfl ?_
 refine dq rfl (rd_ldsl C2 hsl rfl rfl) rfl ?_
 refine dq rfl (rd_move rfl) rfl ?_
 refine dq rfl (rd_index S82 rfl rfl hsl.plain (by omega) (by omega)) rfl ?_
 refine dq rfl (rd_ldsl C2 hsl rfl rfl) rfl ?_
 refine dq rfl (rd_move rfl) rfl ?_
 refine dq rfl (rd_index S82 rfl rfl hsl.plain (by omega) (by omega)) rfl ?_
 refine dq rfl (rd_ldsl C2 hsl rfl rfl) rfl ?_
 refine dq rfl (rd_move rfl) rfl ?_
 refine dq rfl (rd_index S82 rfl rfl hsl.plain (by omega) (by omega)) rfl ?_
 refine dq rfl (rd_ldsl C2 hsl rfl rfl) rfl ?_
 refine dq rfl (rd_builda Ab49 rfl (by repeat constructor)) rfl ?_
 refine dq rfl (rd_move rfl) rfl ?_
 refine dq rfl (rd_index S82 rfl rfl hsl.plain (by omega) (by omega)) rfl ?_
 refine dq rfl (rd_ldsl C2 hsl rfl rfl) rfl ?_
 refine dq rfl (rd_move rfl) rfl ?_
 refine dq rfl (rd_index S82 rfl rfl hsl.plain (by omega) (by omega)) rfl ?_
 refine dq rfl (rd_ldsl C2 hsl rfl rfl) rfl ?_
 refine de rfl rfl (ef_pw rfl rfl K105 rfl (fun w hS => by exact c105 w _ _ _ _ _ _ _ (hsl.hand (Ec := []) hS (by decide)))) (fun _ h => h.sb) ?_ d_stop
 refine de rfl rfl (ef_pw rfl rfl K105 rfl (fun w hS => by exact c105 w _ _ _ _ _ _ _ ((hsl.drop (j := 3) (by decide) hc).hand (Ec := []) hS (by decide)))) (fun _ h => h.sb) ?_ d_stop
 refine dq rfl (rd_build St51 rfl (by repeat constructor)) rfl ?_
 refine de rfl rfl (ef_stores A51 rfl rfl rfl (by repeat constructor) (by first | exact SetR.all rfl | repeat constructor) rfl) (fun _ h => h.sb) ?_ d_stop
 refine d_end ?_
 refine f_then ?_
 refine c_ret ?_
 refine f_ret rfl (.cell (res_ldsb A51 rfl (by repeat constructor) (by first | exact GetR.all _ | repeat constructor)) .nil) ?_
 exact pu_end rfl

theorem c58 (w : World) (A : Option Addr) (cap : Nat) (id a0 a1 a2 a3 a4 a5 a6 a7 a8 a9 : Int) (hc : 10 ≤ cap) (hsl : Sl w none' A 10 1 (ints [a0, a1, a2, a3, a4, a5, a6, a7, a8, a9])) : Pw Tryz.prog w 58 [.agg #[.int .i64 id, .slice A 10 cap]] (.agg (SH.of (id, [a0, a1, a2, a3, a4, a5, a6, a7, a8, a9])).enc.toArray) := by
 refine Pw.enter Tryz.func58 rfl Tryz.ntmps58 rfl ?_
 refine c_seq ?_
 refine c_reg ?_
 refine sx (ef_box rfl rfl rfl) rfl ?_
 rintro b1 hb1
 refine sx (ef_alloc Z54 rfl) rfl ?_
 rintro b2 hb2
 refine s_end ?_
 refine f_then ?_
 refine c_seq ?_
 refine c_reg ?_
 refine sq (rd_field F84_1 rfl) rfl ?_
 refine sq (rd_ldb C82 rfl (by repeat constructor) rfl) rfl ?_
 refine sq (rd_assign rfl) rfl ?_
 refine s_end ?_
 refine f_then ?_
 refine c_seq ?_
 refine c_regd [.blk b1 _ _] (.q 0 (.q 1 (.q 2 (.q 3 (.q 4 (.q 5 (.q 6 (.q 7 (.q 8 (.q 9 (.q 11 (.q 12 (.q 14 (.q 15 (.q 16 (.q 17 (.q 18 (.q 19 (.q 20 (.alt 10 (.alt 13 (.q 21 (.alt 22 .done .stop)) .stop) .stop)))))))))))))))))))) (by kernel_rfl) (by kernel_rfl) (by kernel_rfl) (by kernel_rfl) (fun _ h => h.sb) ?_
 refine dq rfl (rd_field F84_0 rfl) rfl ?_
 refine dq rfl (rd_ldb C3 rfl (by first | exact .head _) rfl) rfl ?_
 refine dq rfl (rd_move rfl) rfl ?_
 refine dq rfl (rd_index S82 rfl rfl hsl.plain (by omega) (by omega)) rfl ?_
 refine dq rfl (rd_ldsl C2 hsl rfl rfl) rfl ?_
 refine dq rfl (rd_move rfl) rfl ?_
 refine dq rfl (rd_index S82 rfl rfl hsl.plain (by omega) (by omega)) rfl ?_
 refine dq rfl (rd_ldsl C2 hsl rfl rfl) rfl ?_
 refine dq rfl (rd_move rfl) rfl ?_
 refine dq rfl (rd_slice_lo S82 rfl rfl (by omega) (by omega)) rfl ?_
 refine dq rfl (rd_move rfl) rfl ?_
 refine dq rfl (rd_slice_lo S82 rfl rfl (by omega) (by omega)) rfl ?_
 refine dq rfl (rd_move rfl) rfl ?_
 refine dq rfl (rd_index S82 rfl rfl hsl.plain (by omega) (by omega)) rfl ?_
 refine dq rfl (rd_ldsl C2 hsl rfl rfl) rfl ?_
 refine dq rfl (rd_move rfl) rfl ?_
 refine dq rfl (rd_index S82 rfl rfl hsl.plain (by omega) (by omega)) rfl ?_
 refine dq rfl (rd_ldsl C2 hsl rfl rfl) rfl ?_
 refine dq rfl (rd_neq rfl rfl) rfl ?_
 refine de rfl rfl (ef_pw rfl rfl K105 rfl (fun w hS => by exact c105 w _ _ _ _ _ _ _ ((hsl.drop (j := 2) (by decide) hc).hand (Ec := []) hS (by decide)))) (fun _ h => h.sb) ?_ d_stop
 refine de rfl rfl (ef_pw rfl rfl K105 rfl (fun w hS => by exact c105 w _ _ _ _ _ _ _ ((hsl.drop (j := 5) (by decide) hc).hand (Ec := []) hS (by decide)))) (fun _ h => h.sb) ?_ d_stop
 refine dq rfl (rd_build St54 rfl (by repeat constructor)) rfl ?_
 refine de rfl rfl (ef_stores A54 rfl rfl rfl (by repeat constructor) (by first | exact SetR.all rfl | repeat constructor) rfl) (fun _ h => h.sb) ?_ d_stop
 refine d_end ?_
 refine f_then ?_
 refine c_ret ?_
 refine f_ret rfl (.cell (res_ldsb A54 rfl (by repeat constructor) (by first | exact GetR.all _ | repeat constructor)) .nil) ?_
 exact pu_end rfl

theorem c86 (w : World) (A : Option Addr) (m cap : Nat) (id : Int) : Pw Tryz.prog w 86 [.agg #[.int .i64 id, .slice A m cap]] (.int .i64 id) := by
 refine Pw.enter Tryz.func86 rfl Tryz.ntmps86 rfl ?_
 refine c_seq ?_
 refine c_reg ?_
 refine sx (ef_box rfl rfl rfl) rfl ?_
 rintro b1 hb1
 refine sq (rd_assign rfl) rfl ?_
 refine s_end ?_
 refine f_then ?_
 refine c_seq ?_
 refine c_reg ?_
 refine sq (rd_field F84_0 rfl) rfl ?_
 refine sq (rd_ldb C3 rfl (by first | exact .head _) rfl) rfl ?_
 refine sq (rd_assign rfl) rfl ?_
 refine s_end ?_
 refine f_then ?_
 refine c_ret ?_
 refine f_ret rfl (.tmp rfl .nil) ?_
 exact pu_end rfl

end Go.Proofs.YtfccnoccfhgcbaaGreatDoor
namespace Go.Proofs.YtfccnoccfhgcbaaGreatDoor
open Go Go.RowKit
theorem K56 : callTy Tryz.prog 56 := by unfold callTy; kernel_rfl
theorem S80 : sliceTy Tryz.prog 80 84 2 := ⟨by kernel_rfl, by kernel_rfl⟩
theorem Rt22 : rowTy Tryz.prog 22 51 15 120 [.int .i64 0, .int .i64 0, .int .i64 0, .int .i64 0, .int .i64 0, .int .i64 0, .int .i64 0, .bool false, .int .i64 0, .int .i64 0, .int .i64 0, .int .i64 0, .int .i64 0, .int .i64 0, .int .i64 0] := ⟨by kernel_rfl, by kernel_rfl, by kernel_rfl, by unfold zeroTy; kernel_rfl, by decide, rfl⟩
theorem K58 : callTy Tryz.prog 58 := by unfold callTy; kernel_rfl
theorem Rt23 : rowTy Tryz.prog 23 54 11 88 [.int .i64 0, .int .i64 0, .int .i64 0, .int .i64 0, .int .i64 0, .int .i64 0, .int .i64 0, .int .i64 0, .int .i64 0, .int .i64 0, .bool false] := ⟨by kernel_rfl, by kernel_rfl, by kernel_rfl, by unfold zeroTy; kernel_rfl, by decide, rfl⟩
theorem K86 : callTy Tryz.prog 86 := by unfold callTy; kernel_rfl
theorem Rt128 : rowTy Tryz.prog 128 3 1 8 [.int .i64 0] := ⟨by kernel_rfl, by kernel_rfl, by kernel_rfl, by unfold zeroTy; kernel_rfl, by decide, rfl⟩
theorem K80 : callTy Tryz.prog 80 := by unfold callTy; kernel_rfl
theorem K135 : callTy Tryz.prog 135 := by unfold callTy; kernel_rfl
theorem K81 : callTy Tryz.prog 81 := by unfold callTy; kernel_rfl
theorem F78_2 : fieldTy Tryz.prog 78 2 2 := fieldTy.mk' Tryz.underlying78 rfl (by kernel_rfl) rfl
theorem A78 : aggTy Tryz.prog 78 3 := ⟨by kernel_rfl, by kernel_rfl⟩
theorem F25_0 : fieldTy Tryz.prog 25 0 0 := fieldTy.mk' Tryz.underlying25 rfl (by kernel_rfl) rfl
theorem C22 : cellTy Tryz.prog 22 := ⟨by kernel_rfl, by kernel_rfl⟩
theorem K42 : callTy Tryz.prog 42 := by unfold callTy; kernel_rfl
theorem K41 : callTy Tryz.prog 41 := by unfold callTy; kernel_rfl
theorem F25_1 : fieldTy Tryz.prog 25 1 1 := fieldTy.mk' Tryz.underlying25 rfl (by kernel_rfl) rfl
theorem C23 : cellTy Tryz.prog 23 := ⟨by kernel_rfl, by kernel_rfl⟩
theorem K44 : callTy Tryz.prog 44 := by unfold callTy; kernel_rfl
theorem c54 (w : World) (A : Option Addr) (n cap : Nat) (hd : List (Option Addr × Nat)) (rs : List RW) (hrs : RowsAt w none' A n hd rs) (hb : n ≤ 1000000) (hN : ∀ r ∈ rs, r.2.length = 14) (hS : St w (fpOf []) [] w) : Calls Tryz.prog 54 [.slice A n cap, .func (.func 56) #[] #[]].toArray w (RtE fun v w' => ∃ x : Option Addr × Nat, v = (fun x => .slice x.1 n x.2) x ∧ (fun _ => True) x ∧ St w (fpOf []) ((fun x => [.row 51 15 x.1 n x.2 (flat PL.enc (rs.map PL.of))]) x) w') := by
 refine enter Tryz.func54 rfl Tryz.ntmps54 rfl hS ?_
 refine c_seq ?_
 refine c_reg ?_
 refine sq (rd_assign rfl) rfl ?_
 refine s_end ?_
 refine f_then ?_
 refine c_seq ?_
 refine c_seq ?_
 have hlen : rs.length = n := by have := hrs.sl.len; rw [rowCells_len _ _ hrs.ins.1] at this; omega
 refine c_nilrow 51 15 ?_
 refine c_reg ?_
 refine sq (rd_move rfl) rfl ?_
 refine sq (rd_len S80 rfl rfl) rfl ?_
 refine sq (rd_move rfl) rfl ?_
 refine s_end ?_
 refine f_then ?_
 refine c_block ?_
 refine c_keep (L' := [(1, _), (4, _), (7, _), (8, _), (9, _)]) (by repeat constructor) ?_
 refine c_for (α := Nat × Option Addr × Nat) (fun ⟨k, B, bc⟩ => k ≤ n ∧ (0 < k → plainA B)) (fun ⟨k, B, bc⟩ => [.row 51 15 B k bc (flat PL.enc ((rs.take k).map PL.of))]) [] (fun ⟨k, B, bc⟩ => [(4, .slice B k bc), (9, .int .i64 (k : Int))]) [(1, _), (7, _), (8, _)] (fun ⟨k, B, bc⟩ => n - k) ((0, none, 0)) (⟨Nat.zero_le _, fun h => absurd h (Nat.lt_irrefl _)⟩) (by repeat constructor) (fun _ h => h) ?_
 rintro ⟨k, B, bc⟩ ⟨hk, hB⟩
 refine c_seq ?_
 refine c_reg ?_
 refine sq (rd_lss rfl rfl) rfl ?_
 refine s_end ?_
 refine f_then ?_
 refine c_seq ?_
 refine c_if rfl (fun h10 => ?_) (fun h10 => ?_)
 ·have hkn : k < n := by omega
  obtain ⟨r, hr⟩ : ∃ r, rs[k]? = some r := ⟨rs[k]'(by omega), by simp⟩
  obtain ⟨x, hx, hpt, hsl, hxc⟩ := hrs.get hr
  obtain ⟨a0, a1, a2, a3, a4, a5, a6, a7, a8, a9, a10, a11, a12, a13, hfs⟩ := list14 (hN r (List.mem_of_getElem? hr))
  obtain ⟨id, fs⟩ := r
  dsimp only at hfs hpt hsl hxc
  subst hfs
  refine c_skip ?_
  refine f_then ?_
  refine c_seq ?_
  refine c_block ?_
  refine c_seq ?_
  refine c_reg ?_
  refine sq (rd_index S80 rfl rfl hrs.sl.plain (by omega) (by omega)) rfl ?_
  refine sq (rd_ldssl A84 hrs.sl rfl hpt) rfl ?_
  refine sx (ef_alloc Z84 rfl) rfl ?_
  rintro b6 hb6
  refine se (ef_stores A84 rfl rfl rfl (by repeat constructor) (by first | exact SetR.all rfl | repeat constructor) rfl) rfl ?_
  refine s_end ?_
  refine f_then ?_
  refine c_reg ?_
  refine sq (rd_move rfl) rfl ?_
  refine sq (rd_move rfl) rfl ?_
  refine sq (rd_ldsb A84 rfl (by repeat constructor) (by first | exact GetR.all _ | repeat constructor)) rfl ?_
  refine se (ef_pw rfl rfl K56 rfl (fun w hS => by exact c56 w _ _ _ _ _ _ _ _ _ _ _ _ _ _ _ _ _ hxc (hsl.hand (Ec := []) hS (by decide)))) rfl ?_
  refine sx (ef_slice Rt22 rfl (by repeat constructor) rfl rfl) rfl ?_
  rintro b17 hb17
  refine s_front (.row _ _ B _ _ _) (by repeat constructor) ?_
  refine sx (ef_append Rt22 rfl rfl rfl rfl (src_blk (by repeat constructor) rfl) rfl (by omega) (by unfold maxLen; omega) rfl) rfl ?_
  rintro ⟨B', bc'⟩ hB'
  refine sq (rd_assign rfl) rfl ?_
  refine s_end ?_
  refine f_blk ?_
  refine f_then ?_
  refine c_reg ?_
  refine sq (rd_add rfl rfl (by first | exact wrap_i64 (by omega) | exact rfl)) rfl ?_
  refine sq (rd_move rfl) rfl ?_
  refine s_end ?_
  have e1 : flat PL.enc ((rs.take (k + 1)).map PL.of) = flat PL.enc ((rs.take k).map PL.of) ++ (PL.of (id, [a0, a1, a2, a3, a4, a5, a6, a7, a8, a9, a10, a11, a12, a13])).enc := by rw [List.take_add_one, hr]; simp [flat, ints]
  refine f_again ((k + 1, B', bc')) (⟨by omega, hB'⟩) (by show n - (k + 1) < n - k; omega) (by repeat constructor) (fun _ h => by dsimp only; rw [e1]; exact St.sub (E' := [_]) h (by repeat (first | exact .refl _ | apply List.Sublist.cons_cons | apply List.Sublist.cons)))
 ·have hkn : k = n := by omega
  subst hkn
  
  refine c_exit ?_
  refine f_then_x ?_
  refine f_then_x ?_
  refine f_blk_x ?_
  refine f_then ?_
  refine c_seq ?_
  refine c_reg ?_
  refine sq (rd_move rfl) rfl ?_
  refine sq (rd_assign rfl) rfl ?_
  refine s_end ?_
  refine f_then ?_
  refine c_ret ?_
  refine f_ret rfl (.tmp rfl .nil) ?_
  exact fun w' hS => ⟨_, rfl, (B, bc), rfl, trivial, by dsimp only at hS; rw [List.take_of_length_le (by omega)] at hS; exact hS⟩

theorem c57 (w : World) (A : Option Addr) (n cap : Nat) (hd : List (Option Addr × Nat)) (rs : List RW) (hrs : RowsAt w none' A n hd rs) (hb : n ≤ 1000000) (hN : ∀ r ∈ rs, r.2.length = 10) (hS : St w (fpOf []) [] w) : Calls Tryz.prog 57 [.slice A n cap, .func (.func 58) #[] #[]].toArray w (RtE fun v w' => ∃ x : Option Addr × Nat, v = (fun x => .slice x.1 n x.2) x ∧ (fun _ => True) x ∧ St w (fpOf []) ((fun x => [.row 54 11 x.1 n x.2 (flat SH.enc (rs.map SH.of))]) x) w') := by
 refine enter Tryz.func57 rfl Tryz.ntmps57 rfl hS ?_
 refine c_seq ?_
 refine c_reg ?_
 refine sq (rd_assign rfl) rfl ?_
 refine s_end ?_
 refine f_then ?_
 refine c_seq ?_
 refine c_seq ?_
 have hlen : rs.length = n := by have := hrs.sl.len; rw [rowCells_len _ _ hrs.ins.1] at this; omega
 refine c_nilrow 54 11 ?_
 refine c_reg ?_
 refine sq (rd_move rfl) rfl ?_
 refine sq (rd_len S80 rfl rfl) rfl ?_
 refine sq (rd_move rfl) rfl ?_
 refine s_end ?_
 refine f_then ?_
 refine c_block ?_
 refine c_keep (L' := [(1, _), (4, _), (7, _), (8, _), (9, _)]) (by repeat constructor) ?_
 refine c_for (α := Nat × Option Addr × Nat) (fun ⟨k, B, bc⟩ => k ≤ n ∧ (0 < k → plainA B)) (fun ⟨k, B, bc⟩ => [.row 54 11 B k bc (flat SH.enc ((rs.take k).map SH.of))]) [] (fun ⟨k, B, bc⟩ => [(4, .slice B k bc), (9, .int .i64 (k : Int))]) [(1, _), (7, _), (8, _)] (fun ⟨k, B, bc⟩ => n - k) ((0, none, 0)) (⟨Nat.zero_le _, fun h => absurd h (Nat.lt_irrefl _)⟩) (by repeat constructor) (fun _ h => h) ?_
 rintro ⟨k, B, bc⟩ ⟨hk, hB⟩
 refine c_seq ?_
 refine c_reg ?_
 refine sq (rd_lss rfl rfl) rfl ?_
 refine s_end ?_
 refine f_then ?_
 refine c_seq ?_
 refine c_if rfl (fun h10 => ?_) (fun h10 => ?_)
 ·have hkn : k < n := by omega
  obtain ⟨r, hr⟩ : ∃ r, rs[k]? = some r := ⟨rs[k]'(by omega), by simp⟩
  obtain ⟨x, hx, hpt, hsl, hxc⟩ := hrs.get hr
  obtain ⟨a0, a1, a2, a3, a4, a5, a6, a7, a8, a9, hfs⟩ := list10 (hN r (List.mem_of_getElem? hr))
  obtain ⟨id, fs⟩ := r
  dsimp only at hfs hpt hsl hxc
  subst hfs
  refine c_skip ?_
  refine f_then ?_
  refine c_seq ?_
  refine c_block ?_
  refine c_seq ?_
  refine c_reg ?_
  refine sq (rd_index S80 rfl rfl hrs.sl.plain (by omega) (by omega)) rfl ?_
  refine sq (rd_ldssl A84 hrs.sl rfl hpt) rfl ?_
  refine sx (ef_alloc Z84 rfl) rfl ?_
  rintro b6 hb6
  refine se (ef_stores A84 rfl rfl rfl (by repeat constructor) (by first | exact SetR.all rfl | repeat constructor) rfl) rfl ?_
  refine s_end ?_
  refine f_then ?_
  refine c_reg ?_
  refine sq (rd_move rfl) rfl ?_
  refine sq (rd_move rfl) rfl ?_
  refine sq (rd_ldsb A84 rfl (by repeat constructor) (by first | exact GetR.all _ | repeat constructor)) rfl ?_
  refine se (ef_pw rfl rfl K58 rfl (fun w hS => by exact c58 w _ _ _ _ _ _ _ _ _ _ _ _ _ hxc (hsl.hand (Ec := []) hS (by decide)))) rfl ?_
  refine sx (ef_slice Rt23 rfl (by repeat constructor) rfl rfl) rfl ?_
  rintro b17 hb17
  refine s_front (.row _ _ B _ _ _) (by repeat constructor) ?_
  refine sx (ef_append Rt23 rfl rfl rfl rfl (src_blk (by repeat constructor) rfl) rfl (by omega) (by unfold maxLen; omega) rfl) rfl ?_
  rintro ⟨B', bc'⟩ hB'
  refine sq (rd_assign rfl) rfl ?_
  refine s_end ?_
  refine f_blk ?_
  refine f_then ?_
  refine c_reg ?_
  refine sq (rd_add rfl rfl (by first | exact wrap_i64 (by omega) | exact rfl)) rfl ?_
  refine sq (rd_move rfl) rfl ?_
  refine s_end ?_
  have e1 : flat SH.enc ((rs.take (k + 1)).map SH.of) = flat SH.enc ((rs.take k).map SH.of) ++ (SH.of (id, [a0, a1, a2, a3, a4, a5, a6, a7, a8, a9])).enc := by rw [List.take_add_one, hr]; simp [flat, ints]
  refine f_again ((k + 1, B', bc')) (⟨by omega, hB'⟩) (by show n - (k + 1) < n - k; omega) (by repeat constructor) (fun _ h => by dsimp only; rw [e1]; exact St.sub (E' := [_]) h (by repeat (first | exact .refl _ | apply List.Sublist.cons_cons | apply List.Sublist.cons)))
 ·have hkn : k = n := by omega
  subst hkn
  
  refine c_exit ?_
  refine f_then_x ?_
  refine f_then_x ?_
  refine f_blk_x ?_
  refine f_then ?_
  refine c_seq ?_
  refine c_reg ?_
  refine sq (rd_move rfl) rfl ?_
  refine sq (rd_assign rfl) rfl ?_
  refine s_end ?_
  refine f_then ?_
  refine c_ret ?_
  refine f_ret rfl (.tmp rfl .nil) ?_
  exact fun w' hS => ⟨_, rfl, (B, bc), rfl, trivial, by dsimp only at hS; rw [List.take_of_length_le (by omega)] at hS; exact hS⟩

theorem c84 (w : World) (A : Option Addr) (n cap : Nat) (hd : List (Option Addr × Nat)) (rs : List RW) (hrs : RowsAt w none' A n hd rs) (hb : n ≤ 1000000)  (hS : St w (fpOf []) [] w) : Calls Tryz.prog 84 [.slice A n cap, .func (.func 86) #[] #[]].toArray w (RtE fun v w' => ∃ x : Option Addr × Nat, v = (fun x => .slice x.1 n x.2) x ∧ (fun _ => True) x ∧ St w (fpOf []) ((fun x => [.row 3 1 x.1 n x.2 (ints (rs.map (·.1)))]) x) w') := by
 refine enter Tryz.func84 rfl Tryz.ntmps84 rfl hS ?_
 refine c_seq ?_
 refine c_reg ?_
 refine sq (rd_assign rfl) rfl ?_
 refine s_end ?_
 refine f_then ?_
 refine c_seq ?_
 refine c_seq ?_
 have hlen : rs.length = n := by have := hrs.sl.len; rw [rowCells_len _ _ hrs.ins.1] at this; omega
 refine c_nilrow 3 1 ?_
 refine c_reg ?_
 refine sq (rd_move rfl) rfl ?_
 refine sq (rd_len S80 rfl rfl) rfl ?_
 refine sq (rd_move rfl) rfl ?_
 refine s_end ?_
 refine f_then ?_
 refine c_block ?_
 refine c_keep (L' := [(1, _), (4, _), (7, _), (8, _), (9, _)]) (by repeat constructor) ?_
 refine c_for (α := Nat × Option Addr × Nat) (fun ⟨k, B, bc⟩ => k ≤ n ∧ (0 < k → plainA B)) (fun ⟨k, B, bc⟩ => [.row 3 1 B k bc (ints ((rs.take k).map (·.1)))]) [] (fun ⟨k, B, bc⟩ => [(4, .slice B k bc), (9, .int .i64 (k : Int))]) [(1, _), (7, _), (8, _)] (fun ⟨k, B, bc⟩ => n - k) ((0, none, 0)) (⟨Nat.zero_le _, fun h => absurd h (Nat.lt_irrefl _)⟩) (by repeat constructor) (fun _ h => h) ?_
 rintro ⟨k, B, bc⟩ ⟨hk, hB⟩
 refine c_seq ?_
 refine c_reg ?_
 refine sq (rd_lss rfl rfl) rfl ?_
 refine s_end ?_
 refine f_then ?_
 refine c_seq ?_
 refine c_if rfl (fun h10 => ?_) (fun h10 => ?_)
 ·have hkn : k < n := by omega
  obtain ⟨r, hr⟩ : ∃ r, rs[k]? = some r := ⟨rs[k]'(by omega), by simp⟩
  obtain ⟨x, hx, hpt, hsl, hxc⟩ := hrs.get hr
  
  refine c_skip ?_
  refine f_then ?_
  refine c_seq ?_
  refine c_block ?_
  refine c_seq ?_
  refine c_reg ?_
  refine sq (rd_index S80 rfl rfl hrs.sl.plain (by omega) (by omega)) rfl ?_
  refine sq (rd_ldssl A84 hrs.sl rfl hpt) rfl ?_
  refine sx (ef_alloc Z84 rfl) rfl ?_
  rintro b6 hb6
  refine se (ef_stores A84 rfl rfl rfl (by repeat constructor) (by first | exact SetR.all rfl | repeat constructor) rfl) rfl ?_
  refine s_end ?_
  refine f_then ?_
  refine c_reg ?_
  refine sq (rd_move rfl) rfl ?_
  refine sq (rd_move rfl) rfl ?_
  refine sq (rd_ldsb A84 rfl (by repeat constructor) (by first | exact GetR.all _ | repeat constructor)) rfl ?_
  refine se (ef_pw rfl rfl K86 rfl (fun w hS => by exact c86 w _ _ _ _)) rfl ?_
  refine sx (ef_slice Rt128 rfl (by repeat constructor) rfl rfl) rfl ?_
  rintro b17 hb17
  refine s_front (.row _ _ B _ _ _) (by repeat constructor) ?_
  refine sx (ef_append Rt128 rfl rfl rfl rfl (src_blk (by repeat constructor) rfl) rfl (by omega) (by unfold maxLen; omega) rfl) rfl ?_
  rintro ⟨B', bc'⟩ hB'
  refine sq (rd_assign rfl) rfl ?_
  refine s_end ?_
  refine f_blk ?_
  refine f_then ?_
  refine c_reg ?_
  refine sq (rd_add rfl rfl (by first | exact wrap_i64 (by omega) | exact rfl)) rfl ?_
  refine sq (rd_move rfl) rfl ?_
  refine s_end ?_
  have e1 : ints ((rs.take (k + 1)).map (·.1)) = ints ((rs.take k).map (·.1)) ++ [.int .i64 r.1] := by rw [List.take_add_one, hr]; simp [flat, ints]
  refine f_again ((k + 1, B', bc')) (⟨by omega, hB'⟩) (by show n - (k + 1) < n - k; omega) (by repeat constructor) (fun _ h => by dsimp only; rw [e1]; exact St.sub (E' := [_]) h (by repeat (first | exact .refl _ | apply List.Sublist.cons_cons | apply List.Sublist.cons)))
 ·have hkn : k = n := by omega
  subst hkn
  
  refine c_exit ?_
  refine f_then_x ?_
  refine f_then_x ?_
  refine f_blk_x ?_
  refine f_then ?_
  refine c_seq ?_
  refine c_reg ?_
  refine sq (rd_move rfl) rfl ?_
  refine sq (rd_assign rfl) rfl ?_
  refine s_end ?_
  refine f_then ?_
  refine c_ret ?_
  refine f_ret rfl (.tmp rfl .nil) ?_
  exact fun w' hS => ⟨_, rfl, (B, bc), rfl, trivial, by dsimp only at hS; rw [List.take_of_length_le (by omega)] at hS; exact hS⟩

theorem c80 (n : Int) : Pu Tryz.prog 80 [.int .i64 n] (.bool (wideB n)) := by
 refine Pu.enter Tryz.func80 rfl Tryz.ntmps80 rfl (fun w => ?_)
 refine c_seq ?_
 refine c_reg ?_
 refine sq (rd_assign rfl) rfl ?_
 refine s_end ?_
 refine f_then ?_
 refine c_seq ?_
 refine c_reg ?_
 refine sq (rd_move rfl) rfl ?_
 refine sq (rd_lss rfl rfl) rfl ?_
 refine sq (rd_move rfl) rfl ?_
 refine s_split (d := 5) rfl (fun g5 => ?_) (fun g5 => ?_)
 ·try have g5p := of_decide_eq_true g5
  refine sg0 (fun a hA => wanted_no hA rfl rfl rfl g5 rfl) rfl ?_
  refine sg0 (fun a hA => wanted_no hA rfl rfl rfl g5 rfl) rfl ?_
  refine sq (rd_pick_tt rfl g5 rfl) rfl ?_
  refine sq (rd_assign rfl) rfl ?_
  refine s_end ?_
  refine f_then ?_
  refine c_ret ?_
  refine f_ret rfl (.tmp rfl .nil) ?_
  refine pu_end ?_
  simp only [resVal_one, wideB]
  congr 1
  simp only [*, Bool.true_or, Bool.false_or, decide_true]
  first | done | simp
 ·try have g5p := of_decide_eq_false g5
  refine sg1 (fun a hA => wanted_yes hA rfl rfl rfl g5) (rd_move rfl) rfl ?_
  refine sg1 (fun a hA => wanted_yes hA rfl rfl rfl g5) (rd_gtr rfl rfl) rfl ?_
  refine sq (rd_pick_ff rfl g5 rfl) rfl ?_
  refine sq (rd_assign rfl) rfl ?_
  refine s_end ?_
  refine f_then ?_
  refine c_ret ?_
  refine f_ret rfl (.tmp rfl .nil) ?_
  refine pu_end ?_
  simp only [resVal_one, wideB]
  congr 1
  simp only [*, Bool.true_or, Bool.false_or, decide_true]
  first | done | simp

theorem find_hit {l : List Int} {p : Int → Bool} : ∀ {k : Nat} {x : Int}, (∀ (j : Nat) (y : Int), j < k → l[j]? = some y → p y = false) → l[k]? = some x → p x = true → l.findIdx? p = some k := by
 induction l with
 | nil => intro k x _ h; simp at h
 | cons y l ih =>
  intro k x h1 h2 h3
  cases k with
  | zero =>
   have : y = x := by simpa using h2
   subst this
   simp [List.findIdx?_cons, h3]
  | succ k =>
   have h0 := h1 0 y (by omega) rfl
   have := ih (k := k) (x := x) (fun j z hj hz => h1 (j + 1) z (by omega) (by simpa using hz)) (by simpa using h2) h3
   simp [List.findIdx?_cons, h0, this]
theorem find_miss {l : List Int} {p : Int → Bool} (h : ∀ (j : Nat) (y : Int), j < l.length → l[j]? = some y → p y = false) : l.findIdx? p = none := by
 rw [List.findIdx?_eq_none_iff]
 intro x hx
 obtain ⟨j, hj⟩ := List.getElem?_of_mem hx
 exact h j x (List.getElem?_eq_some_iff.1 hj).1 hj
theorem find_any {l : List Int} {p : Int → Bool} : decide (0 ≤ ix (l.findIdx? p)) = l.any p := by
 cases h : l.findIdx? p with
 | none =>
  rw [List.findIdx?_eq_none_iff] at h
  have : l.any p = false := by rw [List.any_eq_false]; intro x hx; simp [h x hx]
  rw [this]; rfl
 | some k =>
  have h2 := List.findIdx?_eq_some_iff_getElem.1 h
  obtain ⟨hk, hp, _⟩ := h2
  have : l.any p = true := List.any_eq_true.2 ⟨_, List.getElem_mem hk, hp⟩
  rw [this]
  exact decide_eq_true (by show (0 : Int) ≤ (k : Int); omega)

theorem c135 (w : World) (A : Option Addr) (n cap : Nat) (l : List Int) (hsl : Sl w none' A n 1 (ints l)) : Pw Tryz.prog w 135 [.slice A n cap, .func (.func 80) #[] #[]] (.int .i64 (ix (l.findIdx? wideB))) := by
 refine Pw.enter Tryz.func135 rfl Tryz.ntmps135 rfl ?_
 refine c_seq ?_
 refine c_reg ?_
 refine sq (rd_assign rfl) rfl ?_
 refine s_end ?_
 refine f_then ?_
 refine c_seq ?_
 refine c_seq ?_
 have hlen : l.length = n := by have := hsl.len; rw [ints_len] at this; omega
 have hmax := hsl.max
 refine c_reg ?_
 refine sq (rd_move rfl) rfl ?_
 refine sq (rd_len S82 rfl rfl) rfl ?_
 refine sq (rd_move rfl) rfl ?_
 refine s_end ?_
 refine f_then ?_
 refine c_block ?_
 refine c_keep (L' := [(0, _), (1, _), (4, _), (7, _), (8, _)]) (by repeat constructor) ?_
 refine c_for (α := Nat) (fun k => k ≤ n ∧ ∀ (j : Nat) (y : Int), j < k → l[j]? = some y → wideB y = false) (fun k => []) [] (fun k => [(8, .int .i64 (k : Int))]) [(0, _), (1, _), (4, _), (7, _)] (fun k => n - k) (0) (⟨Nat.zero_le _, fun _ _ h => absurd h (Nat.not_lt_zero _)⟩) (by repeat constructor) (fun _ h => h) ?_
 rintro k ⟨hk, hno⟩
 refine c_seq ?_
 refine c_reg ?_
 refine sq (rd_lss rfl rfl) rfl ?_
 refine s_end ?_
 refine f_then ?_
 refine c_seq ?_
 refine c_if rfl (fun h9 => ?_) (fun h9 => ?_)
 ·have hkn : k < n := by omega
  obtain ⟨x, hx⟩ : ∃ x, l[k]? = some x := ⟨l[k]'(by omega), by simp⟩
  refine c_skip ?_
  refine f_then ?_
  refine c_seq ?_
  refine c_block ?_
  refine c_seq ?_
  refine c_reg ?_
  refine sq (rd_move rfl) rfl ?_
  refine sq (rd_assign rfl) rfl ?_
  refine s_end ?_
  refine f_then ?_
  refine c_seq ?_
  refine c_reg ?_
  refine sq (rd_move rfl) rfl ?_
  refine sq (rd_move rfl) rfl ?_
  refine sq (rd_move rfl) rfl ?_
  refine sq (rd_index S82 rfl rfl hsl.plain (by omega) (by omega)) rfl ?_
  refine sq (rd_ldsl C2 hsl rfl (by rw [Int.toNat_natCast, Nat.mul_one]; exact ints_get hx)) rfl ?_
  refine se (ef_pure rfl rfl K80 rfl (by exact c80 _)) rfl ?_
  refine s_end ?_
  refine f_then ?_
  refine c_cond rfl (fun h16 => ?_) (fun h16 => ?_)
  ·refine c_seq ?_
   refine c_reg ?_
   refine sq (rd_move rfl) rfl ?_
   refine sq (rd_assign rfl) rfl ?_
   refine s_end ?_
   refine f_then ?_
   refine c_ret ?_
   refine f_blk_r ?_
   refine f_then_r ?_
   refine f_then_r ?_
   refine f_blk_r ?_
   refine f_then_r ?_
   refine f_ret rfl (.tmp rfl .nil) ?_
   refine pu_end (int_eq ?_)
   rw [find_hit hno hx h16]
   rfl
  ·refine c_skip ?_
   refine f_blk ?_
   refine f_then ?_
   refine c_reg ?_
   refine sq (rd_add rfl rfl (by first | exact wrap_i64 (by omega) | exact rfl)) rfl ?_
   refine sq (rd_move rfl) rfl ?_
   refine s_end ?_
   refine f_again (k + 1) (⟨by omega, fun j y hj hy => by rcases Nat.lt_succ_iff_lt_or_eq.1 hj with h | h; exact hno j y h hy; subst h; rw [hx] at hy; injection hy with hy; subst hy; simpa using h16⟩) (by omega) (by repeat constructor) (fun _ h => h.sb)
 ·have hkn : k = n := by omega
  subst hkn
  refine c_exit ?_
  refine f_then_x ?_
  refine f_then_x ?_
  refine f_blk_x ?_
  refine f_then ?_
  refine c_seq ?_
  refine c_reg ?_
  refine sq (rd_assign rfl) rfl ?_
  refine s_end ?_
  refine f_then ?_
  refine c_ret ?_
  refine f_ret rfl (.tmp rfl .nil) ?_
  refine pu_end (int_eq ?_)
  rw [find_miss (fun j y hj => hno j y (by omega))]
  rfl

theorem c81 (w : World) (A : Option Addr) (n cap : Nat) (l : List Int) (hsl : Sl w none' A n 1 (ints l)) : Pw Tryz.prog w 81 [.slice A n cap, .func (.func 80) #[] #[]] (.bool (l.any wideB)) := by
 refine Pw.enter Tryz.func81 rfl Tryz.ntmps81 rfl ?_
 refine c_seq ?_
 refine c_reg ?_
 refine sq (rd_assign rfl) rfl ?_
 refine s_end ?_
 refine f_then ?_
 refine c_seq ?_
 refine c_reg ?_
 refine sq (rd_move rfl) rfl ?_
 refine sq (rd_move rfl) rfl ?_
 refine se (ef_pw rfl rfl K135 rfl (fun w hS => by exact c135 w A n cap l (hsl.hand (Ec := []) hS (by decide)))) rfl ?_
 refine sq (rd_geq rfl rfl) rfl ?_
 refine sq (rd_assign rfl) rfl ?_
 refine s_end ?_
 refine f_then ?_
 refine c_ret ?_
 refine f_ret rfl (.tmp rfl .nil) ?_
 refine pu_end ?_
 simp only [resVal_one]
 rw [← find_any]

theorem c41 (w : World) (nf fl most : Int) (A : Option Addr) (n cap : Nat) (hd : List (Option Addr × Nat)) (rs : List RW) (hrs : RowsAt w none' A n hd rs) : Pw Tryz.prog w 41 [.agg #[.int .i64 nf, .int .i64 fl, .int .i64 most], .slice A n cap] (.bool (rightB most rs)) := by
 refine Pw.enter Tryz.func41 rfl Tryz.ntmps41 rfl ?_
 refine c_seq ?_
 refine c_reg ?_
 refine sx (ef_box rfl rfl rfl) rfl ?_
 rintro b2 hb2
 refine sq (rd_assign rfl) rfl ?_
 refine s_end ?_
 refine f_then ?_
 refine c_seq ?_
 have hlen : rs.length = n := by have := hrs.sl.len; rw [rowCells_len _ _ hrs.ins.1] at this; omega
 have hmax := hrs.sl.max
 refine c_reg ?_
 refine sq (rd_assign rfl) rfl ?_
 refine s_end ?_
 refine f_then ?_
 refine c_seq ?_
 refine c_seq ?_
 refine c_reg ?_
 refine sq (rd_move rfl) rfl ?_
 refine sq (rd_len S80 rfl rfl) rfl ?_
 refine sq (rd_move rfl) rfl ?_
 refine s_end ?_
 refine f_then ?_
 refine c_block ?_
 refine c_keep (L' := [(1, _), (2, _), (4, _), (5, _), (9, _), (10, _), (11, _)]) (by repeat constructor) ?_
 refine c_for (α := Nat × Int) (fun ⟨k, last⟩ => k ≤ n ∧ goodRows 0 rs = goodRows last (rs.drop k)) (fun ⟨k, last⟩ => []) [.blk b2 _ _] (fun ⟨k, last⟩ => [(5, .int .i64 last), (11, .int .i64 (k : Int))]) [(1, _), (2, _), (4, _), (9, _), (10, _)] (fun ⟨k, last⟩ => n - k) ((0, 0)) (⟨Nat.zero_le _, rfl⟩) (by repeat constructor) (fun _ h => h) ?_
 rintro ⟨k, last⟩ ⟨hk, hg⟩
 refine c_seq ?_
 refine c_reg ?_
 refine sq (rd_lss rfl rfl) rfl ?_
 refine s_end ?_
 refine f_then ?_
 refine c_seq ?_
 refine c_if rfl (fun h12 => ?_) (fun h12 => ?_)
 ·have hkn : k < n := by omega
  obtain ⟨r, hr⟩ : ∃ r, rs[k]? = some r := ⟨rs[k]'(by omega), by simp⟩
  obtain ⟨x, hx, hpt, hsl, hxc⟩ := hrs.get hr
  refine c_skip ?_
  refine f_then ?_
  refine c_seq ?_
  refine c_block ?_
  refine c_seq ?_
  refine c_reg ?_
  refine sq (rd_index S80 rfl rfl hrs.sl.plain (by omega) (by omega)) rfl ?_
  refine sq (rd_ldssl A84 hrs.sl rfl hpt) rfl ?_
  refine sx (ef_alloc Z84 rfl) rfl ?_
  rintro b7 hb7
  refine se (ef_stores A84 rfl rfl rfl (by repeat constructor) (by first | exact SetR.all rfl | repeat constructor) rfl) rfl ?_
  refine s_end ?_
  refine f_then ?_
  refine c_seq ?_
  refine c_reg ?_
  refine sq (rd_assign rfl) rfl ?_
  refine s_end ?_
  refine f_then ?_
  refine c_seq ?_
  refine c_seq ?_
  refine c_reg ?_
  refine sq (rd_field F84_0 rfl) rfl ?_
  refine sq (rd_ldb C3 rfl (by repeat constructor) rfl) rfl ?_
  refine sq (rd_move rfl) rfl ?_
  refine sq (rd_leq rfl rfl) rfl ?_
  refine sq (rd_move rfl) rfl ?_
  refine s_split (d := 19) rfl (fun g19 => ?_) (fun g19 => ?_)
  ·try have g19p := of_decide_eq_true g19
   refine sg0 (fun a hA => wanted_no hA rfl rfl rfl g19 rfl) rfl ?_
   refine sg0 (fun a hA => wanted_no hA rfl rfl rfl g19 rfl) rfl ?_
   refine sg0 (fun a hA => wanted_no hA rfl rfl rfl g19 rfl) rfl ?_
   refine sq (rd_pick_tt rfl g19 rfl) rfl ?_
   refine sq (rd_move rfl) rfl ?_
   refine sg0 (fun a hA => wanted_no hA rfl rfl rfl (Eq.refl _) rfl) rfl ?_
   refine sg0 (fun a hA => wanted_no hA rfl rfl rfl (Eq.refl _) rfl) rfl ?_
   refine sg0 (fun a hA => wanted_no hA rfl rfl rfl (Eq.refl _) rfl) rfl ?_
   refine sg0 (fun a hA => wanted_no hA rfl rfl rfl (Eq.refl _) rfl) rfl ?_
   refine sq (rd_pick_t rfl rfl) rfl ?_
   refine s_end ?_
   refine f_then ?_
   refine c_lit_t rfl ?_
   refine c_seq ?_
   refine c_reg ?_
   refine sq (rd_assign rfl) rfl ?_
   refine s_end ?_
   refine f_then ?_
   refine c_ret ?_
   refine f_then_r ?_
   refine f_blk_r ?_
   refine f_then_r ?_
   refine f_then_r ?_
   refine f_blk_r ?_
   refine f_then_r ?_
   refine f_ret rfl (.tmp rfl .nil) ?_
   first | (refine pu_end ?_; simp only [resVal_one]; congr 1; unfold rightB; rw [hg, List.drop_of_length_le (by omega), goodRows, Bool.true_and, hlen]; done) | skip
   all_goals (refine pu_end ?_; simp only [resVal_one]; congr 1; unfold rightB; rw [hg, List.drop_eq_getElem_cons (by omega : k < rs.length), goodRows, show rs[k]'(by omega) = r from (List.getElem?_eq_some_iff.1 hr).2]; simp only [*, Bool.true_or, Bool.or_true, Bool.false_or, Bool.not_true, Bool.false_and, decide_true])
  ·try have g19p := of_decide_eq_false g19
   refine sg1 (fun a hA => wanted_yes hA rfl rfl rfl g19) (rd_field F84_0 rfl) rfl ?_
   refine sg1 (fun a hA => wanted_yes hA rfl rfl rfl g19) (rd_ldb C3 rfl (by repeat constructor) rfl) rfl ?_
   refine sg1 (fun a hA => wanted_yes hA rfl rfl rfl g19) (rd_gtr rfl rfl) rfl ?_
   refine sq (rd_pick_ff rfl g19 rfl) rfl ?_
   refine sq (rd_move rfl) rfl ?_
   refine s_split (d := 24) rfl (fun g24 => ?_) (fun g24 => ?_)
   ·try have g24p := of_decide_eq_true g24
    refine sg0 (fun a hA => wanted_no hA rfl rfl rfl g24 rfl) rfl ?_
    refine sg0 (fun a hA => wanted_no hA rfl rfl rfl g24 rfl) rfl ?_
    refine sg0 (fun a hA => wanted_no hA rfl rfl rfl g24 rfl) rfl ?_
    refine sg0 (fun a hA => wanted_no hA rfl rfl rfl g24 rfl) rfl ?_
    refine sq (rd_pick_tt rfl g24 rfl) rfl ?_
    refine s_end ?_
    refine f_then ?_
    refine c_lit_t rfl ?_
    refine c_seq ?_
    refine c_reg ?_
    refine sq (rd_assign rfl) rfl ?_
    refine s_end ?_
    refine f_then ?_
    refine c_ret ?_
    refine f_then_r ?_
    refine f_blk_r ?_
    refine f_then_r ?_
    refine f_then_r ?_
    refine f_blk_r ?_
    refine f_then_r ?_
    refine f_ret rfl (.tmp rfl .nil) ?_
    first | (refine pu_end ?_; simp only [resVal_one]; congr 1; unfold rightB; rw [hg, List.drop_of_length_le (by omega), goodRows, Bool.true_and, hlen]; done) | skip
    all_goals (refine pu_end ?_; simp only [resVal_one]; congr 1; unfold rightB; rw [hg, List.drop_eq_getElem_cons (by omega : k < rs.length), goodRows, show rs[k]'(by omega) = r from (List.getElem?_eq_some_iff.1 hr).2]; simp only [*, Bool.true_or, Bool.or_true, Bool.false_or, Bool.not_true, Bool.false_and, decide_true])
   ·try have g24p := of_decide_eq_false g24
    refine sg1 (fun a hA => wanted_yes hA rfl rfl rfl g24) (rd_field F84_1 rfl) rfl ?_
    refine sg1 (fun a hA => wanted_yes hA rfl rfl rfl g24) (rd_ldb C82 rfl (by repeat constructor) rfl) rfl ?_
    refine sg1 (fun a hA => wanted_yes hA rfl rfl rfl g24) (rd_move rfl) rfl ?_
    refine seg (fun a hA => wanted_yes hA rfl rfl rfl g24) (ef_pw rfl rfl K81 rfl (fun w hS => by exact c81 w _ _ _ _ (hsl.hand (Ec := []) hS (by decide)))) ?_
    refine sq (rd_pick_ff rfl g24 rfl) rfl ?_
    refine s_end ?_
    refine f_then ?_
    refine c_cond rfl (fun h29 => ?_) (fun h29 => ?_)
    ·refine c_seq ?_
     refine c_reg ?_
     refine sq (rd_assign rfl) rfl ?_
     refine s_end ?_
     refine f_then ?_
     refine c_ret ?_
     refine f_then_r ?_
     refine f_blk_r ?_
     refine f_then_r ?_
     refine f_then_r ?_
     refine f_blk_r ?_
     refine f_then_r ?_
     refine f_ret rfl (.tmp rfl .nil) ?_
     first | (refine pu_end ?_; simp only [resVal_one]; congr 1; unfold rightB; rw [hg, List.drop_of_length_le (by omega), goodRows, Bool.true_and, hlen]; done) | skip
     all_goals (refine pu_end ?_; simp only [resVal_one]; congr 1; unfold rightB; rw [hg, List.drop_eq_getElem_cons (by omega : k < rs.length), goodRows, show rs[k]'(by omega) = r from (List.getElem?_eq_some_iff.1 hr).2]; simp only [*, Bool.true_or, Bool.or_true, Bool.false_or, Bool.not_true, Bool.false_and, decide_true])
    ·refine c_skip ?_
     refine f_then ?_
     refine c_reg ?_
     refine sq (rd_field F84_0 rfl) rfl ?_
     refine sq (rd_ldb C3 rfl (by repeat constructor) rfl) rfl ?_
     refine sq (rd_assign rfl) rfl ?_
     refine s_end ?_
     refine f_blk ?_
     refine f_then ?_
     refine c_reg ?_
     refine sq (rd_add rfl rfl (by first | exact wrap_i64 (by omega) | exact rfl)) rfl ?_
     refine sq (rd_move rfl) rfl ?_
     refine s_end ?_
     have hgood : goodRows 0 rs = goodRows r.1 (rs.drop (k + 1)) := by
      rw [hg, List.drop_eq_getElem_cons (by omega : k < rs.length), goodRows]
      have e : rs[k]'(by omega) = r := (List.getElem?_eq_some_iff.1 hr).2
      rw [e]
      simp only [g19, g24, h29, Bool.false_or, Bool.or_self, Bool.not_false, Bool.true_and]
     refine f_front (.blk b2 _ _) (by repeat constructor) ?_
     refine f_again ((k + 1, r.1)) (⟨by omega, hgood⟩) (by show n - (k + 1) < n - k; omega) (by repeat constructor) (fun _ h => h.sb)
 ·have hkn : k = n := by omega
  subst hkn
  refine c_exit ?_
  refine f_then_x ?_
  refine f_then_x ?_
  refine f_blk_x ?_
  refine f_then ?_
  refine c_seq ?_
  refine c_reg ?_
  refine sq (rd_move rfl) rfl ?_
  refine sq (rd_len S80 rfl rfl) rfl ?_
  refine sq (rd_field F78_2 rfl) rfl ?_
  refine sq (rd_ldb C3 rfl (by first | exact .head _) rfl) rfl ?_
  refine sq (rd_leq rfl rfl) rfl ?_
  refine sq (rd_assign rfl) rfl ?_
  refine s_end ?_
  refine f_then ?_
  refine c_ret ?_
  refine f_ret rfl (.tmp rfl .nil) ?_
  first | (refine pu_end ?_; simp only [resVal_one]; congr 1; unfold rightB; rw [hg, List.drop_of_length_le (by omega), goodRows, Bool.true_and, hlen]; done) | skip
  all_goals (refine pu_end ?_; simp only [resVal_one]; congr 1; unfold rightB; rw [hg, List.drop_eq_getElem_cons (by omega : k < rs.length), goodRows, show rs[k]'(by omega) = r from (List.getElem?_eq_some_iff.1 hr).2]; simp only [*, Bool.true_or, Bool.or_true, Bool.false_or, Bool.not_true, Bool.false_and, decide_true])

theorem c20 (w : World) (A B : Option Addr) (n m c d : Nat) (ps : List PL) (ss : List SH) (hG : Gl w none') (h1 : Sl w none' A n 15 (flat PL.enc ps)) (h2 : Sl w none' B m 11 (flat SH.enc ss)) (hn1 : n ≤ 1000000) (hn2 : m ≤ 1000000) : Pw Tryz.prog w 20 [.agg #[.slice A n c, .slice B m d]] (.bool (rightS ps ss)) := by
 refine Pw.enter Tryz.func20 rfl Tryz.ntmps20 rfl ?_
 refine c_seq ?_
 refine c_reg ?_
 refine sx (ef_box rfl rfl rfl) rfl ?_
 rintro b1 hb1
 refine sq (rd_assign rfl) rfl ?_
 refine s_end ?_
 refine f_then ?_
 refine c_seq ?_
 refine c_regd [.blk b1 _ _] (.q 0 (.q 1 (.q 2 (.alt 3 (.alt 4 (.q 5 (.q 6 (.q 7 (.q 8 (.alt 9 (.alt 10 (.q 11 (.q 12 .done)) .stop) .stop))))) .stop) .stop)))) (by kernel_rfl) (by kernel_rfl) (by kernel_rfl) (by kernel_rfl) (fun _ h => h.sb) ?_
 refine dq rfl (rd_ldsbase A78 rfl rfl hG.pl hG.no0) rfl ?_
 refine dq rfl (rd_field F25_0 rfl) rfl ?_
 refine dq rfl (rd_ldb C22 rfl (by first | exact .head _) rfl) rfl ?_
 refine dx rfl rfl (ef_call rfl rfl K42 (fun _ e => by cases e; rfl) [] _ (.refl _) _ _ _ (fun w hS => by exact c42 w _ _ _ ps (h1.hand (Ec := []) hS (by decide)) hn1 hS.own)) (fun _ _ _ h => h.sb) ?_ d_stop
 rintro ⟨A_fp1, c_fp1, hd_fp1, fp1⟩ _
 refine de rfl rfl (ef_pw rfl rfl K41 rfl (fun w hS => by exact c41 w _ _ _ _ _ _ _ _ (RowsAt.of hS (by repeat constructor) none' (fun b _ => none'_no b)))) (fun _ h => h.sb) ?_ d_stop
 refine dq rfl (rd_move rfl) rfl ?_
 refine d_split (d := 8) rfl (fun g8 => ?_) (fun g8 => ?_)
 ·try have g8p := of_decide_eq_true g8
  refine dq1 rfl (fun a hA => wanted_yes hA rfl rfl rfl g8) (rd_ldsbase A78 rfl rfl hG.sh hG.no1) rfl ?_
  refine dq1 rfl (fun a hA => wanted_yes hA rfl rfl rfl g8) (rd_field F25_1 rfl) rfl ?_
  refine dq1 rfl (fun a hA => wanted_yes hA rfl rfl rfl g8) (rd_ldb C23 rfl (by first | exact .head _) rfl) rfl ?_
  refine dxg rfl (fun a hA => wanted_yes hA rfl rfl rfl g8) (ef_call rfl rfl K44 (fun _ e => by cases e; rfl) [] _ (.refl _) _ _ _ (fun w hS => by exact c44 w _ _ _ ss (h2.hand (Ec := []) hS (by decide)) hn2 hS.own)) (fun _ _ _ h => h.sb) ?_ d_stop
  rintro ⟨A_fp2, c_fp2, hd_fp2, fp2⟩ _
  refine deg rfl (fun a hA => wanted_yes hA rfl rfl rfl g8) (ef_pw rfl rfl K41 rfl (fun w hS => by exact c41 w _ _ _ _ _ _ _ _ (RowsAt.of hS (by repeat constructor) none' (fun b _ => none'_no b)))) (fun _ h => h.sb) ?_ d_stop
  refine dq rfl (rd_pick_tt rfl g8 rfl) rfl ?_
  refine dq rfl (rd_assign rfl) rfl ?_
  refine d_end ?_
  refine f_then ?_
  refine c_ret ?_
  refine f_ret rfl (.tmp rfl .nil) ?_
  refine pu_end ?_
  simp only [resVal_one]
  congr 1
  unfold rightS
  simp only [*, Bool.true_and, Bool.false_and]
 ·try have g8p := of_decide_eq_false g8
  refine dq0 rfl (fun a hA => wanted_no hA rfl rfl rfl g8 rfl) rfl ?_
  refine dq0 rfl (fun a hA => wanted_no hA rfl rfl rfl g8 rfl) rfl ?_
  refine dq0 rfl (fun a hA => wanted_no hA rfl rfl rfl g8 rfl) rfl ?_
  refine de0 rfl (fun a hA => wanted_no hA rfl rfl rfl g8 rfl) rfl (fun _ h => h.sb) ?_ d_stop
  refine de0 rfl (fun a hA => wanted_no hA rfl rfl rfl g8 rfl) rfl (fun _ h => h.sb) ?_ d_stop
  refine dq rfl (rd_pick_ff rfl g8 rfl) rfl ?_
  refine dq rfl (rd_assign rfl) rfl ?_
  refine d_end ?_
  refine f_then ?_
  refine c_ret ?_
  refine f_ret rfl (.tmp rfl .nil) ?_
  refine pu_end ?_
  simp only [resVal_one]
  congr 1
  unfold rightS
  simp only [*, Bool.true_and, Bool.false_and]

end Go.Proofs.YtfccnoccfhgcbaaGreatDoor
namespace Go.Proofs.YtfccnoccfhgcbaaGreatDoor
open Go Go.RowKit

section
variable {P : Program} {S : World → Prop} {n : Nat} {L : Slots} {dst : Option Nat} {ty : Nat} {pos : String} {af : Array Edge} {g : Option (Nat × Bool)} {x y : Operand} {t t' : TypeId} {xs ys : List Value} {d off sz : Nat} {u v : Value} {r s : Bool} {f : Field} {fs : List Field}
/-- At depth 'd' and deeper the two are equal, or not. -/
def EqR (P : Program) (d : Nat) (t : TypeId) (u v : Value) (r : Bool) : Prop := ∀ k w, (Op.equalIn (d + k + 1) t u v).run P w = .ok r w
def EqF (P : Program) (d : Nat) (xs ys : List Value) (fs : List Field) (r : Bool) : Prop := ∀ k w, (Op.eqFields (d + k) xs.toArray ys.toArray fs).run P w = .ok r w
theorem eqr_int {k : IntKind} {a b : Int} (ht : P.underlying t = some (.int k)) : EqR P d t (.int k a) (.int k b) (decide (a = b)) := fun j w => by
 have e : (a == b) = decide (a = b) := by rw [Bool.eq_iff_iff]; simp
 rw [run_equalIn_int w (d + j) t k k a b ht, e]
theorem eqr_bool {a b : Bool} (ht : P.underlying t = some .bool) : EqR P d t (.bool a) (.bool b) (decide (a = b)) := fun j w => by
 have e : (a == b) = decide (a = b) := by cases a <;> cases b <;> rfl
 rw [run_equalIn_bool' w (d + j) t a b ht, e]
theorem EqR.deeper {d' : Nat} (h : EqR P d t u v r) (hd : d ≤ d') : EqR P d' t u v r := fun k w => by
 have := h (d' - d + k) w
 rwa [show d + (d' - d + k) + 1 = d' + k + 1 from by omega] at this
theorem part_cell (ht : cellTy P t) (h : xs[off]? = some v) (w : World) : (part t xs.toArray off).run P w = .ok v w := by
 simp [part, Sem.run_bind, ht.agg w, h]
theorem part_agg {us : List Value} (ht : aggTy P t sz) (h : (xs.drop off).take sz = us) (w : World) : (part t xs.toArray off).run P w = .ok (.agg us.toArray) w := by
 subst h
 simp [part, Sem.run_bind, ht.agg w, size_run ht.2 w, List.extract_toArray, List.extract_eq_take_drop]
theorem eqf_nil : EqF P d xs ys [] true := fun k w => by simp [Op.eqFields]
theorem eqf_cons (hn : (f.name == "_") = false) (ha : ∀ w, (part f.type xs.toArray f.offset).run P w = .ok u w) (hb : ∀ w, (part f.type ys.toArray f.offset).run P w = .ok v w) (he : EqR P d f.type u v r) (hr : EqF P (d + 1) xs ys fs s) : EqF P (d + 1) xs ys (f :: fs) (r && s) := fun k w => by
 have hn' : f.name ≠ "_" := by simpa using hn
 have he' := he k w
 rw [Op.eqFields]
 simp only [if_pos hn', Sem.run_bind, ha, hb, Result.andThen_ok, show d + 1 + k = d + k + 1 from by omega, he']
 cases r
 ·simp
 ·have := hr k w
  rw [show d + 1 + k = d + k + 1 from by omega] at this
  simpa using this
theorem eqr_struct {fs : Array Field} (hu : P.underlying t = some (.struct fs)) (hp : P.stoodInHeld t = false) (h : EqF P d xs ys fs.toList r) : EqR P d t (.agg xs.toArray) (.agg ys.toArray) r := fun k w => by
 have hf : P.fieldsOf t = fs := by simp [Program.fieldsOf, hu]
 rw [run_equalIn_struct w (d + k) t xs.toArray ys.toArray (by rw [hf]; exact hu) hp, hf]
 exact h k w
/-- An array of two of one cell. -/
theorem eqr_arr2 {e : Nat} {a b a' b' : Value} {s : Bool} (hu : P.underlying t = some (.array 2 e)) (he : cellTy P e) (h1 : EqR P d e a a' r) (h2 : EqR P d e b b' s) : EqR P (d + 1) t (.agg #[a, b]) (.agg #[a', b']) (r && s) := fun k w => by
 have hsz := size_run he.2 (P := P)
 have k1 := h1 k
 have k2 := h2 k
 have p1 : ∀ w, (part e #[a, b] 0).run P w = .ok a w := part_cell (xs := [a, b]) he rfl
 have p2 : ∀ w, (part e #[a, b] 1).run P w = .ok b w := part_cell (xs := [a, b]) he rfl
 have p3 : ∀ w, (part e #[a', b'] 0).run P w = .ok a' w := part_cell (xs := [a', b']) he rfl
 have p4 : ∀ w, (part e #[a', b'] 1).run P w = .ok b' w := part_cell (xs := [a', b']) he rfl
 rw [show d + 1 + k + 1 = (d + k + 1) + 1 from by omega]
 generalize d + k + 1 = m at *
 have hu' := fun w => run_underlying hu w
 rw [Op.equalIn]
 cases r <;> cases s <;> simp [hu', hsz, Std.Legacy.Range.forIn_eq_forIn_range', Std.Legacy.Range.size, List.range', p1, p2, p3, p4, k1, k2]
theorem run_equal_agg (h : EqR P 5 t u v r) (w : World) : (Op.equalIn 10000 t u v).run P w = .ok r w := h 9994 w
theorem rd_eqs (hg : P.eqGuardType P.depth t = false) (hx : opv L x = some (.agg xs.toArray)) (hy : opv L y = some (.agg ys.toArray)) (h : EqR P 5 t (.agg xs.toArray) (.agg ys.toArray) r) : Rd P S n L ⟨dst, .binOp .eql t x y t', ty, pos, af, g⟩ (.bool r) :=
 rd_bin hx hy fun w => by
  simp only [Sem.run_bind, run_eqGuard_agg w .eql t x y _ _ hg, Result.andThen_ok, run_eql_struct w t, run_equal_agg h w]
theorem rd_nes (hg : P.eqGuardType P.depth t = false) (hx : opv L x = some (.agg xs.toArray)) (hy : opv L y = some (.agg ys.toArray)) (h : EqR P 5 t (.agg xs.toArray) (.agg ys.toArray) r) : Rd P S n L ⟨dst, .binOp .neq t x y t', ty, pos, af, g⟩ (.bool (!r)) :=
 rd_bin hx hy fun w => by
  simp only [Sem.run_bind, run_eqGuard_agg w .neq t x y _ _ hg, Result.andThen_ok, run_neq_struct w t, run_equal_agg h w]
end
end Go.Proofs.YtfccnoccfhgcbaaGreatDoor
namespace Go.Proofs.YtfccnoccfhgcbaaGreatDoor
open Go Go.RowKit
theorem I3 : Tryz.prog.underlying 3 = some (.int .i64) := by kernel_rfl
theorem A49 : aggTy Tryz.prog 49 2 := ⟨by kernel_rfl, by kernel_rfl⟩
theorem Eg51 : Tryz.prog.eqGuardType Tryz.prog.depth 51 = false := by kernel_rfl
theorem Eg54 : Tryz.prog.eqGuardType Tryz.prog.depth 54 = false := by kernel_rfl
theorem Eq51 (x0 y0 : Int) (x1 y1 : Int) (x2 y2 : Int) (x3 y3 : Int) (x4 y4 : Int) (x5 y5 : Int) (x6 y6 : Int) (x7 y7 : Bool) (x8 y8 : Int) (x9 y9 : Int) (x10 y10 : Int) (x11 y11 : Int) (x12 y12 : Int) (x13 y13 : Int) (x14 y14 : Int) : EqR Tryz.prog 5 51 (.agg [.int .i64 x0, .int .i64 x1, .int .i64 x2, .int .i64 x3, .int .i64 x4, .int .i64 x5, .int .i64 x6, .bool x7, .int .i64 x8, .int .i64 x9, .int .i64 x10, .int .i64 x11, .int .i64 x12, .int .i64 x13, .int .i64 x14].toArray) (.agg [.int .i64 y0, .int .i64 y1, .int .i64 y2, .int .i64 y3, .int .i64 y4, .int .i64 y5, .int .i64 y6, .bool y7, .int .i64 y8, .int .i64 y9, .int .i64 y10, .int .i64 y11, .int .i64 y12, .int .i64 y13, .int .i64 y14].toArray) ((decide (x0 = y0) && ((decide (x1 = y1) && (decide (x2 = y2) && (decide (x3 = y3) && true))) && ((decide (x4 = y4) && (decide (x5 = y5) && (decide (x6 = y6) && true))) && (decide (x7 = y7) && (decide (x8 = y8) && (decide (x9 = y9) && (decide (x10 = y10) && ((decide (x11 = y11) && decide (x12 = y12)) && (decide (x13 = y13) && (decide (x14 = y14) && true))))))))))) := by
 refine EqR.deeper (d := 2) ?_ (by decide)
 refine eqr_struct (d := 2) Tryz.underlying51 (by kernel_rfl) ?_
 refine eqf_cons (u := .int .i64 x0) (v := .int .i64 y0) (by kernel_rfl) (part_cell C3 (by rfl)) (part_cell C3 (by rfl)) (eqr_int I3) ?_
 refine eqf_cons (u := .agg [.int .i64 x1, .int .i64 x2, .int .i64 x3].toArray) (v := .agg [.int .i64 y1, .int .i64 y2, .int .i64 y3].toArray) (by kernel_rfl) (part_agg A48 (by rfl)) (part_agg A48 (by rfl)) ?_ ?_
 ·skip
  refine eqr_struct (d := 1) Tryz.underlying48 (by kernel_rfl) ?_
  refine eqf_cons (u := .int .i64 x1) (v := .int .i64 y1) (by kernel_rfl) (part_cell C2 (by rfl)) (part_cell C2 (by rfl)) (eqr_int I2) ?_
  refine eqf_cons (u := .int .i64 x2) (v := .int .i64 y2) (by kernel_rfl) (part_cell C2 (by rfl)) (part_cell C2 (by rfl)) (eqr_int I2) ?_
  refine eqf_cons (u := .int .i64 x3) (v := .int .i64 y3) (by kernel_rfl) (part_cell C2 (by rfl)) (part_cell C2 (by rfl)) (eqr_int I2) ?_
  exact eqf_nil
 refine eqf_cons (u := .agg [.int .i64 x4, .int .i64 x5, .int .i64 x6].toArray) (v := .agg [.int .i64 y4, .int .i64 y5, .int .i64 y6].toArray) (by kernel_rfl) (part_agg A48 (by rfl)) (part_agg A48 (by rfl)) ?_ ?_
 ·skip
  refine eqr_struct (d := 1) Tryz.underlying48 (by kernel_rfl) ?_
  refine eqf_cons (u := .int .i64 x4) (v := .int .i64 y4) (by kernel_rfl) (part_cell C2 (by rfl)) (part_cell C2 (by rfl)) (eqr_int I2) ?_
  refine eqf_cons (u := .int .i64 x5) (v := .int .i64 y5) (by kernel_rfl) (part_cell C2 (by rfl)) (part_cell C2 (by rfl)) (eqr_int I2) ?_
  refine eqf_cons (u := .int .i64 x6) (v := .int .i64 y6) (by kernel_rfl) (part_cell C2 (by rfl)) (part_cell C2 (by rfl)) (eqr_int I2) ?_
  exact eqf_nil
 refine eqf_cons (u := .bool x7) (v := .bool y7) (by kernel_rfl) (part_cell C4 (by rfl)) (part_cell C4 (by rfl)) (eqr_bool B4) ?_
 refine eqf_cons (u := .int .i64 x8) (v := .int .i64 y8) (by kernel_rfl) (part_cell C3 (by rfl)) (part_cell C3 (by rfl)) (eqr_int I3) ?_
 refine eqf_cons (u := .int .i64 x9) (v := .int .i64 y9) (by kernel_rfl) (part_cell C3 (by rfl)) (part_cell C3 (by rfl)) (eqr_int I3) ?_
 refine eqf_cons (u := .int .i64 x10) (v := .int .i64 y10) (by kernel_rfl) (part_cell C3 (by rfl)) (part_cell C3 (by rfl)) (eqr_int I3) ?_
 refine eqf_cons (u := .agg [.int .i64 x11, .int .i64 x12].toArray) (v := .agg [.int .i64 y11, .int .i64 y12].toArray) (by kernel_rfl) (part_agg A49 (by rfl)) (part_agg A49 (by rfl)) ?_ ?_
 ·skip
  exact eqr_arr2 (d := 0) Tryz.underlying49 C3 (eqr_int I3) (eqr_int I3)
 refine eqf_cons (u := .int .i64 x13) (v := .int .i64 y13) (by kernel_rfl) (part_cell C3 (by rfl)) (part_cell C3 (by rfl)) (eqr_int I3) ?_
 refine eqf_cons (u := .int .i64 x14) (v := .int .i64 y14) (by kernel_rfl) (part_cell C3 (by rfl)) (part_cell C3 (by rfl)) (eqr_int I3) ?_
 exact eqf_nil

theorem Eq54 (x0 y0 : Int) (x1 y1 : Int) (x2 y2 : Int) (x3 y3 : Int) (x4 y4 : Int) (x5 y5 : Int) (x6 y6 : Int) (x7 y7 : Int) (x8 y8 : Int) (x9 y9 : Int) (x10 y10 : Bool) : EqR Tryz.prog 5 54 (.agg [.int .i64 x0, .int .i64 x1, .int .i64 x2, .int .i64 x3, .int .i64 x4, .int .i64 x5, .int .i64 x6, .int .i64 x7, .int .i64 x8, .int .i64 x9, .bool x10].toArray) (.agg [.int .i64 y0, .int .i64 y1, .int .i64 y2, .int .i64 y3, .int .i64 y4, .int .i64 y5, .int .i64 y6, .int .i64 y7, .int .i64 y8, .int .i64 y9, .bool y10].toArray) ((decide (x0 = y0) && (decide (x1 = y1) && (decide (x2 = y2) && ((decide (x3 = y3) && (decide (x4 = y4) && (decide (x5 = y5) && true))) && ((decide (x6 = y6) && (decide (x7 = y7) && (decide (x8 = y8) && true))) && (decide (x9 = y9) && (decide (x10 = y10) && true)))))))) := by
 refine EqR.deeper (d := 2) ?_ (by decide)
 refine eqr_struct (d := 2) Tryz.underlying54 (by kernel_rfl) ?_
 refine eqf_cons (u := .int .i64 x0) (v := .int .i64 y0) (by kernel_rfl) (part_cell C3 (by rfl)) (part_cell C3 (by rfl)) (eqr_int I3) ?_
 refine eqf_cons (u := .int .i64 x1) (v := .int .i64 y1) (by kernel_rfl) (part_cell C3 (by rfl)) (part_cell C3 (by rfl)) (eqr_int I3) ?_
 refine eqf_cons (u := .int .i64 x2) (v := .int .i64 y2) (by kernel_rfl) (part_cell C3 (by rfl)) (part_cell C3 (by rfl)) (eqr_int I3) ?_
 refine eqf_cons (u := .agg [.int .i64 x3, .int .i64 x4, .int .i64 x5].toArray) (v := .agg [.int .i64 y3, .int .i64 y4, .int .i64 y5].toArray) (by kernel_rfl) (part_agg A48 (by rfl)) (part_agg A48 (by rfl)) ?_ ?_
 ·skip
  refine eqr_struct (d := 1) Tryz.underlying48 (by kernel_rfl) ?_
  refine eqf_cons (u := .int .i64 x3) (v := .int .i64 y3) (by kernel_rfl) (part_cell C2 (by rfl)) (part_cell C2 (by rfl)) (eqr_int I2) ?_
  refine eqf_cons (u := .int .i64 x4) (v := .int .i64 y4) (by kernel_rfl) (part_cell C2 (by rfl)) (part_cell C2 (by rfl)) (eqr_int I2) ?_
  refine eqf_cons (u := .int .i64 x5) (v := .int .i64 y5) (by kernel_rfl) (part_cell C2 (by rfl)) (part_cell C2 (by rfl)) (eqr_int I2) ?_
  exact eqf_nil
 refine eqf_cons (u := .agg [.int .i64 x6, .int .i64 x7, .int .i64 x8].toArray) (v := .agg [.int .i64 y6, .int .i64 y7, .int .i64 y8].toArray) (by kernel_rfl) (part_agg A48 (by rfl)) (part_agg A48 (by rfl)) ?_ ?_
 ·skip
  refine eqr_struct (d := 1) Tryz.underlying48 (by kernel_rfl) ?_
  refine eqf_cons (u := .int .i64 x6) (v := .int .i64 y6) (by kernel_rfl) (part_cell C2 (by rfl)) (part_cell C2 (by rfl)) (eqr_int I2) ?_
  refine eqf_cons (u := .int .i64 x7) (v := .int .i64 y7) (by kernel_rfl) (part_cell C2 (by rfl)) (part_cell C2 (by rfl)) (eqr_int I2) ?_
  refine eqf_cons (u := .int .i64 x8) (v := .int .i64 y8) (by kernel_rfl) (part_cell C2 (by rfl)) (part_cell C2 (by rfl)) (eqr_int I2) ?_
  exact eqf_nil
 refine eqf_cons (u := .int .i64 x9) (v := .int .i64 y9) (by kernel_rfl) (part_cell C3 (by rfl)) (part_cell C3 (by rfl)) (eqr_int I3) ?_
 refine eqf_cons (u := .bool x10) (v := .bool y10) (by kernel_rfl) (part_cell C4 (by rfl)) (part_cell C4 (by rfl)) (eqr_bool B4) ?_
 exact eqf_nil

theorem eqPL (p q : PL) : EqR Tryz.prog 5 51 (.agg p.enc.toArray) (.agg q.enc.toArray) (decide (p = q)) := by
 have h := Eq51 p.id q.id p.px q.px p.py q.py p.pz q.pz p.vx q.vx p.vy q.vy p.vz q.vz p.gr q.gr p.he q.he p.ar q.ar p.sc q.sc p.a0 q.a0 p.a1 q.a1 p.wa q.wa p.de q.de
 rw [show decide (p = q) = _ from ?_]
 ·exact h
 ·cases p; cases q
  rw [Bool.eq_iff_iff]
  simp only [Bool.and_eq_true, decide_eq_true_eq, PL.mk.injEq, and_true, and_assoc]
theorem eqSH (p q : SH) : EqR Tryz.prog 5 54 (.agg p.enc.toArray) (.agg q.enc.toArray) (decide (p = q)) := by
 have h := Eq54 p.id q.id p.ow q.ow p.ki q.ki p.px q.px p.py q.py p.pz q.pz p.vx q.vx p.vy q.vy p.vz q.vz p.fu q.fu p.re q.re
 rw [show decide (p = q) = _ from ?_]
 ·exact h
 ·cases p; cases q
  rw [Bool.eq_iff_iff]
  simp only [Bool.and_eq_true, decide_eq_true_eq, SH.mk.injEq, and_true, and_assoc]

theorem take_step {α : Type} {l r : List α} {k : Nat} {x : α} (h : l.take k = r.take k) (h1 : l[k]? = some x) (h2 : r[k]? = some x) : l.take (k + 1) = r.take (k + 1) := by
 rw [List.take_add_one, List.take_add_one, h, h1, h2]

theorem c22 (w : World) (A B A' B' : Option Addr) (n m n' m' c d c' d' : Nat) (ps qs : List PL) (ss ts : List SH) (h1 : Sl w none' A n 15 (flat PL.enc ps)) (h2 : Sl w none' B m 11 (flat SH.enc ss)) (h3 : Sl w none' A' n' 15 (flat PL.enc qs)) (h4 : Sl w none' B' m' 11 (flat SH.enc ts)) : Pw Tryz.prog w 22 [.agg #[.slice A n c, .slice B m d], .agg #[.slice A' n' c', .slice B' m' d']] (.bool (decide (ps = qs) && decide (ss = ts))) := by
 refine Pw.enter Tryz.func22 rfl Tryz.ntmps22 rfl ?_
 refine c_seq ?_
 refine c_reg ?_
 refine sx (ef_box rfl rfl rfl) rfl ?_
 rintro b2 hb2
 refine sx (ef_box rfl rfl rfl) rfl ?_
 rintro b3 hb3
 refine sq (rd_assign rfl) rfl ?_
 refine s_end ?_
 refine f_then ?_
 refine c_seq ?_
 refine c_seq ?_
 have l1 : ps.length = n := by have := h1.len; rw [flat_len PL.enc_len] at this; omega
 have l2 : ss.length = m := by have := h2.len; rw [flat_len SH.enc_len] at this; omega
 have l3 : qs.length = n' := by have := h3.len; rw [flat_len PL.enc_len] at this; omega
 have l4 : ts.length = m' := by have := h4.len; rw [flat_len SH.enc_len] at this; omega
 have x1 := h1.max
 have x2 := h2.max
 refine c_reg ?_
 refine sq (rd_field F25_0 rfl) rfl ?_
 refine sq (rd_ldb C22 rfl (by repeat constructor) rfl) rfl ?_
 refine sq (rd_len S22 rfl rfl) rfl ?_
 refine sq (rd_field F25_0 rfl) rfl ?_
 refine sq (rd_ldb C22 rfl (by repeat constructor) rfl) rfl ?_
 refine sq (rd_len S22 rfl rfl) rfl ?_
 refine sq (rd_neq rfl rfl) rfl ?_
 refine sq (rd_move rfl) rfl ?_
 refine s_split (d := 14) rfl (fun g14 => ?_) (fun g14 => ?_)
 ·try have g14p := of_decide_eq_true g14
  refine sg0 (fun a hA => wanted_no hA rfl rfl rfl g14 rfl) rfl ?_
  refine sg0 (fun a hA => wanted_no hA rfl rfl rfl g14 rfl) rfl ?_
  refine sg0 (fun a hA => wanted_no hA rfl rfl rfl g14 rfl) rfl ?_
  refine sg0 (fun a hA => wanted_no hA rfl rfl rfl g14 rfl) rfl ?_
  refine sg0 (fun a hA => wanted_no hA rfl rfl rfl g14 rfl) rfl ?_
  refine sg0 (fun a hA => wanted_no hA rfl rfl rfl g14 rfl) rfl ?_
  refine sg0 (fun a hA => wanted_no hA rfl rfl rfl g14 rfl) rfl ?_
  refine sq (rd_pick_tt rfl g14 rfl) rfl ?_
  refine s_end ?_
  refine f_then ?_
  refine c_lit_t rfl ?_
  refine c_seq ?_
  refine c_reg ?_
  refine sq (rd_assign rfl) rfl ?_
  refine s_end ?_
  refine f_then ?_
  refine c_ret ?_
  refine f_then_r ?_
  refine f_ret rfl (.tmp rfl .nil) ?_
  refine pu_end ?_
  simp only [resVal_one]
  congr 1
  symm
  have hne : ps ≠ qs := by rintro rfl; simp [← l1, ← l3] at g14
  simp [hne]
 ·try have g14p := of_decide_eq_false g14
  refine sg1 (fun a hA => wanted_yes hA rfl rfl rfl g14) (rd_field F25_1 rfl) rfl ?_
  refine sg1 (fun a hA => wanted_yes hA rfl rfl rfl g14) (rd_ldb C23 rfl (by repeat constructor) rfl) rfl ?_
  refine sg1 (fun a hA => wanted_yes hA rfl rfl rfl g14) (rd_len S23 rfl rfl) rfl ?_
  refine sg1 (fun a hA => wanted_yes hA rfl rfl rfl g14) (rd_field F25_1 rfl) rfl ?_
  refine sg1 (fun a hA => wanted_yes hA rfl rfl rfl g14) (rd_ldb C23 rfl (by repeat constructor) rfl) rfl ?_
  refine sg1 (fun a hA => wanted_yes hA rfl rfl rfl g14) (rd_len S23 rfl rfl) rfl ?_
  refine sg1 (fun a hA => wanted_yes hA rfl rfl rfl g14) (rd_neq rfl rfl) rfl ?_
  refine sq (rd_pick_ff rfl g14 rfl) rfl ?_
  refine s_end ?_
  refine f_then ?_
  refine c_if rfl (fun h22 => ?_) (fun h22 => ?_)
  ·refine c_seq ?_
   refine c_reg ?_
   refine sq (rd_assign rfl) rfl ?_
   refine s_end ?_
   refine f_then ?_
   refine c_ret ?_
   refine f_then_r ?_
   refine f_ret rfl (.tmp rfl .nil) ?_
   refine pu_end ?_
   simp only [resVal_one]
   congr 1
   symm
   have hne : ss ≠ ts := by rintro rfl; omega
   simp [hne]
  ·refine c_skip ?_
   refine f_then ?_
   refine c_seq ?_
   refine c_seq ?_
   refine c_reg ?_
   refine sq (rd_assign rfl) rfl ?_
   refine s_end ?_
   refine f_then ?_
   refine c_block ?_
   refine c_keep (L' := [(2, _), (3, _), (4, _), (5, _)]) (by repeat constructor) ?_
   refine c_for (α := Nat) (fun k => k ≤ n ∧ ps.take k = qs.take k) (fun k => []) [.blk b3 _ _, .blk b2 _ _] (fun k => [(5, .int .i64 (k : Int))]) [(2, _), (3, _), (4, _)] (fun k => n - k) (0) (⟨Nat.zero_le _, rfl⟩) (by repeat constructor) (fun _ h => h) ?_
   rintro k ⟨hk, hq⟩
   refine c_seq ?_
   refine c_seq ?_
   refine c_reg ?_
   refine sq (rd_move rfl) rfl ?_
   refine sq (rd_field F25_0 rfl) rfl ?_
   refine sq (rd_ldb C22 rfl (by repeat constructor) rfl) rfl ?_
   refine sq (rd_len S22 rfl rfl) rfl ?_
   refine sq (rd_lss rfl rfl) rfl ?_
   refine s_end ?_
   refine f_then ?_
   refine c_if rfl (fun h27 => ?_) (fun h27 => ?_)
   ·have hkn : k < n := by omega
    obtain ⟨p, hp⟩ : ∃ p, ps[k]? = some p := ⟨ps[k]'(by omega), by simp⟩
    obtain ⟨q, hq2⟩ : ∃ q, qs[k]? = some q := ⟨qs[k]'(by omega), by simp⟩
    refine c_skip ?_
    refine f_then ?_
    refine c_seq ?_
    refine c_block ?_
    refine c_seq ?_
    refine c_regd [.blk b3 _ _, .blk b2 _ _] (.q 0 (.q 1 (.q 2 (.q 3 (.q 4 (.q 5 (.q 6 (.q 7 (.q 8 (.q 9 (.q 10 .done))))))))))) (by kernel_rfl) (by kernel_rfl) (by kernel_rfl) (by kernel_rfl) (fun _ h => h.sb) ?_
    refine dq rfl (rd_field F25_0 rfl) rfl ?_
    refine dq rfl (rd_ldb C22 rfl (by repeat constructor) rfl) rfl ?_
    refine dq rfl (rd_move rfl) rfl ?_
    refine dq rfl (rd_index S22 rfl rfl h1.plain (by omega) (by omega)) rfl ?_
    refine dq rfl (rd_ldssl A51 h1 rfl (flat_part PL.enc_len ps _ p hp)) rfl ?_
    refine dq rfl (rd_field F25_0 rfl) rfl ?_
    refine dq rfl (rd_ldb C22 rfl (by repeat constructor) rfl) rfl ?_
    refine dq rfl (rd_move rfl) rfl ?_
    refine dq rfl (rd_index S22 rfl rfl h3.plain (by omega) (by omega)) rfl ?_
    refine dq rfl (rd_ldssl A51 h3 rfl (flat_part PL.enc_len qs _ q hq2)) rfl ?_
    refine dq rfl (rd_nes Eg51 rfl rfl (eqPL p q)) rfl ?_
    refine d_end ?_
    refine f_then ?_
    refine c_cond rfl (fun h40 => ?_) (fun h40 => ?_)
    ·refine c_seq ?_
     refine c_reg ?_
     refine sq (rd_assign rfl) rfl ?_
     refine s_end ?_
     refine f_then ?_
     refine c_ret ?_
     refine f_blk_r ?_
     refine f_then_r ?_
     refine f_then_r ?_
     refine f_blk_r ?_
     refine f_then_r ?_
     refine f_ret rfl (.tmp rfl .nil) ?_
     refine pu_end ?_
     simp only [resVal_one]
     congr 1
     symm
     have hne : ps ≠ qs := by rintro rfl; rw [hp] at hq2; injection hq2 with hq2; subst hq2; simp at h40
     simp [hne]
    ·refine c_skip ?_
     refine f_blk ?_
     refine f_then ?_
     refine c_reg ?_
     refine sq (rd_move rfl) rfl ?_
     refine sq (rd_add rfl rfl (by first | exact wrap_i64 (by omega) | exact rfl)) rfl ?_
     refine sq (rd_assign rfl) rfl ?_
     refine s_end ?_
     refine f_again (k + 1) (⟨by omega, take_step hq hp (by rw [hq2]; exact congrArg some (by have := h40; simp at this; exact this.symm))⟩) (by omega) (by repeat constructor) (fun _ h => h.sb)
   ·have hkn : k = n := by omega
    have e1 : ps = qs := by have := hq; rwa [List.take_of_length_le (by omega), List.take_of_length_le (by omega)] at this
    refine c_exit ?_
    refine f_then_x ?_
    refine f_then_x ?_
    refine f_blk_x ?_
    refine f_then ?_
    refine c_seq ?_
    refine c_seq ?_
    refine c_reg ?_
    refine sq (rd_assign rfl) rfl ?_
    refine s_end ?_
    refine f_then ?_
    refine c_block ?_
    refine c_keep (L' := [(2, _), (3, _), (4, _), (6, _)]) (by repeat constructor) ?_
    refine c_for (α := Nat) (fun k => k ≤ m ∧ ss.take k = ts.take k) (fun k => []) [.blk b3 _ _, .blk b2 _ _] (fun k => [(6, .int .i64 (k : Int))]) [(2, _), (3, _), (4, _)] (fun k => m - k) (0) (⟨Nat.zero_le _, rfl⟩) (by repeat constructor) (fun _ h => h) ?_
    rintro k ⟨hk, hq⟩
    refine c_seq ?_
    refine c_seq ?_
    refine c_reg ?_
    refine sq (rd_move rfl) rfl ?_
    refine sq (rd_field F25_1 rfl) rfl ?_
    refine sq (rd_ldb C23 rfl (by repeat constructor) rfl) rfl ?_
    refine sq (rd_len S23 rfl rfl) rfl ?_
    refine sq (rd_lss rfl rfl) rfl ?_
    refine s_end ?_
    refine f_then ?_
    refine c_if rfl (fun h45 => ?_) (fun h45 => ?_)
    ·have hkn : k < m := by omega
     obtain ⟨p, hp⟩ : ∃ p, ss[k]? = some p := ⟨ss[k]'(by omega), by simp⟩
     obtain ⟨q, hq2⟩ : ∃ q, ts[k]? = some q := ⟨ts[k]'(by omega), by simp⟩
     refine c_skip ?_
     refine f_then ?_
     refine c_seq ?_
     refine c_block ?_
     refine c_seq ?_
     refine c_regd [.blk b3 _ _, .blk b2 _ _] (.q 0 (.q 1 (.q 2 (.q 3 (.q 4 (.q 5 (.q 6 (.q 7 (.q 8 (.q 9 (.q 10 .done))))))))))) (by kernel_rfl) (by kernel_rfl) (by kernel_rfl) (by kernel_rfl) (fun _ h => h.sb) ?_
     refine dq rfl (rd_field F25_1 rfl) rfl ?_
     refine dq rfl (rd_ldb C23 rfl (by repeat constructor) rfl) rfl ?_
     refine dq rfl (rd_move rfl) rfl ?_
     refine dq rfl (rd_index S23 rfl rfl h2.plain (by omega) (by omega)) rfl ?_
     refine dq rfl (rd_ldssl A54 h2 rfl (flat_part SH.enc_len ss _ p hp)) rfl ?_
     refine dq rfl (rd_field F25_1 rfl) rfl ?_
     refine dq rfl (rd_ldb C23 rfl (by repeat constructor) rfl) rfl ?_
     refine dq rfl (rd_move rfl) rfl ?_
     refine dq rfl (rd_index S23 rfl rfl h4.plain (by omega) (by omega)) rfl ?_
     refine dq rfl (rd_ldssl A54 h4 rfl (flat_part SH.enc_len ts _ q hq2)) rfl ?_
     refine dq rfl (rd_nes Eg54 rfl rfl (eqSH p q)) rfl ?_
     refine d_end ?_
     refine f_then ?_
     refine c_cond rfl (fun h58 => ?_) (fun h58 => ?_)
     ·refine c_seq ?_
      refine c_reg ?_
      refine sq (rd_assign rfl) rfl ?_
      refine s_end ?_
      refine f_then ?_
      refine c_ret ?_
      refine f_blk_r ?_
      refine f_then_r ?_
      refine f_then_r ?_
      refine f_blk_r ?_
      refine f_then_r ?_
      refine f_ret rfl (.tmp rfl .nil) ?_
      refine pu_end ?_
      simp only [resVal_one]
      congr 1
      symm
      have hne : ss ≠ ts := by rintro rfl; rw [hp] at hq2; injection hq2 with hq2; subst hq2; simp at h58
      simp [hne]
     ·refine c_skip ?_
      refine f_blk ?_
      refine f_then ?_
      refine c_reg ?_
      refine sq (rd_move rfl) rfl ?_
      refine sq (rd_add rfl rfl (by first | exact wrap_i64 (by omega) | exact rfl)) rfl ?_
      refine sq (rd_assign rfl) rfl ?_
      refine s_end ?_
      refine f_again (k + 1) (⟨by omega, take_step hq hp (by rw [hq2]; exact congrArg some (by have := h58; simp at this; exact this.symm))⟩) (by omega) (by repeat constructor) (fun _ h => h.sb)
    ·have hkn : k = m := by omega
     have e2 : ss = ts := by have := hq; rwa [List.take_of_length_le (by omega), List.take_of_length_le (by omega)] at this
     refine c_exit ?_
     refine f_then_x ?_
     refine f_then_x ?_
     refine f_blk_x ?_
     refine f_then ?_
     refine c_seq ?_
     refine c_reg ?_
     refine sq (rd_assign rfl) rfl ?_
     refine s_end ?_
     refine f_then ?_
     refine c_ret ?_
     refine f_ret rfl (.tmp rfl .nil) ?_
     refine pu_end ?_
     simp only [resVal_one]
     congr 1
     symm
     simp [e1, e2]

end Go.Proofs.YtfccnoccfhgcbaaGreatDoor
namespace Go.Proofs.YtfccnoccfhgcbaaGreatDoor
open Go Go.RowKit

section
variable {P : Program} {S : World → Prop} {ops : Array Oper} {Q : Exit → Act → World → Prop} {n : Nat} {rest : List Oper} {w0 w : World} {M : Nat → Prop} {E E' ES : List Ent} {L L' : Slots} {d ty : Nat} {dst : Option Nat} {pos : String} {af : Array Edge} {g : Option (Nat × Bool)} {x y z : Operand} {v u : Value} {t t' e sz bytes m cap c : Nat}
 {k : IntKind} {A A2 : Option Addr} {k2 : Nat} {zs xs news us cs : List Value}
theorem rd_slice_hin {A0 : Option Addr} {kh : IntKind} {i : Nat} (hs : sliceTy P t e sz) (hx : opv L x = some (.slice A0 m cap)) (hz : opv L z = some (.int kh (i : Int))) (hh : i ≤ cap) :
  Rd P S n L ⟨dst, .slice t x none (some z) none, ty, pos, af, g⟩ (.slice A0 i cap) := rd_slice_hi hs hx hz (Int.natCast_nonneg i) (by omega)
theorem rd_slice_lon {A0 : Option Addr} {kl : IntKind} {i : Nat} (hs : sliceTy P t e sz) (hx : opv L x = some (.slice A0 m cap)) (hy : opv L y = some (.int kl (i : Int))) (hh : i ≤ m) :
  Rd P S n L ⟨dst, .slice t x (some y) none none, ty, pos, af, g⟩ (.slice (subA A0 cap i sz) (m - i) (cap - i)) := rd_slice_lo hs hx hy (Int.natCast_nonneg i) (by omega)
/-- A row of the call's own, for a callee that reads. -/
theorem Sl.ofRow (hS : St w0 M E w) (hm : Ent.row e sz A m cap xs ∈ E) (M' : Nat → Prop) (hM : ∀ b, A.map (·.block) = some b → ¬ M' b) : Sl w M' A m sz xs := by
 have hk := row_know hm w hS
 refine ⟨hk.1, by have := hk.2.1; have h2 := hk.2.2.1; simp only [maxLen] at h2; omega, fun h0 => (hk.2.2.2 h0).1, fun j hj => ?_, fun h0 => hM _ ?_⟩
 ·have hv : xs[j]? = some (xs[j]'(by rw [hk.1]; exact hj)) := by simp
  rw [hv]
  exact row_cell hm hS hv
 ·have := (hk.2.2.2 h0).1
  rw [this]
  rfl
/-- A block of the call's own, for a callee that reads. -/
theorem Sl.ofBlk {b : Nat} {te : Nat} (hS : St w0 M E w) (hm : Ent.blk b xs te ∈ E) (hl : xs.length = m * sz) (hx : Nat.ble m 9223372036854775807 = true) (M' : Nat → Prop) (hM : ¬ M' b) : Sl w M' (some ⟨b, 0, none⟩) m sz xs :=
 ⟨hl, by simpa [Nat.ble_eq] using hx, fun _ => rfl, fun j _ => by show w.cell? ⟨b, 0 + j, none⟩ = _; rw [Nat.zero_add]; exact hS.cell hm j, fun _ => hM⟩
/-- Two entries alone. -/
theorem St.pick2 {e1 e2 : Ent} {E : List Ent} (h : St w0 M E w) (h1 : e1 ∈ E) (h2 : e2 ∈ E) (hne : e1.apart e2) : St w0 M [e1, e2] w :=
 ⟨h.os, h.tape, h.output, h.size, h.base, fun e he => h.ents e (by rcases List.mem_cons.1 he with rfl | he; exact h1; rcases List.mem_cons.1 he with rfl | he; exact h2; cases he), .cons (fun f hf => by rcases List.mem_cons.1 hf with rfl | hf; exact hne; cases hf) (.cons (fun f hf => by cases hf) .nil)⟩
theorem cells_take {l : List Value} (h : l.all Value.oneCell' = true) {j : Nat} : (l.take j).all Value.oneCell' = true := by
 rw [List.all_eq_true] at h ⊢
 exact fun x hx => h x (List.mem_of_mem_take hx)
/-- The world behind a store of some cells into a row. -/
theorem run_store_row (hS : St w0 M (.row e sz A m cap xs :: E) w) {o : Nat} (hl : o + cs.length ≤ m * sz) (hc : ∀ u ∈ cs, u.oneCell' = true) (hpos : 0 < cs.length) :
  ∃ w', (storeCells ⟨ab A, ao A + o, none⟩ cs 0).run P w = .ok () w' ∧ St w0 M (.row e sz A m cap (xs.take o ++ cs ++ xs.drop (o + cs.length)) :: E) w' := by
 have hmem : Ent.row e sz A m cap xs ∈ Ent.row e sz A m cap xs :: E := List.mem_cons_self ..
 obtain ⟨h1, h2⟩ := row_shape (hS.ents _ hmem).2.1
 have hf := (hS.ents _ hmem).2.2
 rcases h2 with ⟨rfl, rfl, rfl⟩ | ⟨gb, rfl, h3, h4, cur, hg, h5, h6⟩
 ·rw [Nat.zero_mul] at hl; omega
 ·have hle : m * sz ≤ cap * sz := Nat.mul_le_mul_right _ h3
  have hcur : w.heap[gb]? = some (.cells cur.toList.toArray e (0, 0)) := by simpa using hg
  have hlen : cur.toList.length = cap * sz := by simpa using h5
  obtain ⟨us, r1, r2, r3⟩ := run_storeCells_blk (P := P) e cs w gb o 0 cur.toList hcur hc (by omega)
  refine ⟨setCells w gb us e, by simpa [ab, ao] using r1, ?_⟩
  have hlt : gb < w.heap.size := (Array.getElem?_eq_some_iff.1 hg).1
  refine hS.change rfl rfl rfl (by simp [setCells]) (fun b hb hne => setCells_ne w gb us e b (fun h => hne (by subst h; rfl))) (Ent.loc_row _ _ _ _ _ _) ⟨by simp only [List.length_append, List.length_take, List.length_drop, h1]; omega, .inr ⟨gb, cap, us.toArray, rfl, Nat.zero_le _, setCells_heap w gb us e hlt, h3, h4, by simp; omega, ?_⟩⟩ (fun b hb => ⟨by have := (hf b hb).1; simpa [setCells] using this, .inl hb⟩)
  apply List.ext_getElem?
  intro j
  rw [List.getElem?_take]
  have hx : ∀ i, i < m * sz → xs[i]? = cur.toList[i]? := fun i hi => by rw [← h6, List.getElem?_take, if_pos hi]
  have hxl : xs.length = m * sz := h1
  by_cases hj : j < m * sz
  ·rw [if_pos hj]
   show us[j]? = _
   rw [r3 j]
   simp only [Nat.add_zero]
   by_cases ha : j < o
   ·rw [if_neg (by omega), List.append_assoc, List.getElem?_append_left (by simp; omega), List.getElem?_take, if_pos ha, hx j hj]
   ·by_cases hb : j < o + cs.length
    ·rw [if_pos (by omega), List.append_assoc, List.getElem?_append_right (by simp; omega), List.getElem?_append_left (by simp; omega)]
     congr 1
     simp; omega
    ·rw [if_neg (by omega), List.getElem?_append_right (by simp; omega), List.getElem?_drop, hx _ (by simp; omega)]
     congr 1
     simp; omega
  ·rw [if_neg hj]
   symm
   rw [List.getElem?_eq_none]
   simp; omega
theorem run_storeVar_row {s o : Nat} (hS : St w0 M (.row e sz A m cap xs :: E) w) (hz : (P.info? t).map (·.size) = some s) (hv : v.cells.toList = cs) (hs : cs.length = s) (hl : o + s ≤ m * sz) (hc : ∀ u ∈ cs, u.oneCell' = true) (hpos : 0 < s) :
  ∃ w', (storeVar t ⟨ab A, ao A + o, none⟩ v).run P w = .ok () w' ∧ St w0 M (.row e sz A m cap (xs.take o ++ cs ++ xs.drop (o + s)) :: E) w' := by
 subst hs
 obtain ⟨w', r1, r2⟩ := run_store_row (P := P) hS hl hc hpos
 refine ⟨w', ?_, r2⟩
 have hcs : v.cells.size = cs.length := by rw [← hv]; simp
 unfold storeVar
 simp only [Sem.run_bind, size_run hz w, Result.andThen_ok, hcs, ne_eq, not_true_eq_false, if_false, hv]
 simpa using r1
/-- What is stored into a row: some cells of it. -/
theorem ef_storer {s o : Nat} (hz : (P.info? t).map (·.size) = some s) (hE : E = .row e sz A m cap xs :: E') (hx : opv L x = some (.pointer (some ⟨ab A, ao A + o, none⟩))) (hy : opv L y = some v) (hv : v.cells.toList = cs) (hs : cs.length = s) (hl : o + s ≤ m * sz) (hpos : 0 < s) (hc : cs.all Value.oneCell' = true) {ys : List Value} (hys : xs.take o ++ cs ++ xs.drop (o + s) = ys) :
  Ef P n w0 M E L ⟨none, .store t x y, ty, pos, af, g⟩ (fun K => To n w0 M (.row e sz A m cap ys :: E') L K) := by
 subst hE hys
 intro K Q a w hK hA hS
 obtain ⟨w', r1, r2⟩ := run_storeVar_row (P := P) hS hz hv hs hl (by simpa using hc) hpos
 unfold Oper.wp
 simp only [execOp, hA.eval hx, hA.eval hy, Instr.storeAt, Instr.sureAddr, Sem.run_bind, Sem.run_pure, Result.andThen_ok, r1, Oper.upon, Act.put_none]
 exact hK _ _ hA r2
end
end Go.Proofs.YtfccnoccfhgcbaaGreatDoor
