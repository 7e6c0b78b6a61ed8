/- The law ViewBack: it answers true, whatever the input; no conditions beyond those of the statement. -/
import Derived.Test.YtfccnoccfhgcbaaGreatDoorPqE
import Derived.Laws.BytesArg
import Derived.Laws.Strings
import Derived.Test.YtfccnoccfhgcbaaGreatDoorProg
import Derived.Test.YtfccnoccfhgcbaaGreatDoorCards
import Derived.Test.YtfccnoccfhgcbaaGreatDoorTie
set_option linter.unusedVariables false
set_option linter.unusedSimpArgs false
set_option maxRecDepth 20000
set_option maxHeartbeats 400000
namespace Go.Proofs.YtfccnoccfhgcbaaGreatDoor
open Go Go.RowKit

theorem rd_inv {B : List Bool} {a k : Nat} (h : okB B a k = true) : B.drop a = nbits (getB B a k) k ++ B.drop (a + k) ∧ toB B a k = a + k ∧ a + k ≤ B.length := by
 have hle : a + k ≤ B.length := by simpa [okB] using h
 refine ⟨?_, if_pos hle, hle⟩
 have h1 : ((B.drop a).take k).length = k := by rw [List.length_take, List.length_drop]; omega
 have h2 := nbits_numB ((B.drop a).take k)
 rw [h1] at h2
 unfold getB
 rw [if_pos hle, h2, ← List.drop_drop, List.take_append_drop]
theorem nbits_1 (n : Nat) (h : n < 2) : nbits n 1 = [decide (n = 1)] := by
 match n, h with
 | 0, _ => rfl
 | 1, _ => rfl
theorem failF_0 {q : Bool} {c e : Int} (hc : c ≠ 0) (h : failF q c e = 0) : q = true ∧ e = 0 := by
 unfold failF at h
 split at h
 ·exact absurd h hc
 ·rename_i hn
  cases q
  ·exact absurd ⟨rfl, h⟩ hn
  ·exact ⟨rfl, h⟩
/-- A bit that was there. -/
theorem bit_inv {B : List Bool} {a : Nat} {e : Int} (h : failF (okB B a 1) 2 e = 0) : e = 0 ∧ B.drop a = moreV B a e :: B.drop (a + 1) ∧ toB B a 1 = a + 1 ∧ a + 1 ≤ B.length ∧ okB B a 1 = true := by
 obtain ⟨h1, h2⟩ := failF_0 (by decide) h
 obtain ⟨h3, h4, h5⟩ := rd_inv h1
 refine ⟨h2, ?_, h4, h5, h1⟩
 rw [h3, nbits_1 _ (getB_lt B a 1)]
 unfold moreV
 rw [h, decide_eq_true (rfl : (0 : Int) = 0), Bool.and_true]
 rfl
theorem sgn32 {n : Nat} (h : n < 2 ^ 32) : wideB (sgn 32 n) = false ∧ sbits (sgn 32 n) 32 = nbits n 32 := by
 have hw : wideB (sgn 32 n) = false := by
  unfold wideB sgn
  rw [Bool.or_eq_false_iff, decide_eq_false_iff_not, decide_eq_false_iff_not]
  split <;> omega
 refine ⟨hw, nbits_inj (sbits_len _ _) ?_⟩
 unfold sbits sgn
 rw [numB_nbits, IntKind.wrap_u64]
 split <;> omega
theorem sbits31' {n : Nat} (h : n < 2 ^ 31) : sbits (n : Int) 31 = nbits n 31 := by
 unfold sbits
 rw [wrap_u64 ⟨by omega, by omega⟩]
 rfl
theorem fieldsB_congr {fl : Int} {was f g : List Int} {k : Nat} (h : ∀ i, i < k → f.getD i 0 = g.getD i 0) : fieldsB fl was f k = fieldsB fl was g k := by
 induction k with
 | zero => rfl
 | succ k ih =>
  rw [fieldsB_succ, fieldsB_succ, ih fun i hi => h i (by omega)]
  unfold fieldB
  rw [h k (by omega)]
theorem chgF_e {B : List Bool} {fl : Int} {s : CS} (h : s.e ≠ 0) : ∀ k, (chgF B fl k s).e = s.e := by
 intro k
 induction k with
 | zero => rfl
 | succ k ih =>
  rw [chgF_succ]
  have h2 : (chgF B fl k s).e ≠ 0 := by rw [ih]; exact h
  unfold chgStep
  have hm : moreV B (chgF B fl k s).a (chgF B fl k s).e = false := by
   unfold moreV
   rw [failF_no h2, decide_eq_false h2, Bool.and_false]
  rw [if_pos hm]
  dsimp only
  rw [failF_no h2, ih]
theorem chgStep_e {B : List Bool} {fl : Int} {k : Nat} {s : CS} (h : (chgStep B fl k s).e = 0) : s.e = 0 := by
 refine Classical.byContradiction fun h2 => ?_
 have hm : moreV B s.a s.e = false := by
  unfold moreV
  rw [failF_no h2, decide_eq_false h2, Bool.and_false]
 unfold chgStep at h
 rw [if_pos hm] at h
 dsimp only at h
 rw [failF_no h2] at h
 exact h2 h
theorem ReadR.err {B : List Bool} {nf : Nat} {fl : Int} {rb : List RW} {a : Nat} {e last : Int} {rs : List RW} {a' : Nat} {e' : Int} {rs' : List RW} (h : ReadR B nf fl rb a e last rs a' e' rs') (he : e ≠ 0) : e' = e ∧ rs' = rs := by
 cases h with
 | stop _ => exact ⟨failF_no he, rfl⟩
 | gone h _ _ => exact absurd (more_lt h).2.2 he
 | made h _ _ => exact absurd (more_lt h).2.2 he
/-- Fields that were read. -/
theorem chgF_inv {B : List Bool} {fl : Int} {was : List Int} {a : Nat} {so0 : Bool} (hw : ∀ i, wideB (was.getD i 0) = false) (f1 : ∀ k : Nat, (k : Int) = fl → was.getD k 0 = 0 ∨ was.getD k 0 = 1) :
  ∀ k, k ≤ was.length → (chgF B fl k ⟨a, 0, so0, was⟩).e = 0 → B.drop a = fieldsB fl was (chgF B fl k ⟨a, 0, so0, was⟩).fs k ++ B.drop (chgF B fl k ⟨a, 0, so0, was⟩).a ∧ (chgF B fl k ⟨a, 0, so0, was⟩).fs.length = was.length ∧ (∀ i, k ≤ i → (chgF B fl k ⟨a, 0, so0, was⟩).fs.getD i 0 = was.getD i 0) ∧
   (∀ i, wideB ((chgF B fl k ⟨a, 0, so0, was⟩).fs.getD i 0) = false) ∧ (∀ i : Nat, (i : Int) = fl → (chgF B fl k ⟨a, 0, so0, was⟩).fs.getD i 0 = 0 ∨ (chgF B fl k ⟨a, 0, so0, was⟩).fs.getD i 0 = 1) ∧ ((chgF B fl k ⟨a, 0, so0, was⟩).so = true → so0 = true ∨ ∃ i, i < k ∧ (chgF B fl k ⟨a, 0, so0, was⟩).fs.getD i 0 ≠ was.getD i 0) := by
 intro k
 induction k with
 | zero => intro _ _; exact ⟨by simp [fieldsB, chgF], rfl, fun _ _ => rfl, hw, f1, fun h => .inl h⟩
 | succ k ih =>
  intro hk he
  rw [chgF_succ] at he ⊢
  obtain ⟨i1, i2, i3, i4, i5, i6⟩ := ih (by omega) (chgStep_e he)
  have he0 := chgStep_e he
  generalize chgF B fl k ⟨a, 0, so0, was⟩ = s at *
  obtain ⟨sa, se, sso, sfs⟩ := s
  dsimp only at *
  subst he0
  have hgk := i3 k (Nat.le_refl _)
  unfold chgStep at he ⊢
  dsimp only at he ⊢
  by_cases hm : moreV B sa 0 = false
  ·rw [if_pos hm] at he ⊢
   dsimp only at he ⊢
   obtain ⟨_, b1, b2, _, _⟩ := bit_inv he
   rw [hm] at b1
   refine ⟨?_, i2, fun i hi => i3 i (by omega), i4, i5, fun h => (i6 h).imp id fun ⟨i, hi, h⟩ => ⟨i, by omega, h⟩⟩
   rw [fieldsB_succ, fieldB_same hgk, List.append_assoc, b2]
   rw [b1] at i1
   exact i1
  ·have hm1 : moreV B sa 0 = true := by simpa using hm
   have hml := more_lt hm1
   have hok : okB B sa 1 = true := decide_eq_true hml.1
   obtain ⟨_, b1, b2, _, _⟩ := bit_inv (B := B) (a := sa) (e := 0) (by rw [hok, failF_ok])
   rw [hm1] at b1
   rw [if_neg hm] at he ⊢
   have hcong : ∀ v, fieldsB fl was (sfs.set k v) k = fieldsB fl was sfs k := fun v => fieldsB_congr fun i hi => by rw [set_getD _ _ _ _ (by omega), if_neg (by omega)]
   have hset : ∀ v, (sfs.set k v).getD k 0 = v := fun v => by rw [set_getD _ _ _ _ (by omega), if_pos rfl]
   have hrest : ∀ v i, i ≠ k → (sfs.set k v).getD i 0 = sfs.getD i 0 := fun v i hi => by rw [set_getD _ _ _ _ (by omega), if_neg hi]
   by_cases cf : (k : Int) = fl
   ·rw [if_pos cf] at he ⊢
    dsimp only at he ⊢
    obtain ⟨v, hv⟩ : ∃ v, v = IntKind.i64.wrap (1 - sfs.getD k 0) := ⟨_, rfl⟩
    rw [← hv]
    rw [hgk] at hv
    have hv2 : (v = 0 ∨ v = 1) ∧ v ≠ was.getD k 0 := by
     rcases f1 k cf with h1 | h1 <;> rw [h1] at hv ⊢
     ·rw [hv]; decide
     ·rw [hv]; decide
    refine ⟨?_, by simpa using i2, fun i hi => by rw [hrest v i (by omega)]; exact i3 i (by omega), fun i => ?_, fun i hi => ?_, fun _ => .inr ⟨k, by omega, by rw [hset]; exact hv2.2⟩⟩
    ·rw [fieldsB_succ, hcong, fieldB_flag (by rw [hset]; exact hv2.2) cf, List.append_assoc, b2]
     rw [b1] at i1
     exact i1
    ·by_cases c : i = k
     ·subst c; rw [hset]; rcases hv2.1 with h | h <;> rw [h] <;> rfl
     ·rw [hrest v i c]; exact i4 i
    ·by_cases c : i = k
     ·subst c; rw [hset]; exact hv2.1
     ·rw [hrest v i c]; exact i5 i hi
   ·rw [if_neg cf] at he ⊢
    dsimp only at he ⊢
    obtain ⟨g1, g2⟩ := failF_0 (by decide) he
    obtain ⟨g3, _⟩ := failF_0 (by decide) g2
    obtain ⟨d1, d2, d3⟩ := rd_inv g3
    have g1 := of_decide_eq_true g1
    rw [hgk] at g1
    have hlt := getB_lt B (toB B sa 1) 32
    obtain ⟨w1, w2⟩ := sgn32 hlt
    rw [b2] at g1 d1 d2 w1 w2 ⊢
    generalize hv : sgn 32 (getB B (sa + 1) 32) = v at *
    refine ⟨?_, by simpa using i2, fun i hi => by rw [hrest v i (by omega)]; exact i3 i (by omega), fun i => ?_, fun i hi => ?_, fun _ => .inr ⟨k, by omega, by rw [hset]; exact g1⟩⟩
    ·rw [fieldsB_succ, hcong, fieldB_wide (by rw [hset]; exact g1) cf, hset, w2, List.append_assoc, List.cons_append, d2, ← d1, ← b1]
     exact i1
    ·by_cases c : i = k
     ·subst c; rw [hset]; exact w1
     ·rw [hrest v i c]; exact i4 i
    ·by_cases c : i = k
     ·subst c; exact absurd hi cf
     ·rw [hrest v i c]; exact i5 i hi
def IdsOk (rs : List RW) : Prop := ∀ r ∈ rs, 0 < r.1 ∧ r.1 ≤ 2147483647
theorem entsB_none {nf : Nat} {fl : Int} {rb rn : List RW} : ∀ {l : List Int}, (∀ id ∈ l, lk rb id = lk rn id) → entsB nf fl rb rn l = []
 | [], _ => rfl
 | id :: l, h => by
  rw [entsB_cons, entsB_none fun i hi => h i (List.mem_cons_of_mem _ hi)]
  have := h id (List.mem_cons_self ..)
  unfold entB
  rw [if_pos ⟨by rw [hasR_lk, hasR_lk, this], by rw [fndR_lk, fndR_lk, this]⟩]
  rfl
theorem entsB_append (nf : Nat) (fl : Int) (rb rn : List RW) (l r : List Int) : entsB nf fl rb rn (l ++ r) = entsB nf fl rb rn l ++ entsB nf fl rb rn r := by simp [entsB]
theorem split_at {l : List Int} {id : Int} (h : id ∈ l) (hp : l.Pairwise (· < ·)) : ∃ l1 l2, l = l1 ++ id :: l2 ∧ (∀ i ∈ l1, i < id) ∧ (∀ i ∈ l2, id < i) ∧ l2.Pairwise (· < ·) := by
 obtain ⟨l1, l2, rfl⟩ := List.append_of_mem h
 obtain ⟨_, h2, h3⟩ := List.pairwise_append.1 hp
 have h4 := List.pairwise_cons.1 h2
 exact ⟨l1, l2, rfl, fun i hi => h3 i hi id (List.mem_cons_self ..), h4.1, h4.2⟩
/-- Entries that were read. -/
theorem ReadR.inv {B : List Bool} {nf : Nat} {fl : Int} {rb : List RW} (hb : RowsOk nf fl rb) {a : Nat} {e last : Int} {rs : List RW} {a' : Nat} {e' : Int} {rs' : List RW} (h : ReadR B nf fl rb a e last rs a' e' rs') :
  e' = 0 → 0 ≤ last → Rise rs → RowsOk nf fl rs → IdsOk rs → (∀ id, last < id → lk rs id = lk rb id) →
  e = 0 ∧ Rise rs' ∧ RowsOk nf fl rs' ∧ IdsOk rs' ∧ (∀ id, id ≤ last → lk rs' id = lk rs id) ∧
  ∀ l : List Int, l.Pairwise (· < ·) → (∀ id ∈ l, last < id) → (∀ id, last < id → (lk rb id).isSome = true ∨ (lk rs' id).isSome = true → id ∈ l) → B.drop a = entsB nf fl rb rs' l ++ false :: B.drop a' := by
 induction h with
 | @stop a e last rs hm =>
  intro he h0 hr ho hi hlk
  obtain ⟨e0, b1, b2, _, _⟩ := bit_inv he
  rw [hm] at b1
  refine ⟨e0, hr, ho, hi, fun _ _ => rfl, fun l _ hl _ => ?_⟩
  rw [entsB_none fun id hid => (hlk id (hl id hid)).symm, b2]
  exact b1
 | @gone a e last rs a' e' rs' h1 h2 _ ih =>
  intro he h0 hr ho hi hlk
  obtain ⟨a1, a2, rfl⟩ := more_lt h1
  obtain ⟨c1, c2, c3⟩ := more_lt h2
  unfold err3 at c3
  obtain ⟨c4, c5⟩ := failF_0 (by decide) c3
  obtain ⟨c6, _⟩ := failF_0 (by decide) c5
  have c4 := of_decide_eq_true c4
  obtain ⟨d1, d2, d3⟩ := rd_inv c6
  have hlt := getB_lt B (toB B a 1) 31
  obtain ⟨k0, k1, k2, k3, k4, k5⟩ := ih he (by unfold idOf; omega) (rise_filter hr _) (fun r hr => ho r (List.mem_filter.1 hr).1) (fun r hr => hi r (List.mem_filter.1 hr).1) (fun id hid => by rw [lk_filter, if_neg (by omega)]; exact hlk id (by omega))
  obtain ⟨g1, g2⟩ := failF_0 (by decide) k0
  refine ⟨rfl, k1, k2, k3, fun id hid => by rw [k4 id (by omega), lk_filter, if_neg (by omega)], fun l hp hl hall => ?_⟩
  have hin : idOf B a ∈ l := hall _ c4 (.inl g1)
  obtain ⟨l1, l2, rfl, q1, q2, q3⟩ := split_at hin hp
  have hno : lk rs' (idOf B a) = none := by rw [k4 _ (Int.le_refl _), lk_filter, if_pos rfl]
  have hE := k5 l2 q3 q2 fun id hid hs => by
   rcases List.mem_append.1 (hall id (by omega) hs) with h | h
   ·have := q1 id h; omega
   ·rcases List.mem_cons.1 h with h | h
    ·omega
    ·exact h
  obtain ⟨_, m1, m2, _, _⟩ := bit_inv (B := B) (a := a) (e := 0) (by rw [show okB B a 1 = true from decide_eq_true a1, failF_ok])
  obtain ⟨_, n1, n2, _, _⟩ := bit_inv (B := B) (a := aft B a) (e := 0) (by rw [show okB B (aft B a) 1 = true from decide_eq_true c1, failF_ok])
  have herr : err3 B a 0 last = 0 := c3
  rw [herr] at h2
  rw [h1] at m1
  rw [h2] at n1
  rw [n2] at hE
  have haf : aft B a = a + 1 + 31 := by unfold aft; rw [d2, a2]
  rw [a2] at d1 hlt
  have hid : idOf B a = ((getB B (a + 1) 31 : Nat) : Int) := by unfold idOf; rw [a2]
  have hent : entB nf fl rb rs' (idOf B a) = true :: (nbits (getB B (a + 1) 31) 31 ++ [true]) := by
   unfold entB
   have e1 : hasR rs' (idOf B a) = false := by rw [hasR_lk, hno]; rfl
   rw [if_neg (by rw [g1, e1]; intro h; cases h.1), e1, hid, sbits31' hlt]
   simp
  rw [entsB_append, entsB_cons, entsB_none (l := l1) (fun id hid => by
   have hid2 := q1 id hid
   rw [k4 id (by omega), lk_filter, if_neg (by omega)]
   exact (hlk id (hl id (List.mem_append_left _ hid))).symm), hent, m1, d1, ← haf, n1, hE]
  simp
 | @made a e last rs a' e' rs' h1 h2 _ ih =>
  intro he h0 hr ho hi hlk
  obtain ⟨a1, a2, rfl⟩ := more_lt h1
  have key : ∀ s : CS, s = chgOf B nf fl rb a 0 last → s.e = 0 → err3 B a 0 last = 0 ∧ okB B (aft B a) 1 = true := fun s hs h => by
   have h3 : failF (okB B (aft B a) 1) 2 (err3 B a 0 last) = 0 := by
    refine Classical.byContradiction fun hne => ?_
    have := chgF_e (B := B) (fl := fl) (s := ⟨toB B (aft B a) 1, failF (okB B (aft B a) 1) 2 (err3 B a 0 last), false, fndR nf rb (idOf B a)⟩) hne nf
    rw [hs] at h
    unfold chgOf at h
    rw [this] at h
    exact hne h
   have h4 := failF_0 (by decide) h3
   exact ⟨h4.2, h4.1⟩
  have hfin : ∀ (hx : failF ((chgOf B nf fl rb a 0 last).so || !hasR rb (idOf B a)) 3 (chgOf B nf fl rb a 0 last).e = 0), ((chgOf B nf fl rb a 0 last).so || !hasR rb (idOf B a)) = true ∧ (chgOf B nf fl rb a 0 last).e = 0 := fun hx => failF_0 (by decide) hx
  have hx : failF ((chgOf B nf fl rb a 0 last).so || !hasR rb (idOf B a)) 3 (chgOf B nf fl rb a 0 last).e = 0 := by
   refine Classical.byContradiction fun hne => ?_
   rename_i hrec
   have := (ReadR.err hrec hne).1
   rw [he] at this
   exact hne this.symm
  obtain ⟨z1, z2⟩ := hfin hx
  obtain ⟨z3, z4⟩ := key _ rfl z2
  have c3 := z3
  unfold err3 at c3
  obtain ⟨c4, c5⟩ := failF_0 (by decide) c3
  obtain ⟨c6, _⟩ := failF_0 (by decide) c5
  have c4 := of_decide_eq_true c4
  obtain ⟨d1, d2, d3⟩ := rd_inv c6
  have hlt := getB_lt B (toB B a 1) 31
  obtain ⟨o1, o2, o3⟩ := fndR_ok hb (idOf B a)
  have hC : chgOf B nf fl rb a 0 last = chgF B fl nf ⟨aft B a + 1, 0, false, fndR nf rb (idOf B a)⟩ := by
   have ht : toB B (aft B a) 1 = aft B a + 1 := (rd_inv z4).2.1
   unfold chgOf
   rw [z3, z4, failF_ok, ht]
  obtain ⟨f1, f2, f3, f4, f5, f6⟩ := chgF_inv (B := B) (fl := fl) (was := fndR nf rb (idOf B a)) (a := aft B a + 1) (so0 := false) (wide_getD o2) o3 nf (by omega) (by rw [← hC]; exact z2)
  rw [← hC] at f1 f2 f3 f4 f5 f6
  have hrow : RowsOk nf fl (putR rs (idOf B a, (chgOf B nf fl rb a 0 last).fs)) := fun r hr => by
   rcases putR_mem hr with hr | rfl
   ·exact ho r hr
   ·refine ⟨by rw [f2, o1], fun x hx => ?_, fun k hk => f5 k hk⟩
    obtain ⟨i, hi⟩ := List.getElem?_of_mem hx
    have := f4 i
    rwa [List.getD_eq_getElem?_getD, hi] at this
  have hids : IdsOk (putR rs (idOf B a, (chgOf B nf fl rb a 0 last).fs)) := fun r hr => by
   rcases putR_mem hr with hr | rfl
   ·exact hi r hr
   ·unfold idOf at c4 ⊢
    dsimp only
    omega
  obtain ⟨k0, k1, k2, k3, k4, k5⟩ := ih he (by unfold idOf; omega) (rise_put hr _) hrow hids (fun id hid => by rw [lk_put hr, if_neg (by dsimp only; omega)]; exact hlk id (by omega))
  refine ⟨rfl, k1, k2, k3, fun id hid => by rw [k4 id (by omega), lk_put hr, if_neg (by dsimp only; omega)], fun l hp hl hall => ?_⟩
  have hyes : lk rs' (idOf B a) = some (idOf B a, (chgOf B nf fl rb a 0 last).fs) := by rw [k4 _ (Int.le_refl _), lk_put hr, if_pos rfl]
  have hin : idOf B a ∈ l := hall _ c4 (.inr (by rw [hyes]; rfl))
  obtain ⟨l1, l2, rfl, q1, q2, q3⟩ := split_at hin hp
  have hE := k5 l2 q3 q2 fun id hid hs => by
   rcases List.mem_append.1 (hall id (by omega) hs) with h | h
   ·have := q1 id h; omega
   ·rcases List.mem_cons.1 h with h | h
    ·omega
    ·exact h
  obtain ⟨_, m1, m2, _, _⟩ := bit_inv (B := B) (a := a) (e := 0) (by rw [show okB B a 1 = true from decide_eq_true a1, failF_ok])
  obtain ⟨_, n1, n2, _, _⟩ := bit_inv (B := B) (a := aft B a) (e := 0) (by rw [z4, failF_ok])
  rw [z3] at h2
  rw [h1] at m1
  rw [h2] at n1
  have haf : aft B a = a + 1 + 31 := by unfold aft; rw [d2, a2]
  rw [a2] at d1 hlt
  have hid : idOf B a = ((getB B (a + 1) 31 : Nat) : Int) := by unfold idOf; rw [a2]
  have e1 : hasR rs' (idOf B a) = true := by rw [hasR_lk, hyes]; rfl
  have e2 : fndR nf rs' (idOf B a) = (chgOf B nf fl rb a 0 last).fs := by rw [fndR_lk, hyes]
  have hent : entB nf fl rb rs' (idOf B a) = true :: (nbits (getB B (a + 1) 31) 31 ++ false :: fieldsB fl (fndR nf rb (idOf B a)) (chgOf B nf fl rb a 0 last).fs nf) := by
   unfold entB
   rw [if_neg (fun h => ?_), e1, e2, hid, sbits31' hlt]
   ·simp
   ·rw [e1, e2] at h
    rw [h.1] at z1
    have z5 : (chgOf B nf fl rb a 0 last).so = true := by simpa using z1
    rcases f6 z5 with h6 | ⟨i, _, h6⟩
    ·cases h6
    ·rw [h.2] at h6
     exact h6 rfl
  rw [entsB_append, entsB_cons, entsB_none (l := l1) (fun id hid => by
   have hid2 := q1 id hid
   rw [k4 id (by omega), lk_put hr, if_neg (by dsimp only; omega)]
   exact (hlk id (hl id (List.mem_append_left _ hid))).symm), hent, m1, d1, ← haf, n1, f1, hE]
  simp
end Go.Proofs.YtfccnoccfhgcbaaGreatDoor
namespace Go.Proofs.YtfccnoccfhgcbaaGreatDoor
open Go Go.RowKit

theorem read_len {B : List Bool} {nf : Nat} {fl : Int} {rb : List RW} {a : Nat} {e last : Int} {rs : List RW} {a' : Nat} {e' : Int} {rs' : List RW} (h : ReadR B nf fl rb a e last rs a' e' rs') : a ≤ B.length → a ≤ a' ∧ a' ≤ B.length := by
 induction h with
 | @stop a e last rs _ => intro ha; exact ⟨toB_ge ha, toB_le _ _ _⟩
 | @gone a e last rs a' e' rs' _ _ _ ih =>
  intro ha
  have h1 := toB_le B a 1
  have h2 := toB_le B (toB B a 1) 31
  have h3 := ih (toB_le _ _ _)
  have h4 := toB_ge (k := 1) ha
  have h5 := toB_ge (k := 31) h1
  have h6 := toB_ge (B := B) (k := 1) h2
  unfold aft at h3
  omega
 | @made a e last rs a' e' rs' _ _ _ ih =>
  intro ha
  have h1 := toB_le B a 1
  have h2 := toB_le B (toB B a 1) 31
  have h4 := toB_ge (k := 1) ha
  have h5 := toB_ge (k := 31) h1
  have h6 := toB_ge (B := B) (k := 1) h2
  have h7 := chgF_ok (B := B) (fl := fl) (s := ⟨toB B (aft B a) 1, failF (okB B (aft B a) 1) 2 (err3 B a e last), false, fndR nf rb (idOf B a)⟩) (toB_le _ _ _) nf
  have h3 := ih h7.1
  have h8 := h7.2.1
  unfold chgOf at h3
  unfold aft at h3 h8
  dsimp only at h3 h8
  omega
theorem sec_inv {B : List Bool} {nf : Nat} {fl most : Int} {rb : List RW} (hb : SecOk nf fl most rb) {a : Nat} {e : Int} {a' : Nat} {rs' : List RW} (h : ReadR B nf fl rb a e 0 rb a' 0 rs') (ha : a ≤ B.length) : e = 0 ∧ Rise rs' ∧ RowsOk nf fl rs' ∧ IdsOk rs' ∧ B.drop a = writeB nf fl rb rs' ++ B.drop a' := by
 obtain ⟨h1, h2, h3, h4, _, h6⟩ := h.inv hb.ok rfl (Int.le_refl 0) hb.rise hb.ok hb.ids (fun _ _ => rfl)
 obtain ⟨i1, i2⟩ := idsL_ok rb rs'
 refine ⟨h1, h2, h3, h4, ?_⟩
 rw [h6 (idsL rb rs') i1 (fun id hid => ?_) (fun id _ hs => ?_)]
 ·unfold writeB; simp
 ·rcases (i2 id).1 hid with ⟨r, hr, rfl⟩ | ⟨r, hr, rfl⟩
  ·exact (hb.ids r hr).1
  ·exact (h4 r hr).1
 ·rw [i2]
  rcases hs with hs | hs
  ·obtain ⟨r, hr⟩ := Option.isSome_iff_exists.1 hs
   exact .inl ⟨r, lk_some hr⟩
  ·obtain ⟨r, hr⟩ := Option.isSome_iff_exists.1 hs
   exact .inr ⟨r, lk_some hr⟩
theorem good_of {rs : List RW} : ∀ {last : Int}, Rise rs → (∀ r ∈ rs, last < r.1 ∧ r.1 ≤ 2147483647) → (∀ r ∈ rs, ∀ x ∈ r.2, wideB x = false) → goodRows last rs = true := by
 induction rs with
 | nil => intros; rfl
 | cons r rs ih =>
  intro last hr hi hw
  have k := List.pairwise_cons.1 hr
  have h1 := hi r (List.mem_cons_self ..)
  unfold goodRows
  rw [ih k.2 (fun s hs => ⟨k.1 s hs, (hi s (List.mem_cons_of_mem _ hs)).2⟩) (fun s hs => hw s (List.mem_cons_of_mem _ hs))]
  have h2 : r.2.any wideB = false := by
   rw [List.any_eq_false]
   intro x hx
   rw [hw r (List.mem_cons_self ..) x hx]
   decide
  rw [h2, decide_eq_false (by omega), decide_eq_false (by omega)]
  rfl
theorem PL.row_of {r : RW} (h : r.2.length = 14) (hf : r.2.getD 6 0 = 0 ∨ r.2.getD 6 0 = 1) : (PL.of r).row = r := by
 obtain ⟨id, l⟩ := r
 obtain ⟨a0, a1, a2, a3, a4, a5, a6, a7, a8, a9, a10, a11, a12, a13, rfl⟩ := list14 h
 have hf : a6 = 0 ∨ a6 = 1 := hf
 rcases hf with rfl | rfl <;> rfl
theorem SH.row_of {r : RW} (h : r.2.length = 10) (hf : r.2.getD 9 0 = 0 ∨ r.2.getD 9 0 = 1) : (SH.of r).row = r := by
 obtain ⟨id, l⟩ := r
 obtain ⟨a0, a1, a2, a3, a4, a5, a6, a7, a8, a9, rfl⟩ := list10 h
 have hf : a9 = 0 ∨ a9 = 1 := hf
 rcases hf with rfl | rfl <;> rfl
theorem map_back {α : Type} {f : α → RW} {g : RW → α} : ∀ {rs : List RW}, (∀ r ∈ rs, f (g r) = r) → (rs.map g).map f = rs
 | [], _ => rfl
 | r :: rs, h => by rw [List.map_cons, List.map_cons, h r (List.mem_cons_self ..), map_back fun s hs => h s (List.mem_cons_of_mem _ hs)]
theorem unp_inj : ∀ {l r : List Nat}, (∀ x ∈ l, x < 256) → (∀ x ∈ r, x < 256) → unp l = unp r → l = r
 | [], [], _, _, _ => rfl
 | [], y :: r, _, _, h => by have := congrArg List.length h; rw [unp_len, unp_len] at this; simp at this
 | x :: l, [], _, _, h => by have := congrArg List.length h; rw [unp_len, unp_len] at this; simp at this
 | x :: l, y :: r, h1, h2, h => by
  have e1 : unp (x :: l) = nbits x 8 ++ unp l := rfl
  have e2 : unp (y :: r) = nbits y 8 ++ unp r := rfl
  rw [e1, e2] at h
  obtain ⟨h3, h4⟩ := List.append_inj h (by rw [nbits_len, nbits_len])
  have h5 := congrArg numB h3
  rw [numB_nbits, numB_nbits] at h5
  have a1 := h1 x (List.mem_cons_self ..)
  have a2 := h2 y (List.mem_cons_self ..)
  have : x = y := by omega
  rw [this, unp_inj (fun z hz => h1 z (List.mem_cons_of_mem _ hz)) (fun z hz => h2 z (List.mem_cons_of_mem _ hz)) h4]
/-- Bytes that make a state are what its change is written as1. -/
theorem apply_inv {ps qs : List PL} {ss ts : List SH} {bytes : List Nat} (h256 : ∀ x ∈ bytes, x < 256) (h : ApplyR ps ss bytes qs ts 0) : rightS ps ss = true ∧ rightS qs ts = true ∧ deltaL ps ss qs ts = bytes := by
 rcases h with ⟨_, _, _, h⟩ | ⟨h1, a1, e1, r1, a2, e2, r2, k1, k2, k3, k4⟩
 ·cases h
 obtain ⟨m1, m2⟩ := failF_0 (by decide) k3.symm
 obtain ⟨m3, rfl⟩ := failF_0 (by decide) m2
 have m3 := of_decide_eq_true m3
 have b1 := right_pl h1
 have b2 := right_sh h1
 have l1 := read_len k1 (Nat.zero_le _)
 have l2 := read_len k2 l1.2
 obtain ⟨n1, n2, n3, n4, n5⟩ := sec_inv b2 k2 l1.2
 obtain ⟨m4, rfl⟩ := failF_0 (by decide) n1
 have m4 := of_decide_eq_true m4
 obtain ⟨_, p2, p3, p4, p5⟩ := sec_inv b1 k1 (Nat.zero_le _)
 rcases k4 with ⟨k, _⟩ | ⟨_, rfl, rfl⟩
 ·exact absurd rfl k
 have q1 : (r1.map PL.of).map PL.row = r1 := map_back fun r hr => PL.row_of (p3 r hr).1 ((p3 r hr).2.2 6 rfl)
 have q2 : (r2.map SH.of).map SH.row = r2 := map_back fun r hr => SH.row_of (n3 r hr).1 ((n3 r hr).2.2 9 rfl)
 have hR : rightS (r1.map PL.of) (r2.map SH.of) = true := by
  unfold rightS rightB
  rw [q1, q2, good_of p2 p4 (fun r hr => (p3 r hr).2.1), good_of n2 n4 (fun r hr => (n3 r hr).2.1), decide_eq_true m3, decide_eq_true m4]
  rfl
 refine ⟨h1, hR, ?_⟩
 rw [deltaL_yes h1 hR]
 have hD : unp bytes = deltaB ps ss (r1.map PL.of) (r2.map SH.of) ++ (unp bytes).drop a2 := by
  unfold deltaB
  rw [q1, q2, List.append_assoc, ← n5, ← p5]
  rfl
 unfold restB at m1
 rw [Bool.and_eq_true, decide_eq_true_eq, List.all_eq_true] at m1
 obtain ⟨z, hz, hU⟩ := unp_pack (deltaB ps ss (r1.map PL.of) (r2.map SH.of))
 have hzero : (unp bytes).drop a2 = List.replicate ((unp bytes).length - a2) false := by
  refine List.eq_replicate_iff.2 ⟨by rw [List.length_drop], fun b hb => ?_⟩
  have := m1.1 b hb
  simpa using this
 have hlen := congrArg List.length hD
 have hlen2 := congrArg List.length hU
 rw [List.length_append, List.length_drop, unp_len] at hlen
 rw [List.length_append, List.length_replicate, unp_len] at hlen2
 refine unp_inj (fun x hx => ?_) h256 ?_
 ·obtain ⟨i, _, rfl⟩ := List.mem_map.1 hx
  exact oct_lt _
 ·rw [hU, hD, hzero]
  congr 2
  rw [unp_len] at m1 ⊢
  omega
/-! ### Cut off -/
theorem cut_ok {B : List Bool} {L a k : Nat} (hL : L ≤ B.length) (h : a + k ≤ L) : getB (B.take L) a k = getB B a k ∧ okB (B.take L) a k = okB B a k ∧ toB (B.take L) a k = toB B a k := by
 have hl : (B.take L).length = L := by rw [List.length_take]; omega
 unfold getB okB toB
 rw [hl, if_pos h, if_pos (by omega), if_pos h, if_pos (by omega), decide_eq_true h, decide_eq_true (by omega)]
 refine ⟨?_, rfl, rfl⟩
 rw [List.drop_take, List.take_take, Nat.min_eq_left (by omega)]
theorem cut_no {B : List Bool} {L a k : Nat} (hL : L ≤ B.length) (h : L < a + k) : okB (B.take L) a k = false := by
 have hl : (B.take L).length = L := by rw [List.length_take]; omega
 unfold okB
 rw [hl]
 exact decide_eq_false (by omega)
theorem cut_more {B : List Bool} {L a : Nat} {e : Int} (hL : L ≤ B.length) (h : a + 1 ≤ L) : moreV (B.take L) a e = moreV B a e := by
 obtain ⟨h1, h2, _⟩ := cut_ok hL h
 unfold moreV
 rw [h1, h2]
theorem cut_nomore {B : List Bool} {L a : Nat} (hL : L ≤ B.length) (h : L < a + 1) : moreV (B.take L) a 0 = false := by
 unfold moreV
 rw [cut_no hL h]
 simp [failF]
theorem err_nomore {B : List Bool} {a : Nat} {e : Int} (h : e ≠ 0) : moreV B a e = false := by
 unfold moreV
 rw [failF_no h, decide_eq_false h, Bool.and_false]
theorem chgF_cut {B : List Bool} {L : Nat} {fl : Int} {s : CS} (hL : L ≤ B.length) (hs : s.a ≤ L) (he : s.e = 0) : ∀ k, (chgF B fl k s).e = 0 → ((chgF B fl k s).a ≤ L → chgF (B.take L) fl k s = chgF B fl k s) ∧ (L < (chgF B fl k s).a → (chgF (B.take L) fl k s).e = 2) := by
 intro k
 induction k with
 | zero => intro _; exact ⟨fun _ => rfl, fun h => by exact absurd h (by show ¬ L < s.a; omega)⟩
 | succ k ih =>
  intro h
  have hpre := chgStep_e (by rw [chgF_succ] at h; exact h)
  obtain ⟨i1, i2⟩ := ih hpre
  have hmono : (chgF B fl k s).a ≤ (chgF B fl (k + 1) s).a := by
   rw [chgF_succ]
   exact (chgStep_ok (chgF_ok (by omega) k).1).2.1
  rw [chgF_succ] at h hmono ⊢
  rw [chgF_succ]
  have two : ∀ t : CS, t.e = 2 → (chgStep (B.take L) fl k t).e = 2 := fun t ht => by
   unfold chgStep
   rw [if_pos (err_nomore (by rw [ht]; decide))]
   dsimp only
   rw [failF_no (by rw [ht]; decide), ht]
  rcases Nat.lt_or_ge L (chgF B fl k s).a with hlt | hge
  ·exact ⟨fun h9 => by omega, fun _ => two _ (i2 hlt)⟩
  ·have e1 := i1 hge
   rw [e1]
   generalize chgF B fl k s = t at *
   obtain ⟨ta, te, tso, tfs⟩ := t
   dsimp only at *
   subst hpre
   rcases Nat.lt_or_ge L (ta + 1) with h1 | h1
   ·have hm := cut_nomore (a := ta) hL h1
    have hN : (chgStep (B.take L) fl k ⟨ta, 0, tso, tfs⟩).e = 2 := by
     unfold chgStep
     rw [if_pos hm]
     dsimp only
     rw [cut_no hL h1]
     rfl
    refine ⟨fun h9 => ?_, fun _ => hN⟩
    exfalso
    unfold chgStep at h h9
    dsimp only at h h9
    split at h
    ·rename_i hq
     rw [if_pos hq] at h9
     dsimp only at h h9
     have := (bit_inv h).2.2.1
     omega
    ·rename_i hq
     have hq1 : moreV B ta 0 = true := by simpa using hq
     have := more_lt hq1
     rw [if_neg hq] at h9
     split at h9
     ·dsimp only at h9; omega
     ·dsimp only at h9
      have h8 := toB_ge (k := 32) (toB_le B ta 1)
      omega
   ·obtain ⟨c1, c2, c3⟩ := cut_ok (a := ta) (k := 1) hL h1
    have cm := cut_more (a := ta) (e := 0) hL h1
    unfold chgStep at h ⊢
    dsimp only at h ⊢
    rw [cm]
    by_cases hq : moreV B ta 0 = false
    ·rw [if_pos hq] at h ⊢
     rw [if_pos hq, c2, c3]
     dsimp only at h ⊢
     have := (bit_inv h).2.2.1
     exact ⟨fun _ => rfl, fun h9 => by omega⟩
    ·have hq1 : moreV B ta 0 = true := by simpa using hq
     have hml := more_lt hq1
     rw [if_neg hq] at h ⊢
     rw [if_neg hq]
     by_cases cf : (k : Int) = fl
     ·rw [if_pos cf, if_pos cf, c2, c3]
      dsimp only
      exact ⟨fun _ => rfl, fun h9 => by omega⟩
     ·rw [if_neg cf] at h ⊢
      rw [if_neg cf, c2, c3]
      dsimp only at h ⊢
      obtain ⟨_, g2⟩ := failF_0 (by decide) h
      obtain ⟨g3, g4⟩ := failF_0 (by decide) g2
      have g5 := rd_inv g3
      rw [hml.2.1] at g5 ⊢
      rcases Nat.lt_or_ge L (ta + 1 + 32) with h2 | h2
      ·refine ⟨fun h9 => by omega, fun _ => ?_⟩
       rw [g4, cut_no hL h2]
       rw [failF_no (e := failF false 2 0) (by decide)]
       rfl
      ·obtain ⟨d1, d2, d3⟩ := cut_ok (a := ta + 1) (k := 32) hL h2
       rw [d1, d2, d3]
       exact ⟨fun _ => rfl, fun h9 => by omega⟩
theorem ReadR.cut {B : List Bool} {nf : Nat} {fl : Int} {rb : List RW} {L : Nat} (hL : L ≤ B.length) {a : Nat} {e last : Int} {rs : List RW} {a' : Nat} {e' : Int} {rs' : List RW} (h : ReadR B nf fl rb a e last rs a' e' rs') : e' = 0 → a ≤ L →
  (a' ≤ L → ReadR (B.take L) nf fl rb a e last rs a' e' rs') ∧ (L < a' → ∀ a2 e2 r2, ReadR (B.take L) nf fl rb a e last rs a2 e2 r2 → e2 = 2) := by
 have three : ∀ {a : Nat} {e last : Int} {rs : List RW} {a2 : Nat} {e2 : Int} {r2 : List RW}, e = 0 → L < a + 1 → ReadR (B.take L) nf fl rb a e last rs a2 e2 r2 → e2 = 2 := fun {a e last rs a2 e2 r2} he hlt h => by
  subst he
  have hm := cut_nomore hL hlt
  cases h with
  | stop _ => rw [cut_no hL hlt]; rfl
  | gone k _ _ => rw [hm] at k; cases k
  | made k _ _ => rw [hm] at k; cases k
 have made2 : ∀ {a : Nat} {last : Int} {rs : List RW} {a2 : Nat} {e2 : Int} {r2 : List RW}, moreV (B.take L) a 0 = true → failF (okB (B.take L) (aft (B.take L) a) 1) 2 (err3 (B.take L) a 0 last) = 2 → moreV (B.take L) (aft (B.take L) a) (err3 (B.take L) a 0 last) = false → ReadR (B.take L) nf fl rb a 0 last rs a2 e2 r2 → e2 = 2 := fun {a last rs a2 e2 r2} hm hf hm2 h => by
  cases h with
  | stop k => rw [hm] at k; cases k
  | gone _ k _ => rw [hm2] at k; cases k
  | made _ _ k =>
   have h2 : (chgOf (B.take L) nf fl rb a 0 last).e = 2 := by
    unfold chgOf
    rw [chgF_e (by dsimp only; rw [hf]; decide)]
    exact hf
   have := (ReadR.err k (by rw [h2, failF_no (by decide)]; decide)).1
   rw [this, h2, failF_no (by decide)]
 have ahead : ∀ {a : Nat} {last : Int}, moreV B a 0 = true → a ≤ L → err3 B a 0 last = 0 → okB B (aft B a) 1 = true →
   (aft B a = a + 32 ∧ toB B (aft B a) 1 = a + 33) ∧ (a + 33 ≤ L → aft (B.take L) a = aft B a ∧ idOf (B.take L) a = idOf B a ∧ err3 (B.take L) a 0 last = 0 ∧ moreV (B.take L) a 0 = true ∧ okB (B.take L) (aft B a) 1 = true ∧ toB (B.take L) (aft B a) 1 = toB B (aft B a) 1 ∧ moreV (B.take L) (aft B a) 0 = moreV B (aft B a) 0) ∧
   (L < a + 33 → ∀ (rs : List RW) (a2 : Nat) (e2 : Int) (r2 : List RW), ReadR (B.take L) nf fl rb a 0 last rs a2 e2 r2 → e2 = 2) := fun {a last} hm ha herr hok => by
  obtain ⟨a1, a2, _⟩ := more_lt hm
  have c3 := herr
  unfold err3 at c3
  obtain ⟨c4, c5⟩ := failF_0 (by decide) c3
  obtain ⟨c6, _⟩ := failF_0 (by decide) c5
  obtain ⟨_, d2, d3⟩ := rd_inv c6
  have d2' : aft B a = toB B a 1 + 31 := d2
  rw [a2] at d2' d3 c6
  obtain ⟨_, t2, t3⟩ := rd_inv hok
  refine ⟨⟨by omega, by omega⟩, fun hle => ?_, fun hlt rs b2 e2 r2 h => ?_⟩
  ·obtain ⟨p1, p2, p3⟩ := cut_ok (a := a) (k := 1) hL (by omega)
   obtain ⟨q1, q2, q3⟩ := cut_ok (a := a + 1) (k := 31) hL (by omega)
   obtain ⟨u1, u2, u3⟩ := cut_ok (a := aft B a) (k := 1) hL (by omega)
   have h1 : aft (B.take L) a = aft B a := by unfold aft; rw [p3, a2, q3]
   have h2 : idOf (B.take L) a = idOf B a := by unfold idOf; rw [p3, a2, q1]
   refine ⟨h1, h2, ?_, by rw [cut_more hL (by omega)]; exact hm, by rw [u2]; exact hok, u3, cut_more hL (by omega)⟩
   refine Eq.trans ?_ herr
   unfold err3
   rw [h2, p2, p3, a2, q2]
  ·rcases Nat.lt_or_ge L (a + 1) with h1 | h1
   ·exact three rfl h1 h
   ·obtain ⟨p1, p2, p3⟩ := cut_ok (a := a) (k := 1) hL h1
    have hm' : moreV (B.take L) a 0 = true := by rw [cut_more hL h1]; exact hm
    have ok1 : okB B a 1 = true := decide_eq_true a1
    rcases Nat.lt_or_ge L (a + 32) with h2 | h2
    ·have he : err3 (B.take L) a 0 last = 2 := by
      unfold err3
      rw [p2, p3, a2, ok1, cut_no (a := a + 1) (k := 31) hL (by omega), failF_ok]
      rw [failF_no (e := failF false 2 0) (by decide)]
      rfl
     exact made2 hm' (by rw [he, failF_no (by decide)]) (by rw [he]; exact err_nomore (by decide)) h
    ·obtain ⟨q1, q2, q3⟩ := cut_ok (a := a + 1) (k := 31) hL (by omega)
     have g1 : aft (B.take L) a = aft B a := by unfold aft; rw [p3, a2, q3]
     have g2 : idOf (B.take L) a = idOf B a := by unfold idOf; rw [p3, a2, q1]
     have he : err3 (B.take L) a 0 last = 0 := by
      refine Eq.trans ?_ herr
      unfold err3
      rw [g2, p2, p3, a2, q2]
     refine made2 hm' ?_ ?_ h
     ·rw [he, g1, cut_no hL (by omega)]; rfl
     ·rw [he, g1]; exact cut_nomore hL (by omega)
 induction h with
 | @stop a e last rs hm =>
  intro he ha
  obtain ⟨e0, b1, b2, b3, b4⟩ := bit_inv he
  subst e0
  refine ⟨fun hle => ?_, fun hlt a2 e2 r2 h => three rfl (by omega) h⟩
  obtain ⟨c1, c2, c3⟩ := cut_ok (a := a) (k := 1) hL (by omega)
  have := ReadR.stop (B := B.take L) (nf := nf) (fl := fl) (rb := rb) (a := a) (e := 0) (last := last) (rs := rs) (by rw [cut_more hL (by omega)]; exact hm)
  rw [c2, c3] at this
  exact this
 | @gone a e last rs a' e' rs' h1 h2 hr ih =>
  intro he ha
  obtain ⟨a1, a2, rfl⟩ := more_lt h1
  obtain ⟨c1, c2, herr⟩ := more_lt h2
  have hok : okB B (aft B a) 1 = true := decide_eq_true c1
  obtain ⟨⟨x1, x2⟩, x3, x4⟩ := ahead h1 ha herr hok
  have hge := (read_len hr (toB_le _ _ _)).1
  rw [x2] at hge
  rcases Nat.lt_or_ge L (a + 33) with hlt | hge2
  ·exact ⟨fun h9 => by omega, fun _ b2 e2 r2 h => x4 hlt _ _ _ _ h⟩
  ·obtain ⟨y1, y2, y3, y4, y5, y6, y7⟩ := x3 hge2
   obtain ⟨i1, i2⟩ := ih he (by rw [x2]; exact hge2)
   rw [herr] at h2 i1 i2
   refine ⟨fun hle => ReadR.gone y4 (by rw [y1, y3, y7]; exact h2) (by rw [y1, y2, y3, y5, y6, ← hok]; exact i1 hle), fun hlt b2 e2 r2 h => ?_⟩
   cases h with
   | stop k => rw [y4] at k; cases k
   | gone _ _ k => rw [y1, y2, y3, y5, y6, ← hok] at k; exact i2 hlt _ _ _ k
   | made _ k _ => rw [y1, y3, y7, h2] at k; cases k
 | @made a e last rs a' e' rs' h1 h2 hr ih =>
  intro he ha
  obtain ⟨a1, a2, rfl⟩ := more_lt h1
  have hx : failF ((chgOf B nf fl rb a 0 last).so || !hasR rb (idOf B a)) 3 (chgOf B nf fl rb a 0 last).e = 0 := by
   refine Classical.byContradiction fun hne => ?_
   have := (ReadR.err hr hne).1
   rw [he] at this
   exact hne this.symm
  obtain ⟨z1, z2⟩ := failF_0 (by decide) hx
  have h3 : failF (okB B (aft B a) 1) 2 (err3 B a 0 last) = 0 := by
   refine Classical.byContradiction fun hne => ?_
   have := chgF_e (B := B) (fl := fl) (s := ⟨toB B (aft B a) 1, failF (okB B (aft B a) 1) 2 (err3 B a 0 last), false, fndR nf rb (idOf B a)⟩) hne nf
   unfold chgOf at z2
   rw [this] at z2
   exact hne z2
  obtain ⟨hok, herr⟩ := failF_0 (by decide) h3
  obtain ⟨⟨x1, x2⟩, x3, x4⟩ := ahead h1 ha herr hok
  have hC : chgOf B nf fl rb a 0 last = chgF B fl nf ⟨a + 33, 0, false, fndR nf rb (idOf B a)⟩ := by
   unfold chgOf
   rw [h3, x2]
  have hok2 := chgF_ok (B := B) (fl := fl) (s := ⟨a + 33, 0, false, fndR nf rb (idOf B a)⟩) (by have := toB_le B (aft B a) 1; dsimp only; omega) nf
  have hge := (read_len hr (by rw [hC]; exact hok2.1)).1
  rw [hC] at hge
  have hge3 : a + 33 ≤ (chgF B fl nf ⟨a + 33, 0, false, fndR nf rb (idOf B a)⟩).a := hok2.2.1
  rcases Nat.lt_or_ge L (a + 33) with hlt | hge2
  ·exact ⟨fun h9 => by omega, fun _ b2 e2 r2 h => x4 hlt _ _ _ _ h⟩
  ·obtain ⟨y1, y2, y3, y4, y5, y6, y7⟩ := x3 hge2
   have hC2 : chgOf (B.take L) nf fl rb a 0 last = chgF (B.take L) fl nf ⟨a + 33, 0, false, fndR nf rb (idOf B a)⟩ := by
    unfold chgOf
    rw [y1, y2, y3, y5, y6, x2, failF_ok]
   obtain ⟨w1, w2⟩ := chgF_cut (fl := fl) (s := ⟨a + 33, 0, false, fndR nf rb (idOf B a)⟩) hL hge2 rfl nf (by rw [← hC]; exact z2)
   rw [herr] at h2
   rcases Nat.lt_or_ge L (chgF B fl nf ⟨a + 33, 0, false, fndR nf rb (idOf B a)⟩).a with hlt2 | hge4
   ·refine ⟨fun h9 => by omega, fun _ b2 e2 r2 h => ?_⟩
    have h2e := w2 hlt2
    cases h with
    | stop k => rw [y4] at k; cases k
    | gone _ k _ => rw [y1, y3, y7, h2] at k; cases k
    | made _ _ k =>
     have := (ReadR.err k (by rw [hC2, h2e, failF_no (by decide)]; decide)).1
     rw [this, hC2, h2e, failF_no (by decide)]
   ·have w3 := w1 hge4
    obtain ⟨i1, i2⟩ := ih he (by rw [hC]; exact hge4)
    rw [hC] at i1 i2
    refine ⟨fun hle => ReadR.made y4 (by rw [y1, y3, y7]; exact h2) (by rw [hC2, w3, y2]; exact i1 hle), fun hlt b2 e2 r2 h => ?_⟩
    cases h with
    | stop k => rw [y4] at k; cases k
    | gone _ k _ => rw [y1, y3, y7, h2] at k; cases k
    | made _ _ k => rw [hC2, w3, y2] at k; exact i2 hlt _ _ _ k
end Go.Proofs.YtfccnoccfhgcbaaGreatDoor
namespace Go.Proofs.YtfccnoccfhgcbaaGreatDoor
open Go Go.RowKit

section
variable {P : Program} {S : World → Prop} {ops : Array Oper} {Q : Exit → Act → World → Prop} {n : Nat} {rest : List Oper} {w0 w : World} {M : Nat → Prop} {E E' : List Ent} {L L' : Slots} {d ty : Nat} {dst : Option Nat} {pos : String} {af : Array Edge} {x y z : Operand} {v u : Value} {t t' e sz bytes m cap c : Nat} {g : Option (Nat × Bool)} {A A2 : Option Addr}

def strB (l : List Nat) : ByteArray := strOfNums (l.map fun x : Nat => (x : Int))
theorem strB_list (l : List Nat) : (strB l).toList = l.map UInt8.ofNat := by
 unfold strB strOfNums
 rw [ByteArray.toList_mk, List.map_map]
 rfl
theorem strB_inj {l r : List Nat} (hl : ∀ x ∈ l, x < 256) (hr : ∀ x ∈ r, x < 256) : ((strB l).toList == (strB r).toList) = decide (l = r) := by
 rw [strB_list, strB_list, Bool.eq_iff_iff, beq_iff_eq, decide_eq_true_iff]
 refine ⟨fun h => ?_, fun h => by rw [h]⟩
 have key : ∀ k : List Nat, (∀ x ∈ k, x < 256) → (k.map UInt8.ofNat).map UInt8.toNat = k := fun k hk => by
  rw [List.map_map]
  refine (List.map_congr_left fun x hx => ?_).trans (List.map_id k)
  have := hk x hx
  simp
  omega
 rw [← key l hl, ← key r hr, h]
/-- Bytes, as1 a string. -/
theorem rd_bstr {l : List Nat} (hs : P.underlying t = some (.slice e)) (he : P.underlying e = some (.int .u8)) (hd : P.underlying t' = some .string) (hx : opv L x = some (.slice A m cap)) (hsl : ∀ w, S w → Sl w none' A m 1 (u8s l)) : Rd P S n L ⟨dst, .convert t t' x, ty, pos, af, g⟩ (.string (strB l)) := fun a w hA hS => by
 have h := hsl w hS
 have hlen : l.length = m := by have := h.len; rw [u8s_len] at this; omega
 simp only [execOp, hA.eval hx]
 cases A with
 | none =>
  have h0 : m = 0 := by
   rcases Nat.eq_zero_or_pos m with h0 | h0
   ·exact h0
   ·have := h.plain h0
    cases this
  subst h0
  have : l = [] := List.length_eq_zero_iff.1 hlen
  subst this
  rw [Sem.run_bind, run_convert_bytes_nil w t e hs he 0 cap t' hd]
  rfl
 | some ad =>
  have hl : (loadCells ad m).run P w = .ok ((l.map fun x : Nat => (x : Int)).map (Value.int .u8)).toArray w := by
   have := run_loadCells_list (P := P) (w := w) ad (u8s l) (fun j v hj => by
    have hjl : j < l.length := by
     have := (List.getElem?_eq_some_iff.1 hj).1
     rwa [u8s_len] at this
    have hp := h.plain (by omega)
    have hc := h.cell j (by omega)
    rw [hj] at hc
    unfold plainA ab ao at hp
    obtain ⟨b, o, s⟩ := ad
    have hs : s = none := by cases hp; rfl
    subst hs
    rw [← hc]
    unfold Addr.add
    split
    ·rename_i h0; subst h0; rfl
    ·rfl)
   rw [u8s_len, hlen] at this
   rw [this]
   congr 2
   unfold u8s
   rw [List.map_map]
   rfl
  have hr : (convert t t' (.slice (some ad) m cap)).run P w = .ok (.string (strB l)) w := by
   rw [run_convert_bytes_string w t t' e _ m cap hs he hd, run_bytesToString w _ m cap _ hl, foldl_push_bytes]
   unfold strB strOfNums
   simp [ByteArray.empty, ByteArray.emptyWithCapacity]
   rfl
  rw [Sem.run_bind, hr]
  rfl
theorem rd_streq {l r : List Nat} (hx : opv L x = some (.string (strB l))) (hy : opv L y = some (.string (strB r))) (hl : ∀ x ∈ l, x < 256) (hr : ∀ x ∈ r, x < 256) : Rd P S n L ⟨dst, .binOp .eql t x y t', ty, pos, af, g⟩ (.bool (decide (l = r))) :=
 rd_bin hx hy fun w => by simp only [Sem.run_bind, eqGuard_str, Result.andThen_ok, binOp_string_eql, strB_inj hl hr, Sem.run_pure]
end
end Go.Proofs.YtfccnoccfhgcbaaGreatDoor
namespace Go.Proofs.YtfccnoccfhgcbaaGreatDoor
open Go Go.RowKit

theorem back_cut {ps qs qs' : List PL} {ss ts ts' : List SH} {k : Nat} {err : Int} (h1 : rightS ps ss = true) (h2 : rightS qs ts = true) (hk : k < (deltaL ps ss qs ts).length) (h : ApplyR ps ss ((deltaL ps ss qs ts).take k) qs' ts' err) : err = 2 := by
 rw [deltaL_yes h1 h2] at h hk
 obtain ⟨z, hz, hU⟩ := unp_pack (deltaB ps ss qs ts)
 have hT : unp ((pack (deltaB ps ss qs ts)).take k) = (unp (pack (deltaB ps ss qs ts))).take (k * 8) := by
  have e := List.take_append_drop k (pack (deltaB ps ss qs ts))
  have e2 : unp (pack (deltaB ps ss qs ts)) = unp ((pack (deltaB ps ss qs ts)).take k) ++ unp ((pack (deltaB ps ss qs ts)).drop k) := by
   conv => lhs; rw [← e]
   unfold unp
   rw [List.flatMap_append]
  have hl : (unp ((pack (deltaB ps ss qs ts)).take k)).length = k * 8 := by rw [unp_len, List.length_take]; omega
  rw [e2, ← hl, List.take_left]
 have hDl : (deltaB ps ss qs ts).length = (writeB 14 6 (ps.map PL.row) (qs.map PL.row)).length + (writeB 10 9 (ss.map SH.row) (ts.map SH.row)).length := by unfold deltaB; rw [List.length_append]
 have hB2 := hU
 unfold deltaB at hB2
 rw [List.append_assoc] at hB2
 have p1 := read_sec' (right_pl h1) (right_pl h2) (B := unp (pack (deltaB ps ss qs ts))) (a := 0) hB2
 have p2 := read_sec' (right_sh h1) (right_sh h2) (B := unp (pack (deltaB ps ss qs ts))) (a := 0 + (writeB 14 6 (ps.map PL.row) (qs.map PL.row)).length) (S := List.replicate z false) (by rw [show unp (pack (deltaB ps ss qs ts)) = _ from hB2, Nat.zero_add, List.drop_left])
 rw [pack_len] at hk
 have hL : k * 8 < (deltaB ps ss qs ts).length := by omega
 have hLB : k * 8 ≤ (unp (pack (deltaB ps ss qs ts))).length := by rw [hU, List.length_append]; omega
 rcases h with ⟨h, _⟩ | ⟨_, a1, e1, r1, a2, e2, r2, k1, k2, k3, _⟩
 ·rw [h1] at h; cases h
 rw [hT] at k1 k2 k3
 have f1 : failF (decide (((qs.map PL.row).length : Int) ≤ 8)) 3 0 = 0 := by rw [decide_eq_true (right_pl h2).few, failF_ok]
 obtain ⟨c1, c2⟩ := p1.cut hLB rfl (Nat.zero_le _)
 have he2 : e2 = 2 := by
  rcases Nat.lt_or_ge (k * 8) (0 + (writeB 14 6 (ps.map PL.row) (qs.map PL.row)).length) with hlt | hge
  ·have := c2 hlt _ _ _ k1
   subst this
   have h9 := (ReadR.err k2 (by rw [failF_no (by decide)]; decide)).1
   rw [h9, failF_no (by decide)]
  ·obtain ⟨rfl, rfl, rfl⟩ := k1.uniq (c1 hge)
   rw [f1] at k2
   exact (p2.cut hLB rfl hge).2 (by omega) _ _ _ k2
 rw [k3, he2, failF_no (e := failF _ 3 2) (by rw [failF_no (by decide)]; decide), failF_no (by decide)]
theorem back_more {ps qs qs' : List PL} {ss ts ts' : List SH} {err : Int} (h1 : rightS ps ss = true) (h2 : rightS qs ts = true) (h : ApplyR ps ss (deltaL ps ss qs ts ++ [0]) qs' ts' err) : err = 3 := by
 rw [deltaL_yes h1 h2] at h
 obtain ⟨z, hz, hU⟩ := unp_pack (deltaB ps ss qs ts)
 have hB : unp (pack (deltaB ps ss qs ts) ++ [0]) = deltaB ps ss qs ts ++ (List.replicate z false ++ nbits 0 8) := by
  rw [← List.append_assoc, ← hU]
  unfold unp
  rw [List.flatMap_append]
  rfl
 have k := (apply_fwd h1 h2 hB h).1
 have hr : restB (unp (pack (deltaB ps ss qs ts) ++ [0])) (deltaB ps ss qs ts).length = false := by
  unfold restB
  rw [hB, List.length_append, List.length_append, nbits_len, decide_eq_false (by omega), Bool.and_false]
 rw [k, hr]
 rfl
theorem apply_err {ps qs : List PL} {ss ts : List SH} {bytes : List Nat} {err : Int} (h : ApplyR ps ss bytes qs ts err) (he : err ≠ 0) : qs = [] ∧ ts = [] := by
 rcases h with ⟨_, h1, h2, _⟩ | ⟨_, _, _, _, _, _, _, _, _, _, h⟩
 ·exact ⟨h1, h2⟩
 ·rcases h with ⟨_, h1, h2⟩ | ⟨h0, _⟩
  ·exact ⟨h1, h2⟩
  ·exact absurd h0 he
theorem u8s_take (l : List Nat) (j : Nat) : (u8s l).take (j * 1) = u8s (l.take j) := by
 unfold u8s
 rw [Nat.mul_one, List.map_take]
theorem more_u8s (l : List Nat) : ([] : List Value) ++ (u8s l).take (l.length * 1) ++ [.int .u8 0] = u8s (l ++ [0]) := by
 rw [u8s_take, List.take_of_length_le (Nat.le_refl _), List.nil_append]
 unfold u8s
 rw [List.map_append]
 rfl
/-- Where the bytes are cut. -/
theorem cut_at (x : Int) {n : Nat} (hn : 0 < n) : ∃ k : Nat, k < n ∧ (bits .and .i64 x 65535).tmod (n : Int) = (k : Int) := by
 have e : bits .and .i64 x 65535 = IntKind.i64.wrap ((BitVec.ofInt 64 x &&& BitVec.ofInt 64 65535).toNat : Int) := rfl
 have h1 : (BitVec.ofInt 64 65535).toNat = 65535 := rfl
 have h2 : (BitVec.ofInt 64 x &&& BitVec.ofInt 64 65535).toNat ≤ 65535 := by
  rw [BitVec.toNat_and, h1]
  exact Nat.and_le_right
 have h3 : bits .and .i64 x 65535 = ((BitVec.ofInt 64 x &&& BitVec.ofInt 64 65535).toNat : Int) := by rw [e, wrap_i64 ⟨by omega, by omega⟩]
 refine ⟨(BitVec.ofInt 64 x &&& BitVec.ofInt 64 65535).toNat % n, Nat.mod_lt _ hn, ?_⟩
 rw [h3, Int.tmod_eq_emod_of_nonneg (by omega)]
 rfl
end Go.Proofs.YtfccnoccfhgcbaaGreatDoor
namespace Go.Proofs.YtfccnoccfhgcbaaGreatDoor
open Go Go.RowKit
theorem K14 : callTy Tryz.prog 14 := by unfold callTy; kernel_rfl
theorem K15 : callTy Tryz.prog 15 := by unfold callTy; kernel_rfl
theorem c6 (w : World) (hG : Gl w none') (A1 B1 : Option Addr) (n1 m1 c1 d1 : Nat) (ps1 : List PL) (ss1 : List SH) (h1 : Sl w none' A1 n1 15 (flat PL.enc ps1)) (k1 : Sl w none' B1 m1 11 (flat SH.enc ss1)) (hc1 : n1 ≤ c1) (hd1 : m1 ≤ d1) (A2 B2 : Option Addr) (n2 m2 c2 d2 : Nat) (ps2 : List PL) (ss2 : List SH) (h2 : Sl w none' A2 n2 15 (flat PL.enc ps2)) (k2 : Sl w none' B2 m2 11 (flat SH.enc ss2)) (hc2 : n2 ≤ c2) (hd2 : m2 ≤ d2) (Ab : Option Addr) (nb cb : Nat) (lb : List Nat) (hcb : nb ≤ cb) (hb : Sl w none' Ab nb 1 (u8s lb)) (h256 : ∀ x ∈ lb, x < 256) (x3 : Int) (hx3 : -9223372036854775808 ≤ x3 ∧ x3 ≤ 9223372036854775807) (hS : St w (fpOf []) [] w) : Calls Tryz.prog 6 [.agg #[.slice A1 n1 c1, .slice B1 m1 d1], .agg #[.slice A2 n2 c2, .slice B2 m2 d2], .slice Ab nb cb, .int .i64 x3].toArray w (RtE fun v w' => ∃ x : Unit, v = (fun _ => .bool true) x ∧ (fun _ => True) x ∧ St w (fpOf []) ((fun _ => []) x) w') := by
 refine enter Tryz.func6 rfl Tryz.ntmps6 rfl hS ?_
 refine c_seq ?_
 refine c_reg ?_
 refine sx (ef_box rfl rfl rfl) rfl ?_
 rintro b4 hb4
 refine sx (ef_box rfl rfl rfl) rfl ?_
 rintro b5 hb5
 refine sA ?_
 refine s_end ?_
 refine f_then ?_
 refine c_seq ?_
 refine c_reg ?_
 refine sx (ef_call rfl rfl K14 (fun _ e => by cases e; rfl) [] _ (.refl _) _ _ _ (fun w hS => by exact c14 w (hG.hand (Ec := []) hS) hS.own)) rfl ?_
 rintro _ _
 refine sA ?_
 refine s_end ?_
 refine f_then ?_
 refine c_seq ?_
 refine c_reg ?_
 refine sq (rd_ldsb A25 rfl (by repeat constructor) (by first | exact GetR.all _ | repeat constructor)) rfl ?_
 refine sx (ef_call rfl rfl K15 (fun _ e => by cases e; rfl) [] _ (.refl _) _ _ _ (fun w hS => by exact c15 w A1 B1 n1 m1 c1 d1 ps1 ss1 (h1.hand hS (by decide)) (k1.hand hS (by decide)) hc1 hd1 hS.own)) rfl ?_
 rintro ⟨X1, x1, Y1, y1⟩ _
 refine se (ef_stores A25 rfl rfl rfl (by repeat constructor) (by first | exact SetR.all rfl | repeat constructor) rfl) rfl ?_
 refine s_end ?_
 refine f_then ?_
 refine c_seq ?_
 refine c_reg ?_
 refine sq (rd_ldsb A25 rfl (by repeat constructor) (by first | exact GetR.all _ | repeat constructor)) rfl ?_
 refine sx (ef_call rfl rfl K15 (fun _ e => by cases e; rfl) [] _ (.refl _) _ _ _ (fun w hS => by exact c15 w A2 B2 n2 m2 c2 d2 ps2 ss2 (h2.hand hS (by decide)) (k2.hand hS (by decide)) hc2 hd2 hS.own)) rfl ?_
 rintro ⟨X2, x2, Y2, y2⟩ _
 refine se (ef_stores A25 rfl rfl rfl (by repeat constructor) (by first | exact SetR.all rfl | repeat constructor) rfl) rfl ?_
 refine s_end ?_
 refine f_then ?_
 refine c_seq ?_
 refine c_seq ?_
 refine c_reg ?_
 refine sq (rd_ldsb A25 rfl (by repeat constructor) (by first | exact GetR.all _ | repeat constructor)) rfl ?_
 refine se (ef_pw rfl rfl K20 rfl (fun w hS => by exact c20 w X1 Y1 (min n1 12) (min m1 70) x1 y1 (ps1.take 12) (ss1.take 70) (hG.hand (Ec := []) hS) (Sl.ofRow' hS (by repeat constructor)) (Sl.ofRow' hS (by repeat constructor)) (by first | decide | (simp only [List.length_take]; omega) | omega) (by first | decide | (simp only [List.length_take]; omega) | omega))) rfl ?_
 refine sq ((by first | exact rd_notd rfl | exact rd_not rfl)) rfl ?_
 refine sM ?_
 refine s_split (d := 27) rfl (fun g27 => ?_) (fun g27 => ?_)
 ·try have g27p := of_decide_eq_true g27
  refine sN g27 ?_
  refine sN g27 ?_
  refine sN g27 ?_
  refine sq (rd_pick_tt rfl g27 rfl) rfl ?_
  refine s_end ?_
  refine f_then ?_
  refine c_lit_t rfl ?_
  refine c_seq ?_
  refine c_reg ?_
  refine sM ?_
  refine sA ?_
  refine s_end ?_
  refine f_then ?_
  refine c_ret ?_
  refine f_then_r ?_
  refine f_ret rfl (.tmp rfl .nil) ?_
  refine fun w' hS => ⟨_, rfl, (), ?_, trivial, hS.sub (List.nil_sublist _)⟩
  first | (simp; done) | (simp only [resVal_one]; rw [hD4]; simp)
 ·have hr1 : rightS (ps1.take 12) (ss1.take 70) = true := by simpa using g27
  try have g27p := of_decide_eq_false g27
  refine sg1 (fun a hA => wanted_yes hA rfl rfl rfl g27) (rd_ldsb A25 rfl (by repeat constructor) (by first | exact GetR.all _ | repeat constructor)) rfl ?_
  refine seg (fun a hA => wanted_yes hA rfl rfl rfl g27) (ef_pw rfl rfl K20 rfl (fun w hS => by exact c20 w X2 Y2 (min n2 12) (min m2 70) x2 y2 (ps2.take 12) (ss2.take 70) (hG.hand (Ec := []) hS) (Sl.ofRow' hS (by repeat constructor)) (Sl.ofRow' hS (by repeat constructor)) (by first | decide | (simp only [List.length_take]; omega) | omega) (by first | decide | (simp only [List.length_take]; omega) | omega))) ?_
  refine sg1 (fun a hA => wanted_yes hA rfl rfl rfl g27) ((by first | exact rd_notd rfl | exact rd_not rfl)) rfl ?_
  refine sq (rd_pick_ff rfl g27 rfl) rfl ?_
  refine s_end ?_
  refine f_then ?_
  refine c_cond rfl (fun h31 => ?_) (fun h31 => ?_)
  ·refine c_seq ?_
   refine c_reg ?_
   refine sM ?_
   refine sA ?_
   refine s_end ?_
   refine f_then ?_
   refine c_ret ?_
   refine f_then_r ?_
   refine f_ret rfl (.tmp rfl .nil) ?_
   refine fun w' hS => ⟨_, rfl, (), ?_, trivial, hS.sub (List.nil_sublist _)⟩
   first | (simp; done) | (simp only [resVal_one]; rw [hD4]; simp)
  ·have hr2 : rightS (ps2.take 12) (ss2.take 70) = true := by simpa using h31
   refine c_skip ?_
   refine f_then ?_
   refine c_seq ?_
   refine c_reg ?_
   refine sq (rd_ldsb A25 rfl (by repeat constructor) (by first | exact GetR.all _ | repeat constructor)) rfl ?_
   refine sq (rd_ldsb A25 rfl (by repeat constructor) (by first | exact GetR.all _ | repeat constructor)) rfl ?_
   refine sx (ef_call rfl rfl K23 (fun _ e => by cases e; rfl) [] _ (.refl _) _ _ _ (fun w hS => by exact c23 w X1 Y1 X2 Y2 (min n1 12) (min m1 70) (min n2 12) (min m2 70) x1 y1 x2 y2 (ps1.take 12) (ps2.take 12) (ss1.take 70) (ss2.take 70) (hG.hand (Ec := []) hS) (Sl.ofRow' hS (by repeat constructor)) (Sl.ofRow' hS (by repeat constructor)) (Sl.ofRow' hS (by repeat constructor)) (Sl.ofRow' hS (by repeat constructor)) (by first | decide | (simp only [List.length_take]; omega) | omega) (by first | decide | (simp only [List.length_take]; omega) | omega) (by first | decide | (simp only [List.length_take]; omega) | omega) (by first | decide | (simp only [List.length_take]; omega) | omega) hS.own)) rfl ?_
   rintro ⟨DA1, dc1⟩ _
   refine sA ?_
   refine s_end ?_
   refine f_then ?_
   refine c_seq ?_
   refine c_reg ?_
   refine sq (rd_ldsb A25 rfl (by repeat constructor) (by first | exact GetR.all _ | repeat constructor)) rfl ?_
   refine sM ?_
   refine sx (ef_call rfl rfl K25 (fun _ e => by cases e; rfl) [] _ (.refl _) _ _ _ (fun w hS => by exact c25 w X1 Y1 DA1 (min n1 12) (min m1 70) _ x1 y1 dc1 (ps1.take 12) (ss1.take 70) (deltaL (ps1.take 12) (ss1.take 70) (ps2.take 12) (ss2.take 70)) (hG.hand (Ec := []) hS) (Sl.ofRow' hS (by repeat constructor)) (Sl.ofRow' hS (by repeat constructor)) (Sl.ofRow' hS (by repeat constructor)) deltaL_lt (by first | decide | (simp only [List.length_take]; omega) | omega) (by first | decide | (simp only [List.length_take]; omega) | omega) (by have := deltaL_le (ps1.take 12) (ps2.take 12) (ss1.take 70) (ss2.take 70); omega) hS.own)) rfl ?_
   rintro ⟨qs1, ts1, er1, PB1, pd1, QB1, qd1⟩ ha1
   obtain ⟨rfl, rfl, rfl⟩ := apply_delta hr1 hr2 ha1
   refine sM ?_
   refine sq (rd_extract rfl rfl) rfl ?_
   refine sq (rd_extract rfl rfl) rfl ?_
   refine sx (ef_alloc Z25 rfl) rfl ?_
   rintro b11 hb11
   refine se (ef_stores A25 rfl rfl rfl (by repeat constructor) (by first | exact SetR.all rfl | repeat constructor) rfl) rfl ?_
   refine sA ?_
   refine s_end ?_
   refine f_then ?_
   refine c_seq ?_
   refine c_seq ?_
   have hpos := deltaL_pos hr1 hr2
   refine c_reg ?_
   refine sM ?_
   refine sq (rd_neq rfl rfl) rfl ?_
   refine sM ?_
   refine s_split (d := 44) rfl (fun g44 => ?_) (fun g44 => ?_)
   ·exact absurd g44 (by simp)
   ·try have g44p := of_decide_eq_false g44
    refine sg1 (fun a hA => wanted_yes hA rfl rfl rfl g44) (rd_ldsb A25 rfl (by repeat constructor) (by first | exact GetR.all _ | repeat constructor)) rfl ?_
    refine sg1 (fun a hA => wanted_yes hA rfl rfl rfl g44) (rd_ldsb A25 rfl (by repeat constructor) (by first | exact GetR.all _ | repeat constructor)) rfl ?_
    refine seg (fun a hA => wanted_yes hA rfl rfl rfl g44) (ef_pw rfl rfl K22 rfl (fun w hS => by exact c22 w PB1 QB1 X2 Y2 _ _ (min n2 12) (min m2 70) pd1 qd1 x2 y2 (ps2.take 12) (ps2.take 12) (ss2.take 70) (ss2.take 70) (Sl.ofRow' hS (by repeat constructor)) (Sl.ofRow' hS (by repeat constructor)) (Sl.ofRow' hS (by repeat constructor)) (Sl.ofRow' hS (by repeat constructor)))) ?_
    refine sg1 (fun a hA => wanted_yes hA rfl rfl rfl g44) ((by first | exact rd_notd rfl | exact rd_not rfl)) rfl ?_
    refine sq (rd_pick_ff rfl g44 rfl) rfl ?_
    refine sM ?_
    refine s_split (d := 50) rfl (fun g50 => ?_) (fun g50 => ?_)
    ·exact absurd g50 (by simp)
    ·try have g50p := of_decide_eq_false g50
     refine sg1 (fun a hA => wanted_yes hA rfl rfl rfl g50) (rd_move rfl) rfl ?_
     refine sg1 (fun a hA => wanted_yes hA rfl rfl rfl g50) (rd_len S37 rfl rfl) rfl ?_
     refine sg1 (fun a hA => wanted_yes hA rfl rfl rfl g50) (rd_eql rfl rfl) rfl ?_
     refine sq (rd_pick_ff rfl g50 rfl) rfl ?_
     refine sM ?_
     refine s_split (d := 55) rfl (fun g55 => ?_) (fun g55 => ?_)
     ·exact absurd g55 (by rw [decide_eq_true_iff]; omega)
     ·try have g55p := of_decide_eq_false g55
      refine sg1 (fun a hA => wanted_yes hA rfl rfl rfl g55) (rd_ldsb A25 rfl (by repeat constructor) (by first | exact GetR.all _ | repeat constructor)) rfl ?_
      refine sg1 (fun a hA => wanted_yes hA rfl rfl rfl g55) (rd_ldsb A25 rfl (by repeat constructor) (by first | exact GetR.all _ | repeat constructor)) rfl ?_
      refine sxg (fun a hA => wanted_yes hA rfl rfl rfl g55) (ef_call rfl rfl K23 (fun _ e => by cases e; rfl) [] _ (.refl _) _ _ _ (fun w hS => by exact c23 w X1 Y1 X1 Y1 (min n1 12) (min m1 70) (min n1 12) (min m1 70) x1 y1 x1 y1 (ps1.take 12) (ps1.take 12) (ss1.take 70) (ss1.take 70) (hG.hand (Ec := []) hS) (Sl.ofRow' hS (by repeat constructor)) (Sl.ofRow' hS (by repeat constructor)) (Sl.ofRow' hS (by repeat constructor)) (Sl.ofRow' hS (by repeat constructor)) (by first | decide | (simp only [List.length_take]; omega) | omega) (by first | decide | (simp only [List.length_take]; omega) | omega) (by first | decide | (simp only [List.length_take]; omega) | omega) (by first | decide | (simp only [List.length_take]; omega) | omega) hS.own)) ?_
      rintro ⟨DA2, dc2⟩ _
      refine sg1 (fun a hA => wanted_yes hA rfl rfl rfl g55) (rd_len S37 rfl rfl) rfl ?_
      refine sg1 (fun a hA => wanted_yes hA rfl rfl rfl g55) (rd_neq rfl rfl) rfl ?_
      refine sq (rd_pick_ff rfl g55 rfl) rfl ?_
      refine s_end ?_
      refine f_then ?_
      refine c_if rfl (fun h61 => ?_) (fun h61 => ?_)
      ·exact absurd (deltaL_self hr1) (by intro h9; rw [h9] at h61; exact h61 rfl)
      ·refine c_skip ?_
       refine f_then ?_
       refine c_meet2 (α := Unit) (fun x => True) (fun x => []) [.row _ _ DA2 _ dc2 _, .blk b11 _ _, .row _ _ PB1 _ pd1 _, .row _ _ QB1 _ qd1 _, .row _ _ DA1 _ dc1 _, .row _ _ X2 _ x2 _, .row _ _ Y2 _ y2 _, .row _ _ X1 _ x1 _, .row _ _ Y1 _ y1 _, .blk b5 _ _, .blk b4 _ _] (fun x => [(14, .int .i64 2)]) [(2, _), (4, _), (8, _), (9, _), (10, _)] (by repeat constructor) [] (fun _ h => h) ?_ ?_
       ·obtain ⟨kk, hkk, hck⟩ := cut_at x3 hpos
        refine c_know (fun _ h => (row_know (e := 5) (sz := 1) (A := DA1) (m := (deltaL (ps1.take 12) (ss1.take 70) (ps2.take 12) (ss2.take 70)).length) (cap := dc1) (by repeat constructor) _ h).2.1) (fun hcapD => ?_)
        refine c_regd [.row _ _ DA2 _ dc2 _, .blk b11 _ _, .row _ _ PB1 _ pd1 _, .row _ _ QB1 _ qd1 _, .row _ _ DA1 _ dc1 _, .row _ _ X2 _ x2 _, .row _ _ Y2 _ y2 _, .row _ _ X1 _ x1 _, .row _ _ Y1 _ y1 _, .blk b5 _ _, .blk b4 _ _] (.q 0 (.q 1 (.q 2 (.q 3 (.q 4 (.q 5 (.q 6 (.q 7 (.alt 8 (.q 9 (.q 10 (.q 11 (.alt 12 (.alt 13 (.q 14 .done) .stop) .stop)))) (.alt 12 (.alt 8 (.q 9 (.q 10 (.q 11 (.alt 13 (.q 14 .done) .stop)))) .stop) .stop)))))))))) (by kernel_rfl) (by kernel_rfl) (by kernel_rfl) (by kernel_rfl) (fun _ h => h.sb) ?_
        refine dq rfl (rd_ldsb A25 rfl (by repeat constructor) (by first | exact GetR.all _ | repeat constructor)) rfl ?_
        refine dM ?_
        refine dM ?_
        refine dq rfl (rd_and' rfl rfl rfl) rfl ?_
        refine dM ?_
        refine dq rfl (rd_len S37 rfl rfl) rfl ?_
        refine dq rfl (rd_rem rfl rfl (by omega) hck) rfl ?_
        refine dq rfl (rd_slice_hin S37 rfl rfl (by omega)) rfl ?_
        refine dx rfl rfl (ef_call rfl rfl K25 (fun _ e => by cases e; rfl) [] _ (.refl _) _ _ _ (fun w hS => by exact c25 w X1 Y1 DA1 (min n1 12) (min m1 70) kk x1 y1 dc1 (ps1.take 12) (ss1.take 70) ((deltaL (ps1.take 12) (ss1.take 70) (ps2.take 12) (ss2.take 70)).take kk) (hG.hand (Ec := []) hS) (Sl.ofRow' hS (by repeat constructor)) (Sl.ofRow' hS (by repeat constructor)) (by have h9 := Sl.take (j := kk) (show Sl w none' DA1 (deltaL (ps1.take 12) (ss1.take 70) (ps2.take 12) (ss2.take 70)).length 1 (u8s (deltaL (ps1.take 12) (ss1.take 70) (ps2.take 12) (ss2.take 70))) from (Sl.ofRow' hS (by repeat constructor))) (Nat.le_of_lt hkk); rw [u8s_take] at h9; exact h9) (fun x hx => deltaL_lt x (List.mem_of_mem_take hx)) (by first | decide | (simp only [List.length_take]; omega) | omega) (by first | decide | (simp only [List.length_take]; omega) | omega) (by have := deltaL_le (ps1.take 12) (ps2.take 12) (ss1.take 70) (ss2.take 70); omega) hS.own)) (fun _ _ _ h => h.sb) ?_ ?_
        ·rintro ⟨qs2, ts2, er2, PB2, pd2, QB2, qd2⟩ ha2
         obtain rfl := back_cut hr1 hr2 hkk ha2
         refine dM ?_
         refine dq rfl (rd_extract rfl rfl) rfl ?_
         refine dq rfl (rd_extract rfl rfl) rfl ?_
         refine dx rfl rfl (ef_alloc Z25 rfl) (fun _ _ _ h => h.sb) ?_ d_stop
         rintro b13 hb13
         refine de rfl rfl (ef_stores A25 rfl rfl rfl (by repeat constructor) (by first | exact SetR.all rfl | repeat constructor) rfl) (fun _ h => h.sb) ?_ d_stop
         refine dq rfl (rd_assign rfl) rfl ?_
         refine d_end ?_
         refine f_front (.blk b4 _ _) (by repeat constructor) ?_
         refine f_front (.blk b5 _ _) (by repeat constructor) ?_
         refine f_front (.row _ _ Y1 _ y1 _) (by repeat constructor) ?_
         refine f_front (.row _ _ X1 _ x1 _) (by repeat constructor) ?_
         refine f_front (.row _ _ Y2 _ y2 _) (by repeat constructor) ?_
         refine f_front (.row _ _ X2 _ x2 _) (by repeat constructor) ?_
         refine f_front (.row _ _ DA1 _ dc1 _) (by repeat constructor) ?_
         refine f_front (.row _ _ QB1 _ qd1 _) (by repeat constructor) ?_
         refine f_front (.row _ _ PB1 _ pd1 _) (by repeat constructor) ?_
         refine f_front (.blk b11 _ _) (by repeat constructor) ?_
         refine f_front (.row _ _ DA2 _ dc2 _) (by repeat constructor) ?_
         refine f_cut (()) (trivial) (by repeat constructor) (fun _ h => h.sb)
        refine dx rfl rfl (ef_alloc Z25 rfl) (fun _ _ _ h => h.sb) ?_ ?_
        ·rintro b13_1 hb13_1
         refine dx rfl rfl (ef_call rfl rfl K25 (fun _ e => by cases e; rfl) [] _ (.refl _) _ _ _ (fun w hS => by exact c25 w X1 Y1 DA1 (min n1 12) (min m1 70) kk x1 y1 dc1 (ps1.take 12) (ss1.take 70) ((deltaL (ps1.take 12) (ss1.take 70) (ps2.take 12) (ss2.take 70)).take kk) (hG.hand (Ec := []) hS) (Sl.ofRow' hS (by repeat constructor)) (Sl.ofRow' hS (by repeat constructor)) (by have h9 := Sl.take (j := kk) (show Sl w none' DA1 (deltaL (ps1.take 12) (ss1.take 70) (ps2.take 12) (ss2.take 70)).length 1 (u8s (deltaL (ps1.take 12) (ss1.take 70) (ps2.take 12) (ss2.take 70))) from (Sl.ofRow' hS (by repeat constructor))) (Nat.le_of_lt hkk); rw [u8s_take] at h9; exact h9) (fun x hx => deltaL_lt x (List.mem_of_mem_take hx)) (by first | decide | (simp only [List.length_take]; omega) | omega) (by first | decide | (simp only [List.length_take]; omega) | omega) (by have := deltaL_le (ps1.take 12) (ps2.take 12) (ss1.take 70) (ss2.take 70); omega) hS.own)) (fun _ _ _ h => h.sb) ?_ d_stop
         rintro ⟨qs2, ts2, er2, PB2, pd2, QB2, qd2⟩ ha2
         obtain rfl := back_cut hr1 hr2 hkk ha2
         refine dM ?_
         refine dq rfl (rd_extract rfl rfl) rfl ?_
         refine dq rfl (rd_extract rfl rfl) rfl ?_
         refine de rfl rfl (ef_stores A25 rfl rfl rfl (by repeat constructor) (by first | exact SetR.all rfl | repeat constructor) rfl) (fun _ h => h.sb) ?_ d_stop
         refine dq rfl (rd_assign rfl) rfl ?_
         refine d_end ?_
         refine f_front (.blk b4 _ _) (by repeat constructor) ?_
         refine f_front (.blk b5 _ _) (by repeat constructor) ?_
         refine f_front (.row _ _ Y1 _ y1 _) (by repeat constructor) ?_
         refine f_front (.row _ _ X1 _ x1 _) (by repeat constructor) ?_
         refine f_front (.row _ _ Y2 _ y2 _) (by repeat constructor) ?_
         refine f_front (.row _ _ X2 _ x2 _) (by repeat constructor) ?_
         refine f_front (.row _ _ DA1 _ dc1 _) (by repeat constructor) ?_
         refine f_front (.row _ _ QB1 _ qd1 _) (by repeat constructor) ?_
         refine f_front (.row _ _ PB1 _ pd1 _) (by repeat constructor) ?_
         refine f_front (.blk b11 _ _) (by repeat constructor) ?_
         refine f_front (.row _ _ DA2 _ dc2 _) (by repeat constructor) ?_
         refine f_cut (()) (trivial) (by repeat constructor) (fun _ h => h.sb)
        exact d_stop
       ·rintro _ _
        refine c_meet2 (α := Unit) (fun x => True) (fun x => []) [.row _ _ DA2 _ dc2 _, .blk b11 _ _, .row _ _ PB1 _ pd1 _, .row _ _ QB1 _ qd1 _, .row _ _ DA1 _ dc1 _, .row _ _ X2 _ x2 _, .row _ _ Y2 _ y2 _, .row _ _ X1 _ x1 _, .row _ _ Y1 _ y1 _, .blk b5 _ _, .blk b4 _ _] (fun x => [(16, .int .i64 3)]) [(14, _), (2, _), (4, _), (8, _), (9, _)] (by repeat constructor) [] (fun _ h => h) ?_ ?_
        ·refine c_regd [.row _ _ DA2 _ dc2 _, .blk b11 _ _, .row _ _ PB1 _ pd1 _, .row _ _ QB1 _ qd1 _, .row _ _ DA1 _ dc1 _, .row _ _ X2 _ x2 _, .row _ _ Y2 _ y2 _, .row _ _ X1 _ x1 _, .row _ _ Y1 _ y1 _, .blk b5 _ _, .blk b4 _ _] (.q 0 (.q 2 (.alt 1 (.alt 3 (.alt 4 (.alt 5 (.alt 6 (.q 7 (.q 8 (.q 9 (.alt 10 (.alt 11 (.q 12 .done) .stop) .stop)))) (.alt 10 (.alt 6 (.q 7 (.q 8 (.q 9 (.alt 11 (.q 12 .done) .stop)))) .stop) .stop)) (.alt 10 (.alt 5 (.alt 6 (.q 7 (.q 8 (.q 9 (.alt 11 (.q 12 .done) .stop)))) .stop) .stop) .stop)) (.alt 10 (.alt 4 (.alt 5 (.alt 6 (.q 7 (.q 8 (.q 9 (.alt 11 (.q 12 .done) .stop)))) .stop) .stop) .stop) .stop)) (.alt 4 (.alt 3 (.alt 5 (.alt 6 (.q 7 (.q 8 (.q 9 (.alt 10 (.alt 11 (.q 12 .done) .stop) .stop)))) (.alt 10 (.alt 6 (.q 7 (.q 8 (.q 9 (.alt 11 (.q 12 .done) .stop)))) .stop) .stop)) (.alt 10 (.alt 5 (.alt 6 (.q 7 (.q 8 (.q 9 (.alt 11 (.q 12 .done) .stop)))) .stop) .stop) .stop)) (.alt 10 (.alt 3 (.alt 5 (.alt 6 (.q 7 (.q 8 (.q 9 (.alt 11 (.q 12 .done) .stop)))) .stop) .stop) .stop) .stop)) (.alt 10 (.alt 3 (.alt 4 (.alt 5 (.alt 6 (.q 7 (.q 8 (.q 9 (.alt 11 (.q 12 .done) .stop)))) .stop) .stop) .stop) (.alt 4 (.alt 3 (.alt 5 (.alt 6 (.q 7 (.q 8 (.q 9 (.alt 11 (.q 12 .done) .stop)))) .stop) .stop) .stop) .stop)) .stop))) (.alt 4 (.alt 1 (.alt 3 (.alt 5 (.alt 6 (.q 7 (.q 8 (.q 9 (.alt 10 (.alt 11 (.q 12 .done) .stop) .stop)))) (.alt 10 (.alt 6 (.q 7 (.q 8 (.q 9 (.alt 11 (.q 12 .done) .stop)))) .stop) .stop)) (.alt 10 (.alt 5 (.alt 6 (.q 7 (.q 8 (.q 9 (.alt 11 (.q 12 .done) .stop)))) .stop) .stop) .stop)) (.alt 10 (.alt 3 (.alt 5 (.alt 6 (.q 7 (.q 8 (.q 9 (.alt 11 (.q 12 .done) .stop)))) .stop) .stop) .stop) .stop)) (.alt 10 (.alt 1 (.alt 3 (.alt 5 (.alt 6 (.q 7 (.q 8 (.q 9 (.alt 11 (.q 12 .done) .stop)))) .stop) .stop) .stop) .stop) .stop)) (.alt 10 (.alt 1 (.alt 3 (.alt 4 (.alt 5 (.alt 6 (.q 7 (.q 8 (.q 9 (.alt 11 (.q 12 .done) .stop)))) .stop) .stop) .stop) (.alt 4 (.alt 3 (.alt 5 (.alt 6 (.q 7 (.q 8 (.q 9 (.alt 11 (.q 12 .done) .stop)))) .stop) .stop) .stop) .stop)) (.alt 4 (.alt 1 (.alt 3 (.alt 5 (.alt 6 (.q 7 (.q 8 (.q 9 (.alt 11 (.q 12 .done) .stop)))) .stop) .stop) .stop) .stop) .stop)) .stop))))) (by kernel_rfl) (by kernel_rfl) (by kernel_rfl) (by kernel_rfl) (fun _ h => h.sb) ?_
         refine dq rfl (rd_ldsb A25 rfl (by repeat constructor) (by first | exact GetR.all _ | repeat constructor)) rfl ?_
         refine dM ?_
         refine dx rfl rfl (ef_slice Rt37 rfl (by repeat constructor) rfl rfl) (fun _ _ _ h => h.sb) ?_ ?_
         ·rintro b76 hb76
          refine d_asRow 1 0 rfl rfl ?_
          refine dx rfl rfl (ef_append Rt37 rfl rfl rfl rfl (src_row (j := (deltaL (ps1.take 12) (ss1.take 70) (ps2.take 12) (ss2.take 70)).length) (by repeat constructor) (Nat.le_refl _)) (cells_take (u8s_cells _)) (by have := deltaL_le (ps1.take 12) (ps2.take 12) (ss1.take 70) (ss2.take 70); omega) (by have := deltaL_le (ps1.take 12) (ps2.take 12) (ss1.take 70) (ss2.take 70); unfold maxLen; omega) rfl) (fun _ _ _ h => h.sb) ?_ ?_
          ·rintro ⟨FA1, fc1⟩ hF1
           refine dx rfl rfl (ef_slice Rt37 rfl (by repeat constructor) rfl rfl) (fun _ _ _ h => h.sb) ?_ ?_
           ·rintro b79 hb79
            refine d_front (.row _ _ FA1 _ fc1 _) (by repeat constructor) ?_
            refine dx rfl rfl (ef_append Rt37 rfl rfl rfl rfl (src_blk (by repeat constructor) rfl) rfl (by have := deltaL_le (ps1.take 12) (ps2.take 12) (ss1.take 70) (ss2.take 70); omega) (by have := deltaL_le (ps1.take 12) (ps2.take 12) (ss1.take 70) (ss2.take 70); unfold maxLen; omega) rfl) (fun _ _ _ h => h.sb) ?_ ?_
            ·rintro ⟨FA2, fc2⟩ hF2
             refine dx rfl rfl (ef_call rfl rfl K25 (fun _ e => by cases e; rfl) [] _ (.refl _) _ _ _ (fun w hS => by exact c25 w X1 Y1 FA2 (min n1 12) (min m1 70) _ x1 y1 fc2 (ps1.take 12) (ss1.take 70) (deltaL (ps1.take 12) (ss1.take 70) (ps2.take 12) (ss2.take 70) ++ [0]) (hG.hand (Ec := []) hS) (Sl.ofRow' hS (by repeat constructor)) (Sl.ofRow' hS (by repeat constructor)) (by have h9 := (Sl.ofRow' hS (by repeat constructor)); exact Eq.mp (congrArg (Sl w none' FA2 _ 1) (more_u8s (deltaL (ps1.take 12) (ss1.take 70) (ps2.take 12) (ss2.take 70)))) h9) (fun x hx => by rcases List.mem_append.1 hx with h | h; exact deltaL_lt x h; simp at h; omega) (by first | decide | (simp only [List.length_take]; omega) | omega) (by first | decide | (simp only [List.length_take]; omega) | omega) (by have := deltaL_le (ps1.take 12) (ps2.take 12) (ss1.take 70) (ss2.take 70); omega) hS.own)) (fun _ _ _ h => h.sb) ?_ ?_
             ·rintro ⟨qs3, ts3, er3, PB3, pd3, QB3, qd3⟩ ha3
              obtain rfl := back_more hr1 hr2 ha3
              refine dM ?_
              refine dq rfl (rd_extract rfl rfl) rfl ?_
              refine dq rfl (rd_extract rfl rfl) rfl ?_
              refine dx rfl rfl (ef_alloc Z25 rfl) (fun _ _ _ h => h.sb) ?_ d_stop
              rintro b15 hb15
              refine de rfl rfl (ef_stores A25 rfl rfl rfl (by repeat constructor) (by first | exact SetR.all rfl | repeat constructor) rfl) (fun _ h => h.sb) ?_ d_stop
              refine dq rfl (rd_assign rfl) rfl ?_
              refine d_end ?_
              refine f_front (.blk b4 _ _) (by repeat constructor) ?_
              refine f_front (.blk b5 _ _) (by repeat constructor) ?_
              refine f_front (.row _ _ Y1 _ y1 _) (by repeat constructor) ?_
              refine f_front (.row _ _ X1 _ x1 _) (by repeat constructor) ?_
              refine f_front (.row _ _ Y2 _ y2 _) (by repeat constructor) ?_
              refine f_front (.row _ _ X2 _ x2 _) (by repeat constructor) ?_
              refine f_front (.row _ _ DA1 _ dc1 _) (by repeat constructor) ?_
              refine f_front (.row _ _ QB1 _ qd1 _) (by repeat constructor) ?_
              refine f_front (.row _ _ PB1 _ pd1 _) (by repeat constructor) ?_
              refine f_front (.blk b11 _ _) (by repeat constructor) ?_
              refine f_front (.row _ _ DA2 _ dc2 _) (by repeat constructor) ?_
              refine f_cut (()) (trivial) (by repeat constructor) (fun _ h => h.sb)
             refine dx rfl rfl (ef_alloc Z25 rfl) (fun _ _ _ h => h.sb) ?_ ?_
             ·rintro b15_1 hb15_1
              refine dx rfl rfl (ef_call rfl rfl K25 (fun _ e => by cases e; rfl) [] _ (.refl _) _ _ _ (fun w hS => by exact c25 w X1 Y1 FA2 (min n1 12) (min m1 70) _ x1 y1 fc2 (ps1.take 12) (ss1.take 70) (deltaL (ps1.take 12) (ss1.take 70) (ps2.take 12) (ss2.take 70) ++ [0]) (hG.hand (Ec := []) hS) (Sl.ofRow' hS (by repeat constructor)) (Sl.ofRow' hS (by repeat constructor)) (by have h9 := (Sl.ofRow' hS (by repeat constructor)); exact Eq.mp (congrArg (Sl w none' FA2 _ 1) (more_u8s (deltaL (ps1.take 12) (ss1.take 70) (ps2.take 12) (ss2.take 70)))) h9) (fun x hx => by rcases List.mem_append.1 hx with h | h; exact deltaL_lt x h; simp at h; omega) (by first | decide | (simp only [List.length_take]; omega) | omega) (by first | decide | (simp only [List.length_take]; omega) | omega) (by have := deltaL_le (ps1.take 12) (ps2.take 12) (ss1.take 70) (ss2.take 70); omega) hS.own)) (fun _ _ _ h => h.sb) ?_ d_stop
              rintro ⟨qs3, ts3, er3, PB3, pd3, QB3, qd3⟩ ha3
              obtain rfl := back_more hr1 hr2 ha3
              refine dM ?_
              refine dq rfl (rd_extract rfl rfl) rfl ?_
              refine dq rfl (rd_extract rfl rfl) rfl ?_
              refine de rfl rfl (ef_stores A25 rfl rfl rfl (by repeat constructor) (by first | exact SetR.all rfl | repeat constructor) rfl) (fun _ h => h.sb) ?_ d_stop
              refine dq rfl (rd_assign rfl) rfl ?_
              refine d_end ?_
              refine f_front (.blk b4 _ _) (by repeat constructor) ?_
              refine f_front (.blk b5 _ _) (by repeat constructor) ?_
              refine f_front (.row _ _ Y1 _ y1 _) (by repeat constructor) ?_
              refine f_front (.row _ _ X1 _ x1 _) (by repeat constructor) ?_
              refine f_front (.row _ _ Y2 _ y2 _) (by repeat constructor) ?_
              refine f_front (.row _ _ X2 _ x2 _) (by repeat constructor) ?_
              refine f_front (.row _ _ DA1 _ dc1 _) (by repeat constructor) ?_
              refine f_front (.row _ _ QB1 _ qd1 _) (by repeat constructor) ?_
              refine f_front (.row _ _ PB1 _ pd1 _) (by repeat constructor) ?_
              refine f_front (.blk b11 _ _) (by repeat constructor) ?_
              refine f_front (.row _ _ DA2 _ dc2 _) (by repeat constructor) ?_
              refine f_cut (()) (trivial) (by repeat constructor) (fun _ h => h.sb)
             exact d_stop
            refine dx rfl rfl (ef_alloc Z25 rfl) (fun _ _ _ h => h.sb) ?_ ?_
            ·rintro b15_2 hb15_2
             refine d_front (.row _ _ FA1 _ fc1 _) (by repeat constructor) ?_
             refine dx rfl rfl (ef_append Rt37 rfl rfl rfl rfl (src_blk (by repeat constructor) rfl) rfl (by have := deltaL_le (ps1.take 12) (ps2.take 12) (ss1.take 70) (ss2.take 70); omega) (by have := deltaL_le (ps1.take 12) (ps2.take 12) (ss1.take 70) (ss2.take 70); unfold maxLen; omega) rfl) (fun _ _ _ h => h.sb) ?_ d_stop
             rintro ⟨FA2, fc2⟩ hF2
             refine dx rfl rfl (ef_call rfl rfl K25 (fun _ e => by cases e; rfl) [] _ (.refl _) _ _ _ (fun w hS => by exact c25 w X1 Y1 FA2 (min n1 12) (min m1 70) _ x1 y1 fc2 (ps1.take 12) (ss1.take 70) (deltaL (ps1.take 12) (ss1.take 70) (ps2.take 12) (ss2.take 70) ++ [0]) (hG.hand (Ec := []) hS) (Sl.ofRow' hS (by repeat constructor)) (Sl.ofRow' hS (by repeat constructor)) (by have h9 := (Sl.ofRow' hS (by repeat constructor)); exact Eq.mp (congrArg (Sl w none' FA2 _ 1) (more_u8s (deltaL (ps1.take 12) (ss1.take 70) (ps2.take 12) (ss2.take 70)))) h9) (fun x hx => by rcases List.mem_append.1 hx with h | h; exact deltaL_lt x h; simp at h; omega) (by first | decide | (simp only [List.length_take]; omega) | omega) (by first | decide | (simp only [List.length_take]; omega) | omega) (by have := deltaL_le (ps1.take 12) (ps2.take 12) (ss1.take 70) (ss2.take 70); omega) hS.own)) (fun _ _ _ h => h.sb) ?_ d_stop
             rintro ⟨qs3, ts3, er3, PB3, pd3, QB3, qd3⟩ ha3
             obtain rfl := back_more hr1 hr2 ha3
             refine dM ?_
             refine dq rfl (rd_extract rfl rfl) rfl ?_
             refine dq rfl (rd_extract rfl rfl) rfl ?_
             refine de rfl rfl (ef_stores A25 rfl rfl rfl (by repeat constructor) (by first | exact SetR.all rfl | repeat constructor) rfl) (fun _ h => h.sb) ?_ d_stop
             refine dq rfl (rd_assign rfl) rfl ?_
             refine d_end ?_
             refine f_front (.blk b4 _ _) (by repeat constructor) ?_
             refine f_front (.blk b5 _ _) (by repeat constructor) ?_
             refine f_front (.row _ _ Y1 _ y1 _) (by repeat constructor) ?_
             refine f_front (.row _ _ X1 _ x1 _) (by repeat constructor) ?_
             refine f_front (.row _ _ Y2 _ y2 _) (by repeat constructor) ?_
             refine f_front (.row _ _ X2 _ x2 _) (by repeat constructor) ?_
             refine f_front (.row _ _ DA1 _ dc1 _) (by repeat constructor) ?_
             refine f_front (.row _ _ QB1 _ qd1 _) (by repeat constructor) ?_
             refine f_front (.row _ _ PB1 _ pd1 _) (by repeat constructor) ?_
             refine f_front (.blk b11 _ _) (by repeat constructor) ?_
             refine f_front (.row _ _ DA2 _ dc2 _) (by repeat constructor) ?_
             refine f_cut (()) (trivial) (by repeat constructor) (fun _ h => h.sb)
            exact d_stop
           refine dx rfl rfl (ef_alloc Z25 rfl) (fun _ _ _ h => h.sb) ?_ ?_
           ·rintro b15_3 hb15_3
            refine dx rfl rfl (ef_slice Rt37 rfl (by repeat constructor) rfl rfl) (fun _ _ _ h => h.sb) ?_ d_stop
            rintro b79_1 hb79_1
            refine d_front (.row _ _ FA1 _ fc1 _) (by repeat constructor) ?_
            refine dx rfl rfl (ef_append Rt37 rfl rfl rfl rfl (src_blk (by repeat constructor) rfl) rfl (by have := deltaL_le (ps1.take 12) (ps2.take 12) (ss1.take 70) (ss2.take 70); omega) (by have := deltaL_le (ps1.take 12) (ps2.take 12) (ss1.take 70) (ss2.take 70); unfold maxLen; omega) rfl) (fun _ _ _ h => h.sb) ?_ d_stop
            rintro ⟨FA2, fc2⟩ hF2
            refine dx rfl rfl (ef_call rfl rfl K25 (fun _ e => by cases e; rfl) [] _ (.refl _) _ _ _ (fun w hS => by exact c25 w X1 Y1 FA2 (min n1 12) (min m1 70) _ x1 y1 fc2 (ps1.take 12) (ss1.take 70) (deltaL (ps1.take 12) (ss1.take 70) (ps2.take 12) (ss2.take 70) ++ [0]) (hG.hand (Ec := []) hS) (Sl.ofRow' hS (by repeat constructor)) (Sl.ofRow' hS (by repeat constructor)) (by have h9 := (Sl.ofRow' hS (by repeat constructor)); exact Eq.mp (congrArg (Sl w none' FA2 _ 1) (more_u8s (deltaL (ps1.take 12) (ss1.take 70) (ps2.take 12) (ss2.take 70)))) h9) (fun x hx => by rcases List.mem_append.1 hx with h | h; exact deltaL_lt x h; simp at h; omega) (by first | decide | (simp only [List.length_take]; omega) | omega) (by first | decide | (simp only [List.length_take]; omega) | omega) (by have := deltaL_le (ps1.take 12) (ps2.take 12) (ss1.take 70) (ss2.take 70); omega) hS.own)) (fun _ _ _ h => h.sb) ?_ d_stop
            rintro ⟨qs3, ts3, er3, PB3, pd3, QB3, qd3⟩ ha3
            obtain rfl := back_more hr1 hr2 ha3
            refine dM ?_
            refine dq rfl (rd_extract rfl rfl) rfl ?_
            refine dq rfl (rd_extract rfl rfl) rfl ?_
            refine de rfl rfl (ef_stores A25 rfl rfl rfl (by repeat constructor) (by first | exact SetR.all rfl | repeat constructor) rfl) (fun _ h => h.sb) ?_ d_stop
            refine dq rfl (rd_assign rfl) rfl ?_
            refine d_end ?_
            refine f_front (.blk b4 _ _) (by repeat constructor) ?_
            refine f_front (.blk b5 _ _) (by repeat constructor) ?_
            refine f_front (.row _ _ Y1 _ y1 _) (by repeat constructor) ?_
            refine f_front (.row _ _ X1 _ x1 _) (by repeat constructor) ?_
            refine f_front (.row _ _ Y2 _ y2 _) (by repeat constructor) ?_
            refine f_front (.row _ _ X2 _ x2 _) (by repeat constructor) ?_
            refine f_front (.row _ _ DA1 _ dc1 _) (by repeat constructor) ?_
            refine f_front (.row _ _ QB1 _ qd1 _) (by repeat constructor) ?_
            refine f_front (.row _ _ PB1 _ pd1 _) (by repeat constructor) ?_
            refine f_front (.blk b11 _ _) (by repeat constructor) ?_
            refine f_front (.row _ _ DA2 _ dc2 _) (by repeat constructor) ?_
            refine f_cut (()) (trivial) (by repeat constructor) (fun _ h => h.sb)
           exact d_stop
          refine dx rfl rfl (ef_slice Rt37 rfl (by repeat constructor) rfl rfl) (fun _ _ _ h => h.sb) ?_ ?_
          ·rintro b79_2 hb79_2
           refine d_front (.row _ _ (some ⟨b76, 0, none⟩) 0 0 _) (by repeat constructor) ?_
           refine dx rfl rfl (ef_append Rt37 rfl rfl rfl rfl (src_row (j := (deltaL (ps1.take 12) (ss1.take 70) (ps2.take 12) (ss2.take 70)).length) (by repeat constructor) (Nat.le_refl _)) (cells_take (u8s_cells _)) (by have := deltaL_le (ps1.take 12) (ps2.take 12) (ss1.take 70) (ss2.take 70); omega) (by have := deltaL_le (ps1.take 12) (ps2.take 12) (ss1.take 70) (ss2.take 70); unfold maxLen; omega) rfl) (fun _ _ _ h => h.sb) ?_ ?_
           ·rintro ⟨FA1, fc1⟩ hF1
            refine dx rfl rfl (ef_append Rt37 rfl rfl rfl rfl (src_blk (by repeat constructor) rfl) rfl (by have := deltaL_le (ps1.take 12) (ps2.take 12) (ss1.take 70) (ss2.take 70); omega) (by have := deltaL_le (ps1.take 12) (ps2.take 12) (ss1.take 70) (ss2.take 70); unfold maxLen; omega) rfl) (fun _ _ _ h => h.sb) ?_ ?_
            ·rintro ⟨FA2, fc2⟩ hF2
             refine dx rfl rfl (ef_call rfl rfl K25 (fun _ e => by cases e; rfl) [] _ (.refl _) _ _ _ (fun w hS => by exact c25 w X1 Y1 FA2 (min n1 12) (min m1 70) _ x1 y1 fc2 (ps1.take 12) (ss1.take 70) (deltaL (ps1.take 12) (ss1.take 70) (ps2.take 12) (ss2.take 70) ++ [0]) (hG.hand (Ec := []) hS) (Sl.ofRow' hS (by repeat constructor)) (Sl.ofRow' hS (by repeat constructor)) (by have h9 := (Sl.ofRow' hS (by repeat constructor)); exact Eq.mp (congrArg (Sl w none' FA2 _ 1) (more_u8s (deltaL (ps1.take 12) (ss1.take 70) (ps2.take 12) (ss2.take 70)))) h9) (fun x hx => by rcases List.mem_append.1 hx with h | h; exact deltaL_lt x h; simp at h; omega) (by first | decide | (simp only [List.length_take]; omega) | omega) (by first | decide | (simp only [List.length_take]; omega) | omega) (by have := deltaL_le (ps1.take 12) (ps2.take 12) (ss1.take 70) (ss2.take 70); omega) hS.own)) (fun _ _ _ h => h.sb) ?_ ?_
             ·rintro ⟨qs3, ts3, er3, PB3, pd3, QB3, qd3⟩ ha3
              obtain rfl := back_more hr1 hr2 ha3
              refine dM ?_
              refine dq rfl (rd_extract rfl rfl) rfl ?_
              refine dq rfl (rd_extract rfl rfl) rfl ?_
              refine dx rfl rfl (ef_alloc Z25 rfl) (fun _ _ _ h => h.sb) ?_ d_stop
              rintro b15_4 hb15_4
              refine de rfl rfl (ef_stores A25 rfl rfl rfl (by repeat constructor) (by first | exact SetR.all rfl | repeat constructor) rfl) (fun _ h => h.sb) ?_ d_stop
              refine dq rfl (rd_assign rfl) rfl ?_
              refine d_end ?_
              refine f_front (.blk b4 _ _) (by repeat constructor) ?_
              refine f_front (.blk b5 _ _) (by repeat constructor) ?_
              refine f_front (.row _ _ Y1 _ y1 _) (by repeat constructor) ?_
              refine f_front (.row _ _ X1 _ x1 _) (by repeat constructor) ?_
              refine f_front (.row _ _ Y2 _ y2 _) (by repeat constructor) ?_
              refine f_front (.row _ _ X2 _ x2 _) (by repeat constructor) ?_
              refine f_front (.row _ _ DA1 _ dc1 _) (by repeat constructor) ?_
              refine f_front (.row _ _ QB1 _ qd1 _) (by repeat constructor) ?_
              refine f_front (.row _ _ PB1 _ pd1 _) (by repeat constructor) ?_
              refine f_front (.blk b11 _ _) (by repeat constructor) ?_
              refine f_front (.row _ _ DA2 _ dc2 _) (by repeat constructor) ?_
              refine f_cut (()) (trivial) (by repeat constructor) (fun _ h => h.sb)
             refine dx rfl rfl (ef_alloc Z25 rfl) (fun _ _ _ h => h.sb) ?_ ?_
             ·rintro b15_5 hb15_5
              refine dx rfl rfl (ef_call rfl rfl K25 (fun _ e => by cases e; rfl) [] _ (.refl _) _ _ _ (fun w hS => by exact c25 w X1 Y1 FA2 (min n1 12) (min m1 70) _ x1 y1 fc2 (ps1.take 12) (ss1.take 70) (deltaL (ps1.take 12) (ss1.take 70) (ps2.take 12) (ss2.take 70) ++ [0]) (hG.hand (Ec := []) hS) (Sl.ofRow' hS (by repeat constructor)) (Sl.ofRow' hS (by repeat constructor)) (by have h9 := (Sl.ofRow' hS (by repeat constructor)); exact Eq.mp (congrArg (Sl w none' FA2 _ 1) (more_u8s (deltaL (ps1.take 12) (ss1.take 70) (ps2.take 12) (ss2.take 70)))) h9) (fun x hx => by rcases List.mem_append.1 hx with h | h; exact deltaL_lt x h; simp at h; omega) (by first | decide | (simp only [List.length_take]; omega) | omega) (by first | decide | (simp only [List.length_take]; omega) | omega) (by have := deltaL_le (ps1.take 12) (ps2.take 12) (ss1.take 70) (ss2.take 70); omega) hS.own)) (fun _ _ _ h => h.sb) ?_ d_stop
              rintro ⟨qs3, ts3, er3, PB3, pd3, QB3, qd3⟩ ha3
              obtain rfl := back_more hr1 hr2 ha3
              refine dM ?_
              refine dq rfl (rd_extract rfl rfl) rfl ?_
              refine dq rfl (rd_extract rfl rfl) rfl ?_
              refine de rfl rfl (ef_stores A25 rfl rfl rfl (by repeat constructor) (by first | exact SetR.all rfl | repeat constructor) rfl) (fun _ h => h.sb) ?_ d_stop
              refine dq rfl (rd_assign rfl) rfl ?_
              refine d_end ?_
              refine f_front (.blk b4 _ _) (by repeat constructor) ?_
              refine f_front (.blk b5 _ _) (by repeat constructor) ?_
              refine f_front (.row _ _ Y1 _ y1 _) (by repeat constructor) ?_
              refine f_front (.row _ _ X1 _ x1 _) (by repeat constructor) ?_
              refine f_front (.row _ _ Y2 _ y2 _) (by repeat constructor) ?_
              refine f_front (.row _ _ X2 _ x2 _) (by repeat constructor) ?_
              refine f_front (.row _ _ DA1 _ dc1 _) (by repeat constructor) ?_
              refine f_front (.row _ _ QB1 _ qd1 _) (by repeat constructor) ?_
              refine f_front (.row _ _ PB1 _ pd1 _) (by repeat constructor) ?_
              refine f_front (.blk b11 _ _) (by repeat constructor) ?_
              refine f_front (.row _ _ DA2 _ dc2 _) (by repeat constructor) ?_
              refine f_cut (()) (trivial) (by repeat constructor) (fun _ h => h.sb)
             exact d_stop
            refine dx rfl rfl (ef_alloc Z25 rfl) (fun _ _ _ h => h.sb) ?_ ?_
            ·rintro b15_6 hb15_6
             refine d_front (.row _ _ FA1 _ fc1 _) (by repeat constructor) ?_
             refine dx rfl rfl (ef_append Rt37 rfl rfl rfl rfl (src_blk (by repeat constructor) rfl) rfl (by have := deltaL_le (ps1.take 12) (ps2.take 12) (ss1.take 70) (ss2.take 70); omega) (by have := deltaL_le (ps1.take 12) (ps2.take 12) (ss1.take 70) (ss2.take 70); unfold maxLen; omega) rfl) (fun _ _ _ h => h.sb) ?_ d_stop
             rintro ⟨FA2, fc2⟩ hF2
             refine dx rfl rfl (ef_call rfl rfl K25 (fun _ e => by cases e; rfl) [] _ (.refl _) _ _ _ (fun w hS => by exact c25 w X1 Y1 FA2 (min n1 12) (min m1 70) _ x1 y1 fc2 (ps1.take 12) (ss1.take 70) (deltaL (ps1.take 12) (ss1.take 70) (ps2.take 12) (ss2.take 70) ++ [0]) (hG.hand (Ec := []) hS) (Sl.ofRow' hS (by repeat constructor)) (Sl.ofRow' hS (by repeat constructor)) (by have h9 := (Sl.ofRow' hS (by repeat constructor)); exact Eq.mp (congrArg (Sl w none' FA2 _ 1) (more_u8s (deltaL (ps1.take 12) (ss1.take 70) (ps2.take 12) (ss2.take 70)))) h9) (fun x hx => by rcases List.mem_append.1 hx with h | h; exact deltaL_lt x h; simp at h; omega) (by first | decide | (simp only [List.length_take]; omega) | omega) (by first | decide | (simp only [List.length_take]; omega) | omega) (by have := deltaL_le (ps1.take 12) (ps2.take 12) (ss1.take 70) (ss2.take 70); omega) hS.own)) (fun _ _ _ h => h.sb) ?_ d_stop
             rintro ⟨qs3, ts3, er3, PB3, pd3, QB3, qd3⟩ ha3
             obtain rfl := back_more hr1 hr2 ha3
             refine dM ?_
             refine dq rfl (rd_extract rfl rfl) rfl ?_
             refine dq rfl (rd_extract rfl rfl) rfl ?_
             refine de rfl rfl (ef_stores A25 rfl rfl rfl (by repeat constructor) (by first | exact SetR.all rfl | repeat constructor) rfl) (fun _ h => h.sb) ?_ d_stop
             refine dq rfl (rd_assign rfl) rfl ?_
             refine d_end ?_
             refine f_front (.blk b4 _ _) (by repeat constructor) ?_
             refine f_front (.blk b5 _ _) (by repeat constructor) ?_
             refine f_front (.row _ _ Y1 _ y1 _) (by repeat constructor) ?_
             refine f_front (.row _ _ X1 _ x1 _) (by repeat constructor) ?_
             refine f_front (.row _ _ Y2 _ y2 _) (by repeat constructor) ?_
             refine f_front (.row _ _ X2 _ x2 _) (by repeat constructor) ?_
             refine f_front (.row _ _ DA1 _ dc1 _) (by repeat constructor) ?_
             refine f_front (.row _ _ QB1 _ qd1 _) (by repeat constructor) ?_
             refine f_front (.row _ _ PB1 _ pd1 _) (by repeat constructor) ?_
             refine f_front (.blk b11 _ _) (by repeat constructor) ?_
             refine f_front (.row _ _ DA2 _ dc2 _) (by repeat constructor) ?_
             refine f_cut (()) (trivial) (by repeat constructor) (fun _ h => h.sb)
            exact d_stop
           refine dx rfl rfl (ef_alloc Z25 rfl) (fun _ _ _ h => h.sb) ?_ ?_
           ·rintro b15_7 hb15_7
            refine d_front (.row _ _ (some ⟨b76, 0, none⟩) 0 0 _) (by repeat constructor) ?_
            refine dx rfl rfl (ef_append Rt37 rfl rfl rfl rfl (src_row (j := (deltaL (ps1.take 12) (ss1.take 70) (ps2.take 12) (ss2.take 70)).length) (by repeat constructor) (Nat.le_refl _)) (cells_take (u8s_cells _)) (by have := deltaL_le (ps1.take 12) (ps2.take 12) (ss1.take 70) (ss2.take 70); omega) (by have := deltaL_le (ps1.take 12) (ps2.take 12) (ss1.take 70) (ss2.take 70); unfold maxLen; omega) rfl) (fun _ _ _ h => h.sb) ?_ d_stop
            rintro ⟨FA1, fc1⟩ hF1
            refine dx rfl rfl (ef_append Rt37 rfl rfl rfl rfl (src_blk (by repeat constructor) rfl) rfl (by have := deltaL_le (ps1.take 12) (ps2.take 12) (ss1.take 70) (ss2.take 70); omega) (by have := deltaL_le (ps1.take 12) (ps2.take 12) (ss1.take 70) (ss2.take 70); unfold maxLen; omega) rfl) (fun _ _ _ h => h.sb) ?_ d_stop
            rintro ⟨FA2, fc2⟩ hF2
            refine dx rfl rfl (ef_call rfl rfl K25 (fun _ e => by cases e; rfl) [] _ (.refl _) _ _ _ (fun w hS => by exact c25 w X1 Y1 FA2 (min n1 12) (min m1 70) _ x1 y1 fc2 (ps1.take 12) (ss1.take 70) (deltaL (ps1.take 12) (ss1.take 70) (ps2.take 12) (ss2.take 70) ++ [0]) (hG.hand (Ec := []) hS) (Sl.ofRow' hS (by repeat constructor)) (Sl.ofRow' hS (by repeat constructor)) (by have h9 := (Sl.ofRow' hS (by repeat constructor)); exact Eq.mp (congrArg (Sl w none' FA2 _ 1) (more_u8s (deltaL (ps1.take 12) (ss1.take 70) (ps2.take 12) (ss2.take 70)))) h9) (fun x hx => by rcases List.mem_append.1 hx with h | h; exact deltaL_lt x h; simp at h; omega) (by first | decide | (simp only [List.length_take]; omega) | omega) (by first | decide | (simp only [List.length_take]; omega) | omega) (by have := deltaL_le (ps1.take 12) (ps2.take 12) (ss1.take 70) (ss2.take 70); omega) hS.own)) (fun _ _ _ h => h.sb) ?_ d_stop
            rintro ⟨qs3, ts3, er3, PB3, pd3, QB3, qd3⟩ ha3
            obtain rfl := back_more hr1 hr2 ha3
            refine dM ?_
            refine dq rfl (rd_extract rfl rfl) rfl ?_
            refine dq rfl (rd_extract rfl rfl) rfl ?_
            refine de rfl rfl (ef_stores A25 rfl rfl rfl (by repeat constructor) (by first | exact SetR.all rfl | repeat constructor) rfl) (fun _ h => h.sb) ?_ d_stop
            refine dq rfl (rd_assign rfl) rfl ?_
            refine d_end ?_
            refine f_front (.blk b4 _ _) (by repeat constructor) ?_
            refine f_front (.blk b5 _ _) (by repeat constructor) ?_
            refine f_front (.row _ _ Y1 _ y1 _) (by repeat constructor) ?_
            refine f_front (.row _ _ X1 _ x1 _) (by repeat constructor) ?_
            refine f_front (.row _ _ Y2 _ y2 _) (by repeat constructor) ?_
            refine f_front (.row _ _ X2 _ x2 _) (by repeat constructor) ?_
            refine f_front (.row _ _ DA1 _ dc1 _) (by repeat constructor) ?_
            refine f_front (.row _ _ QB1 _ qd1 _) (by repeat constructor) ?_
            refine f_front (.row _ _ PB1 _ pd1 _) (by repeat constructor) ?_
            refine f_front (.blk b11 _ _) (by repeat constructor) ?_
            refine f_front (.row _ _ DA2 _ dc2 _) (by repeat constructor) ?_
            refine f_cut (()) (trivial) (by repeat constructor) (fun _ h => h.sb)
           exact d_stop
          refine dx rfl rfl (ef_alloc Z25 rfl) (fun _ _ _ h => h.sb) ?_ ?_
          ·rintro b15_8 hb15_8
           refine d_front (.row _ _ (some ⟨b76, 0, none⟩) 0 0 _) (by repeat constructor) ?_
           refine dx rfl rfl (ef_append Rt37 rfl rfl rfl rfl (src_row (j := (deltaL (ps1.take 12) (ss1.take 70) (ps2.take 12) (ss2.take 70)).length) (by repeat constructor) (Nat.le_refl _)) (cells_take (u8s_cells _)) (by have := deltaL_le (ps1.take 12) (ps2.take 12) (ss1.take 70) (ss2.take 70); omega) (by have := deltaL_le (ps1.take 12) (ps2.take 12) (ss1.take 70) (ss2.take 70); unfold maxLen; omega) rfl) (fun _ _ _ h => h.sb) ?_ ?_
           ·rintro ⟨FA1, fc1⟩ hF1
            refine dx rfl rfl (ef_slice Rt37 rfl (by repeat constructor) rfl rfl) (fun _ _ _ h => h.sb) ?_ d_stop
            rintro b79_3 hb79_3
            refine d_front (.row _ _ FA1 _ fc1 _) (by repeat constructor) ?_
            refine dx rfl rfl (ef_append Rt37 rfl rfl rfl rfl (src_blk (by repeat constructor) rfl) rfl (by have := deltaL_le (ps1.take 12) (ps2.take 12) (ss1.take 70) (ss2.take 70); omega) (by have := deltaL_le (ps1.take 12) (ps2.take 12) (ss1.take 70) (ss2.take 70); unfold maxLen; omega) rfl) (fun _ _ _ h => h.sb) ?_ d_stop
            rintro ⟨FA2, fc2⟩ hF2
            refine dx rfl rfl (ef_call rfl rfl K25 (fun _ e => by cases e; rfl) [] _ (.refl _) _ _ _ (fun w hS => by exact c25 w X1 Y1 FA2 (min n1 12) (min m1 70) _ x1 y1 fc2 (ps1.take 12) (ss1.take 70) (deltaL (ps1.take 12) (ss1.take 70) (ps2.take 12) (ss2.take 70) ++ [0]) (hG.hand (Ec := []) hS) (Sl.ofRow' hS (by repeat constructor)) (Sl.ofRow' hS (by repeat constructor)) (by have h9 := (Sl.ofRow' hS (by repeat constructor)); exact Eq.mp (congrArg (Sl w none' FA2 _ 1) (more_u8s (deltaL (ps1.take 12) (ss1.take 70) (ps2.take 12) (ss2.take 70)))) h9) (fun x hx => by rcases List.mem_append.1 hx with h | h; exact deltaL_lt x h; simp at h; omega) (by first | decide | (simp only [List.length_take]; omega) | omega) (by first | decide | (simp only [List.length_take]; omega) | omega) (by have := deltaL_le (ps1.take 12) (ps2.take 12) (ss1.take 70) (ss2.take 70); omega) hS.own)) (fun _ _ _ h => h.sb) ?_ d_stop
            rintro ⟨qs3, ts3, er3, PB3, pd3, QB3, qd3⟩ ha3
            obtain rfl := back_more hr1 hr2 ha3
            refine dM ?_
            refine dq rfl (rd_extract rfl rfl) rfl ?_
            refine dq rfl (rd_extract rfl rfl) rfl ?_
            refine de rfl rfl (ef_stores A25 rfl rfl rfl (by repeat constructor) (by first | exact SetR.all rfl | repeat constructor) rfl) (fun _ h => h.sb) ?_ d_stop
            refine dq rfl (rd_assign rfl) rfl ?_
            refine d_end ?_
            refine f_front (.blk b4 _ _) (by repeat constructor) ?_
            refine f_front (.blk b5 _ _) (by repeat constructor) ?_
            refine f_front (.row _ _ Y1 _ y1 _) (by repeat constructor) ?_
            refine f_front (.row _ _ X1 _ x1 _) (by repeat constructor) ?_
            refine f_front (.row _ _ Y2 _ y2 _) (by repeat constructor) ?_
            refine f_front (.row _ _ X2 _ x2 _) (by repeat constructor) ?_
            refine f_front (.row _ _ DA1 _ dc1 _) (by repeat constructor) ?_
            refine f_front (.row _ _ QB1 _ qd1 _) (by repeat constructor) ?_
            refine f_front (.row _ _ PB1 _ pd1 _) (by repeat constructor) ?_
            refine f_front (.blk b11 _ _) (by repeat constructor) ?_
            refine f_front (.row _ _ DA2 _ dc2 _) (by repeat constructor) ?_
            refine f_cut (()) (trivial) (by repeat constructor) (fun _ h => h.sb)
           refine dx rfl rfl (ef_slice Rt37 rfl (by repeat constructor) rfl rfl) (fun _ _ _ h => h.sb) ?_ ?_
           ·rintro b79_4 hb79_4
            refine d_front (.row _ _ (some ⟨b76, 0, none⟩) 0 0 _) (by repeat constructor) ?_
            refine dx rfl rfl (ef_append Rt37 rfl rfl rfl rfl (src_row (j := (deltaL (ps1.take 12) (ss1.take 70) (ps2.take 12) (ss2.take 70)).length) (by repeat constructor) (Nat.le_refl _)) (cells_take (u8s_cells _)) (by have := deltaL_le (ps1.take 12) (ps2.take 12) (ss1.take 70) (ss2.take 70); omega) (by have := deltaL_le (ps1.take 12) (ps2.take 12) (ss1.take 70) (ss2.take 70); unfold maxLen; omega) rfl) (fun _ _ _ h => h.sb) ?_ d_stop
            rintro ⟨FA1, fc1⟩ hF1
            refine dx rfl rfl (ef_append Rt37 rfl rfl rfl rfl (src_blk (by repeat constructor) rfl) rfl (by have := deltaL_le (ps1.take 12) (ps2.take 12) (ss1.take 70) (ss2.take 70); omega) (by have := deltaL_le (ps1.take 12) (ps2.take 12) (ss1.take 70) (ss2.take 70); unfold maxLen; omega) rfl) (fun _ _ _ h => h.sb) ?_ d_stop
            rintro ⟨FA2, fc2⟩ hF2
            refine dx rfl rfl (ef_call rfl rfl K25 (fun _ e => by cases e; rfl) [] _ (.refl _) _ _ _ (fun w hS => by exact c25 w X1 Y1 FA2 (min n1 12) (min m1 70) _ x1 y1 fc2 (ps1.take 12) (ss1.take 70) (deltaL (ps1.take 12) (ss1.take 70) (ps2.take 12) (ss2.take 70) ++ [0]) (hG.hand (Ec := []) hS) (Sl.ofRow' hS (by repeat constructor)) (Sl.ofRow' hS (by repeat constructor)) (by have h9 := (Sl.ofRow' hS (by repeat constructor)); exact Eq.mp (congrArg (Sl w none' FA2 _ 1) (more_u8s (deltaL (ps1.take 12) (ss1.take 70) (ps2.take 12) (ss2.take 70)))) h9) (fun x hx => by rcases List.mem_append.1 hx with h | h; exact deltaL_lt x h; simp at h; omega) (by first | decide | (simp only [List.length_take]; omega) | omega) (by first | decide | (simp only [List.length_take]; omega) | omega) (by have := deltaL_le (ps1.take 12) (ps2.take 12) (ss1.take 70) (ss2.take 70); omega) hS.own)) (fun _ _ _ h => h.sb) ?_ d_stop
            rintro ⟨qs3, ts3, er3, PB3, pd3, QB3, qd3⟩ ha3
            obtain rfl := back_more hr1 hr2 ha3
            refine dM ?_
            refine dq rfl (rd_extract rfl rfl) rfl ?_
            refine dq rfl (rd_extract rfl rfl) rfl ?_
            refine de rfl rfl (ef_stores A25 rfl rfl rfl (by repeat constructor) (by first | exact SetR.all rfl | repeat constructor) rfl) (fun _ h => h.sb) ?_ d_stop
            refine dq rfl (rd_assign rfl) rfl ?_
            refine d_end ?_
            refine f_front (.blk b4 _ _) (by repeat constructor) ?_
            refine f_front (.blk b5 _ _) (by repeat constructor) ?_
            refine f_front (.row _ _ Y1 _ y1 _) (by repeat constructor) ?_
            refine f_front (.row _ _ X1 _ x1 _) (by repeat constructor) ?_
            refine f_front (.row _ _ Y2 _ y2 _) (by repeat constructor) ?_
            refine f_front (.row _ _ X2 _ x2 _) (by repeat constructor) ?_
            refine f_front (.row _ _ DA1 _ dc1 _) (by repeat constructor) ?_
            refine f_front (.row _ _ QB1 _ qd1 _) (by repeat constructor) ?_
            refine f_front (.row _ _ PB1 _ pd1 _) (by repeat constructor) ?_
            refine f_front (.blk b11 _ _) (by repeat constructor) ?_
            refine f_front (.row _ _ DA2 _ dc2 _) (by repeat constructor) ?_
            refine f_cut (()) (trivial) (by repeat constructor) (fun _ h => h.sb)
           exact d_stop
          exact d_stop
         refine dx rfl rfl (ef_slice Rt37 rfl (by repeat constructor) rfl rfl) (fun _ _ _ h => h.sb) ?_ ?_
         ·rintro b79_5 hb79_5
          refine dx rfl rfl (ef_slice Rt37 rfl (by repeat constructor) rfl rfl) (fun _ _ _ h => h.sb) ?_ ?_
          ·rintro b76_1 hb76_1
           refine d_asRow 1 0 rfl rfl ?_
           refine dx rfl rfl (ef_append Rt37 rfl rfl rfl rfl (src_row (j := (deltaL (ps1.take 12) (ss1.take 70) (ps2.take 12) (ss2.take 70)).length) (by repeat constructor) (Nat.le_refl _)) (cells_take (u8s_cells _)) (by have := deltaL_le (ps1.take 12) (ps2.take 12) (ss1.take 70) (ss2.take 70); omega) (by have := deltaL_le (ps1.take 12) (ps2.take 12) (ss1.take 70) (ss2.take 70); unfold maxLen; omega) rfl) (fun _ _ _ h => h.sb) ?_ ?_
           ·rintro ⟨FA1, fc1⟩ hF1
            refine dx rfl rfl (ef_append Rt37 rfl rfl rfl rfl (src_blk (by repeat constructor) rfl) rfl (by have := deltaL_le (ps1.take 12) (ps2.take 12) (ss1.take 70) (ss2.take 70); omega) (by have := deltaL_le (ps1.take 12) (ps2.take 12) (ss1.take 70) (ss2.take 70); unfold maxLen; omega) rfl) (fun _ _ _ h => h.sb) ?_ ?_
            ·rintro ⟨FA2, fc2⟩ hF2
             refine dx rfl rfl (ef_call rfl rfl K25 (fun _ e => by cases e; rfl) [] _ (.refl _) _ _ _ (fun w hS => by exact c25 w X1 Y1 FA2 (min n1 12) (min m1 70) _ x1 y1 fc2 (ps1.take 12) (ss1.take 70) (deltaL (ps1.take 12) (ss1.take 70) (ps2.take 12) (ss2.take 70) ++ [0]) (hG.hand (Ec := []) hS) (Sl.ofRow' hS (by repeat constructor)) (Sl.ofRow' hS (by repeat constructor)) (by have h9 := (Sl.ofRow' hS (by repeat constructor)); exact Eq.mp (congrArg (Sl w none' FA2 _ 1) (more_u8s (deltaL (ps1.take 12) (ss1.take 70) (ps2.take 12) (ss2.take 70)))) h9) (fun x hx => by rcases List.mem_append.1 hx with h | h; exact deltaL_lt x h; simp at h; omega) (by first | decide | (simp only [List.length_take]; omega) | omega) (by first | decide | (simp only [List.length_take]; omega) | omega) (by have := deltaL_le (ps1.take 12) (ps2.take 12) (ss1.take 70) (ss2.take 70); omega) hS.own)) (fun _ _ _ h => h.sb) ?_ ?_
             ·rintro ⟨qs3, ts3, er3, PB3, pd3, QB3, qd3⟩ ha3
              obtain rfl := back_more hr1 hr2 ha3
              refine dM ?_
              refine dq rfl (rd_extract rfl rfl) rfl ?_
              refine dq rfl (rd_extract rfl rfl) rfl ?_
              refine dx rfl rfl (ef_alloc Z25 rfl) (fun _ _ _ h => h.sb) ?_ d_stop
              rintro b15_9 hb15_9
              refine de rfl rfl (ef_stores A25 rfl rfl rfl (by repeat constructor) (by first | exact SetR.all rfl | repeat constructor) rfl) (fun _ h => h.sb) ?_ d_stop
              refine dq rfl (rd_assign rfl) rfl ?_
              refine d_end ?_
              refine f_front (.blk b4 _ _) (by repeat constructor) ?_
              refine f_front (.blk b5 _ _) (by repeat constructor) ?_
              refine f_front (.row _ _ Y1 _ y1 _) (by repeat constructor) ?_
              refine f_front (.row _ _ X1 _ x1 _) (by repeat constructor) ?_
              refine f_front (.row _ _ Y2 _ y2 _) (by repeat constructor) ?_
              refine f_front (.row _ _ X2 _ x2 _) (by repeat constructor) ?_
              refine f_front (.row _ _ DA1 _ dc1 _) (by repeat constructor) ?_
              refine f_front (.row _ _ QB1 _ qd1 _) (by repeat constructor) ?_
              refine f_front (.row _ _ PB1 _ pd1 _) (by repeat constructor) ?_
              refine f_front (.blk b11 _ _) (by repeat constructor) ?_
              refine f_front (.row _ _ DA2 _ dc2 _) (by repeat constructor) ?_
              refine f_cut (()) (trivial) (by repeat constructor) (fun _ h => h.sb)
             refine dx rfl rfl (ef_alloc Z25 rfl) (fun _ _ _ h => h.sb) ?_ ?_
             ·rintro b15_10 hb15_10
              refine dx rfl rfl (ef_call rfl rfl K25 (fun _ e => by cases e; rfl) [] _ (.refl _) _ _ _ (fun w hS => by exact c25 w X1 Y1 FA2 (min n1 12) (min m1 70) _ x1 y1 fc2 (ps1.take 12) (ss1.take 70) (deltaL (ps1.take 12) (ss1.take 70) (ps2.take 12) (ss2.take 70) ++ [0]) (hG.hand (Ec := []) hS) (Sl.ofRow' hS (by repeat constructor)) (Sl.ofRow' hS (by repeat constructor)) (by have h9 := (Sl.ofRow' hS (by repeat constructor)); exact Eq.mp (congrArg (Sl w none' FA2 _ 1) (more_u8s (deltaL (ps1.take 12) (ss1.take 70) (ps2.take 12) (ss2.take 70)))) h9) (fun x hx => by rcases List.mem_append.1 hx with h | h; exact deltaL_lt x h; simp at h; omega) (by first | decide | (simp only [List.length_take]; omega) | omega) (by first | decide | (simp only [List.length_take]; omega) | omega) (by have := deltaL_le (ps1.take 12) (ps2.take 12) (ss1.take 70) (ss2.take 70); omega) hS.own)) (fun _ _ _ h => h.sb) ?_ d_stop
              rintro ⟨qs3, ts3, er3, PB3, pd3, QB3, qd3⟩ ha3
              obtain rfl := back_more hr1 hr2 ha3
              refine dM ?_
              refine dq rfl (rd_extract rfl rfl) rfl ?_
              refine dq rfl (rd_extract rfl rfl) rfl ?_
              refine de rfl rfl (ef_stores A25 rfl rfl rfl (by repeat constructor) (by first | exact SetR.all rfl | repeat constructor) rfl) (fun _ h => h.sb) ?_ d_stop
              refine dq rfl (rd_assign rfl) rfl ?_
              refine d_end ?_
              refine f_front (.blk b4 _ _) (by repeat constructor) ?_
              refine f_front (.blk b5 _ _) (by repeat constructor) ?_
              refine f_front (.row _ _ Y1 _ y1 _) (by repeat constructor) ?_
              refine f_front (.row _ _ X1 _ x1 _) (by repeat constructor) ?_
              refine f_front (.row _ _ Y2 _ y2 _) (by repeat constructor) ?_
              refine f_front (.row _ _ X2 _ x2 _) (by repeat constructor) ?_
              refine f_front (.row _ _ DA1 _ dc1 _) (by repeat constructor) ?_
              refine f_front (.row _ _ QB1 _ qd1 _) (by repeat constructor) ?_
              refine f_front (.row _ _ PB1 _ pd1 _) (by repeat constructor) ?_
              refine f_front (.blk b11 _ _) (by repeat constructor) ?_
              refine f_front (.row _ _ DA2 _ dc2 _) (by repeat constructor) ?_
              refine f_cut (()) (trivial) (by repeat constructor) (fun _ h => h.sb)
             exact d_stop
            refine dx rfl rfl (ef_alloc Z25 rfl) (fun _ _ _ h => h.sb) ?_ ?_
            ·rintro b15_11 hb15_11
             refine d_front (.row _ _ FA1 _ fc1 _) (by repeat constructor) ?_
             refine dx rfl rfl (ef_append Rt37 rfl rfl rfl rfl (src_blk (by repeat constructor) rfl) rfl (by have := deltaL_le (ps1.take 12) (ps2.take 12) (ss1.take 70) (ss2.take 70); omega) (by have := deltaL_le (ps1.take 12) (ps2.take 12) (ss1.take 70) (ss2.take 70); unfold maxLen; omega) rfl) (fun _ _ _ h => h.sb) ?_ d_stop
             rintro ⟨FA2, fc2⟩ hF2
             refine dx rfl rfl (ef_call rfl rfl K25 (fun _ e => by cases e; rfl) [] _ (.refl _) _ _ _ (fun w hS => by exact c25 w X1 Y1 FA2 (min n1 12) (min m1 70) _ x1 y1 fc2 (ps1.take 12) (ss1.take 70) (deltaL (ps1.take 12) (ss1.take 70) (ps2.take 12) (ss2.take 70) ++ [0]) (hG.hand (Ec := []) hS) (Sl.ofRow' hS (by repeat constructor)) (Sl.ofRow' hS (by repeat constructor)) (by have h9 := (Sl.ofRow' hS (by repeat constructor)); exact Eq.mp (congrArg (Sl w none' FA2 _ 1) (more_u8s (deltaL (ps1.take 12) (ss1.take 70) (ps2.take 12) (ss2.take 70)))) h9) (fun x hx => by rcases List.mem_append.1 hx with h | h; exact deltaL_lt x h; simp at h; omega) (by first | decide | (simp only [List.length_take]; omega) | omega) (by first | decide | (simp only [List.length_take]; omega) | omega) (by have := deltaL_le (ps1.take 12) (ps2.take 12) (ss1.take 70) (ss2.take 70); omega) hS.own)) (fun _ _ _ h => h.sb) ?_ d_stop
             rintro ⟨qs3, ts3, er3, PB3, pd3, QB3, qd3⟩ ha3
             obtain rfl := back_more hr1 hr2 ha3
             refine dM ?_
             refine dq rfl (rd_extract rfl rfl) rfl ?_
             refine dq rfl (rd_extract rfl rfl) rfl ?_
             refine de rfl rfl (ef_stores A25 rfl rfl rfl (by repeat constructor) (by first | exact SetR.all rfl | repeat constructor) rfl) (fun _ h => h.sb) ?_ d_stop
             refine dq rfl (rd_assign rfl) rfl ?_
             refine d_end ?_
             refine f_front (.blk b4 _ _) (by repeat constructor) ?_
             refine f_front (.blk b5 _ _) (by repeat constructor) ?_
             refine f_front (.row _ _ Y1 _ y1 _) (by repeat constructor) ?_
             refine f_front (.row _ _ X1 _ x1 _) (by repeat constructor) ?_
             refine f_front (.row _ _ Y2 _ y2 _) (by repeat constructor) ?_
             refine f_front (.row _ _ X2 _ x2 _) (by repeat constructor) ?_
             refine f_front (.row _ _ DA1 _ dc1 _) (by repeat constructor) ?_
             refine f_front (.row _ _ QB1 _ qd1 _) (by repeat constructor) ?_
             refine f_front (.row _ _ PB1 _ pd1 _) (by repeat constructor) ?_
             refine f_front (.blk b11 _ _) (by repeat constructor) ?_
             refine f_front (.row _ _ DA2 _ dc2 _) (by repeat constructor) ?_
             refine f_cut (()) (trivial) (by repeat constructor) (fun _ h => h.sb)
            exact d_stop
           refine dx rfl rfl (ef_alloc Z25 rfl) (fun _ _ _ h => h.sb) ?_ ?_
           ·rintro b15_12 hb15_12
            refine d_front (.row _ _ (some ⟨b76_1, 0, none⟩) 0 0 _) (by repeat constructor) ?_
            refine dx rfl rfl (ef_append Rt37 rfl rfl rfl rfl (src_row (j := (deltaL (ps1.take 12) (ss1.take 70) (ps2.take 12) (ss2.take 70)).length) (by repeat constructor) (Nat.le_refl _)) (cells_take (u8s_cells _)) (by have := deltaL_le (ps1.take 12) (ps2.take 12) (ss1.take 70) (ss2.take 70); omega) (by have := deltaL_le (ps1.take 12) (ps2.take 12) (ss1.take 70) (ss2.take 70); unfold maxLen; omega) rfl) (fun _ _ _ h => h.sb) ?_ d_stop
            rintro ⟨FA1, fc1⟩ hF1
            refine dx rfl rfl (ef_append Rt37 rfl rfl rfl rfl (src_blk (by repeat constructor) rfl) rfl (by have := deltaL_le (ps1.take 12) (ps2.take 12) (ss1.take 70) (ss2.take 70); omega) (by have := deltaL_le (ps1.take 12) (ps2.take 12) (ss1.take 70) (ss2.take 70); unfold maxLen; omega) rfl) (fun _ _ _ h => h.sb) ?_ d_stop
            rintro ⟨FA2, fc2⟩ hF2
            refine dx rfl rfl (ef_call rfl rfl K25 (fun _ e => by cases e; rfl) [] _ (.refl _) _ _ _ (fun w hS => by exact c25 w X1 Y1 FA2 (min n1 12) (min m1 70) _ x1 y1 fc2 (ps1.take 12) (ss1.take 70) (deltaL (ps1.take 12) (ss1.take 70) (ps2.take 12) (ss2.take 70) ++ [0]) (hG.hand (Ec := []) hS) (Sl.ofRow' hS (by repeat constructor)) (Sl.ofRow' hS (by repeat constructor)) (by have h9 := (Sl.ofRow' hS (by repeat constructor)); exact Eq.mp (congrArg (Sl w none' FA2 _ 1) (more_u8s (deltaL (ps1.take 12) (ss1.take 70) (ps2.take 12) (ss2.take 70)))) h9) (fun x hx => by rcases List.mem_append.1 hx with h | h; exact deltaL_lt x h; simp at h; omega) (by first | decide | (simp only [List.length_take]; omega) | omega) (by first | decide | (simp only [List.length_take]; omega) | omega) (by have := deltaL_le (ps1.take 12) (ps2.take 12) (ss1.take 70) (ss2.take 70); omega) hS.own)) (fun _ _ _ h => h.sb) ?_ d_stop
            rintro ⟨qs3, ts3, er3, PB3, pd3, QB3, qd3⟩ ha3
            obtain rfl := back_more hr1 hr2 ha3
            refine dM ?_
            refine dq rfl (rd_extract rfl rfl) rfl ?_
            refine dq rfl (rd_extract rfl rfl) rfl ?_
            refine de rfl rfl (ef_stores A25 rfl rfl rfl (by repeat constructor) (by first | exact SetR.all rfl | repeat constructor) rfl) (fun _ h => h.sb) ?_ d_stop
            refine dq rfl (rd_assign rfl) rfl ?_
            refine d_end ?_
            refine f_front (.blk b4 _ _) (by repeat constructor) ?_
            refine f_front (.blk b5 _ _) (by repeat constructor) ?_
            refine f_front (.row _ _ Y1 _ y1 _) (by repeat constructor) ?_
            refine f_front (.row _ _ X1 _ x1 _) (by repeat constructor) ?_
            refine f_front (.row _ _ Y2 _ y2 _) (by repeat constructor) ?_
            refine f_front (.row _ _ X2 _ x2 _) (by repeat constructor) ?_
            refine f_front (.row _ _ DA1 _ dc1 _) (by repeat constructor) ?_
            refine f_front (.row _ _ QB1 _ qd1 _) (by repeat constructor) ?_
            refine f_front (.row _ _ PB1 _ pd1 _) (by repeat constructor) ?_
            refine f_front (.blk b11 _ _) (by repeat constructor) ?_
            refine f_front (.row _ _ DA2 _ dc2 _) (by repeat constructor) ?_
            refine f_cut (()) (trivial) (by repeat constructor) (fun _ h => h.sb)
           exact d_stop
          refine dx rfl rfl (ef_alloc Z25 rfl) (fun _ _ _ h => h.sb) ?_ ?_
          ·rintro b15_13 hb15_13
           refine dx rfl rfl (ef_slice Rt37 rfl (by repeat constructor) rfl rfl) (fun _ _ _ h => h.sb) ?_ d_stop
           rintro b76_2 hb76_2
           refine d_asRow 1 0 rfl rfl ?_
           refine dx rfl rfl (ef_append Rt37 rfl rfl rfl rfl (src_row (j := (deltaL (ps1.take 12) (ss1.take 70) (ps2.take 12) (ss2.take 70)).length) (by repeat constructor) (Nat.le_refl _)) (cells_take (u8s_cells _)) (by have := deltaL_le (ps1.take 12) (ps2.take 12) (ss1.take 70) (ss2.take 70); omega) (by have := deltaL_le (ps1.take 12) (ps2.take 12) (ss1.take 70) (ss2.take 70); unfold maxLen; omega) rfl) (fun _ _ _ h => h.sb) ?_ d_stop
           rintro ⟨FA1, fc1⟩ hF1
           refine dx rfl rfl (ef_append Rt37 rfl rfl rfl rfl (src_blk (by repeat constructor) rfl) rfl (by have := deltaL_le (ps1.take 12) (ps2.take 12) (ss1.take 70) (ss2.take 70); omega) (by have := deltaL_le (ps1.take 12) (ps2.take 12) (ss1.take 70) (ss2.take 70); unfold maxLen; omega) rfl) (fun _ _ _ h => h.sb) ?_ d_stop
           rintro ⟨FA2, fc2⟩ hF2
           refine dx rfl rfl (ef_call rfl rfl K25 (fun _ e => by cases e; rfl) [] _ (.refl _) _ _ _ (fun w hS => by exact c25 w X1 Y1 FA2 (min n1 12) (min m1 70) _ x1 y1 fc2 (ps1.take 12) (ss1.take 70) (deltaL (ps1.take 12) (ss1.take 70) (ps2.take 12) (ss2.take 70) ++ [0]) (hG.hand (Ec := []) hS) (Sl.ofRow' hS (by repeat constructor)) (Sl.ofRow' hS (by repeat constructor)) (by have h9 := (Sl.ofRow' hS (by repeat constructor)); exact Eq.mp (congrArg (Sl w none' FA2 _ 1) (more_u8s (deltaL (ps1.take 12) (ss1.take 70) (ps2.take 12) (ss2.take 70)))) h9) (fun x hx => by rcases List.mem_append.1 hx with h | h; exact deltaL_lt x h; simp at h; omega) (by first | decide | (simp only [List.length_take]; omega) | omega) (by first | decide | (simp only [List.length_take]; omega) | omega) (by have := deltaL_le (ps1.take 12) (ps2.take 12) (ss1.take 70) (ss2.take 70); omega) hS.own)) (fun _ _ _ h => h.sb) ?_ d_stop
           rintro ⟨qs3, ts3, er3, PB3, pd3, QB3, qd3⟩ ha3
           obtain rfl := back_more hr1 hr2 ha3
           refine dM ?_
           refine dq rfl (rd_extract rfl rfl) rfl ?_
           refine dq rfl (rd_extract rfl rfl) rfl ?_
           refine de rfl rfl (ef_stores A25 rfl rfl rfl (by repeat constructor) (by first | exact SetR.all rfl | repeat constructor) rfl) (fun _ h => h.sb) ?_ d_stop
           refine dq rfl (rd_assign rfl) rfl ?_
           refine d_end ?_
           refine f_front (.blk b4 _ _) (by repeat constructor) ?_
           refine f_front (.blk b5 _ _) (by repeat constructor) ?_
           refine f_front (.row _ _ Y1 _ y1 _) (by repeat constructor) ?_
           refine f_front (.row _ _ X1 _ x1 _) (by repeat constructor) ?_
           refine f_front (.row _ _ Y2 _ y2 _) (by repeat constructor) ?_
           refine f_front (.row _ _ X2 _ x2 _) (by repeat constructor) ?_
           refine f_front (.row _ _ DA1 _ dc1 _) (by repeat constructor) ?_
           refine f_front (.row _ _ QB1 _ qd1 _) (by repeat constructor) ?_
           refine f_front (.row _ _ PB1 _ pd1 _) (by repeat constructor) ?_
           refine f_front (.blk b11 _ _) (by repeat constructor) ?_
           refine f_front (.row _ _ DA2 _ dc2 _) (by repeat constructor) ?_
           refine f_cut (()) (trivial) (by repeat constructor) (fun _ h => h.sb)
          exact d_stop
         refine dx rfl rfl (ef_alloc Z25 rfl) (fun _ _ _ h => h.sb) ?_ ?_
         ·rintro b15_14 hb15_14
          refine dx rfl rfl (ef_slice Rt37 rfl (by repeat constructor) rfl rfl) (fun _ _ _ h => h.sb) ?_ ?_
          ·rintro b76_3 hb76_3
           refine d_asRow 1 0 rfl rfl ?_
           refine dx rfl rfl (ef_append Rt37 rfl rfl rfl rfl (src_row (j := (deltaL (ps1.take 12) (ss1.take 70) (ps2.take 12) (ss2.take 70)).length) (by repeat constructor) (Nat.le_refl _)) (cells_take (u8s_cells _)) (by have := deltaL_le (ps1.take 12) (ps2.take 12) (ss1.take 70) (ss2.take 70); omega) (by have := deltaL_le (ps1.take 12) (ps2.take 12) (ss1.take 70) (ss2.take 70); unfold maxLen; omega) rfl) (fun _ _ _ h => h.sb) ?_ ?_
           ·rintro ⟨FA1, fc1⟩ hF1
            refine dx rfl rfl (ef_slice Rt37 rfl (by repeat constructor) rfl rfl) (fun _ _ _ h => h.sb) ?_ d_stop
            rintro b79_6 hb79_6
            refine d_front (.row _ _ FA1 _ fc1 _) (by repeat constructor) ?_
            refine dx rfl rfl (ef_append Rt37 rfl rfl rfl rfl (src_blk (by repeat constructor) rfl) rfl (by have := deltaL_le (ps1.take 12) (ps2.take 12) (ss1.take 70) (ss2.take 70); omega) (by have := deltaL_le (ps1.take 12) (ps2.take 12) (ss1.take 70) (ss2.take 70); unfold maxLen; omega) rfl) (fun _ _ _ h => h.sb) ?_ d_stop
            rintro ⟨FA2, fc2⟩ hF2
            refine dx rfl rfl (ef_call rfl rfl K25 (fun _ e => by cases e; rfl) [] _ (.refl _) _ _ _ (fun w hS => by exact c25 w X1 Y1 FA2 (min n1 12) (min m1 70) _ x1 y1 fc2 (ps1.take 12) (ss1.take 70) (deltaL (ps1.take 12) (ss1.take 70) (ps2.take 12) (ss2.take 70) ++ [0]) (hG.hand (Ec := []) hS) (Sl.ofRow' hS (by repeat constructor)) (Sl.ofRow' hS (by repeat constructor)) (by have h9 := (Sl.ofRow' hS (by repeat constructor)); exact Eq.mp (congrArg (Sl w none' FA2 _ 1) (more_u8s (deltaL (ps1.take 12) (ss1.take 70) (ps2.take 12) (ss2.take 70)))) h9) (fun x hx => by rcases List.mem_append.1 hx with h | h; exact deltaL_lt x h; simp at h; omega) (by first | decide | (simp only [List.length_take]; omega) | omega) (by first | decide | (simp only [List.length_take]; omega) | omega) (by have := deltaL_le (ps1.take 12) (ps2.take 12) (ss1.take 70) (ss2.take 70); omega) hS.own)) (fun _ _ _ h => h.sb) ?_ d_stop
            rintro ⟨qs3, ts3, er3, PB3, pd3, QB3, qd3⟩ ha3
            obtain rfl := back_more hr1 hr2 ha3
            refine dM ?_
            refine dq rfl (rd_extract rfl rfl) rfl ?_
            refine dq rfl (rd_extract rfl rfl) rfl ?_
            refine de rfl rfl (ef_stores A25 rfl rfl rfl (by repeat constructor) (by first | exact SetR.all rfl | repeat constructor) rfl) (fun _ h => h.sb) ?_ d_stop
            refine dq rfl (rd_assign rfl) rfl ?_
            refine d_end ?_
            refine f_front (.blk b4 _ _) (by repeat constructor) ?_
            refine f_front (.blk b5 _ _) (by repeat constructor) ?_
            refine f_front (.row _ _ Y1 _ y1 _) (by repeat constructor) ?_
            refine f_front (.row _ _ X1 _ x1 _) (by repeat constructor) ?_
            refine f_front (.row _ _ Y2 _ y2 _) (by repeat constructor) ?_
            refine f_front (.row _ _ X2 _ x2 _) (by repeat constructor) ?_
            refine f_front (.row _ _ DA1 _ dc1 _) (by repeat constructor) ?_
            refine f_front (.row _ _ QB1 _ qd1 _) (by repeat constructor) ?_
            refine f_front (.row _ _ PB1 _ pd1 _) (by repeat constructor) ?_
            refine f_front (.blk b11 _ _) (by repeat constructor) ?_
            refine f_front (.row _ _ DA2 _ dc2 _) (by repeat constructor) ?_
            refine f_cut (()) (trivial) (by repeat constructor) (fun _ h => h.sb)
           refine dx rfl rfl (ef_slice Rt37 rfl (by repeat constructor) rfl rfl) (fun _ _ _ h => h.sb) ?_ ?_
           ·rintro b79_7 hb79_7
            refine d_front (.row _ _ (some ⟨b76_3, 0, none⟩) 0 0 _) (by repeat constructor) ?_
            refine dx rfl rfl (ef_append Rt37 rfl rfl rfl rfl (src_row (j := (deltaL (ps1.take 12) (ss1.take 70) (ps2.take 12) (ss2.take 70)).length) (by repeat constructor) (Nat.le_refl _)) (cells_take (u8s_cells _)) (by have := deltaL_le (ps1.take 12) (ps2.take 12) (ss1.take 70) (ss2.take 70); omega) (by have := deltaL_le (ps1.take 12) (ps2.take 12) (ss1.take 70) (ss2.take 70); unfold maxLen; omega) rfl) (fun _ _ _ h => h.sb) ?_ d_stop
            rintro ⟨FA1, fc1⟩ hF1
            refine dx rfl rfl (ef_append Rt37 rfl rfl rfl rfl (src_blk (by repeat constructor) rfl) rfl (by have := deltaL_le (ps1.take 12) (ps2.take 12) (ss1.take 70) (ss2.take 70); omega) (by have := deltaL_le (ps1.take 12) (ps2.take 12) (ss1.take 70) (ss2.take 70); unfold maxLen; omega) rfl) (fun _ _ _ h => h.sb) ?_ d_stop
            rintro ⟨FA2, fc2⟩ hF2
            refine dx rfl rfl (ef_call rfl rfl K25 (fun _ e => by cases e; rfl) [] _ (.refl _) _ _ _ (fun w hS => by exact c25 w X1 Y1 FA2 (min n1 12) (min m1 70) _ x1 y1 fc2 (ps1.take 12) (ss1.take 70) (deltaL (ps1.take 12) (ss1.take 70) (ps2.take 12) (ss2.take 70) ++ [0]) (hG.hand (Ec := []) hS) (Sl.ofRow' hS (by repeat constructor)) (Sl.ofRow' hS (by repeat constructor)) (by have h9 := (Sl.ofRow' hS (by repeat constructor)); exact Eq.mp (congrArg (Sl w none' FA2 _ 1) (more_u8s (deltaL (ps1.take 12) (ss1.take 70) (ps2.take 12) (ss2.take 70)))) h9) (fun x hx => by rcases List.mem_append.1 hx with h | h; exact deltaL_lt x h; simp at h; omega) (by first | decide | (simp only [List.length_take]; omega) | omega) (by first | decide | (simp only [List.length_take]; omega) | omega) (by have := deltaL_le (ps1.take 12) (ps2.take 12) (ss1.take 70) (ss2.take 70); omega) hS.own)) (fun _ _ _ h => h.sb) ?_ d_stop
            rintro ⟨qs3, ts3, er3, PB3, pd3, QB3, qd3⟩ ha3
            obtain rfl := back_more hr1 hr2 ha3
            refine dM ?_
            refine dq rfl (rd_extract rfl rfl) rfl ?_
            refine dq rfl (rd_extract rfl rfl) rfl ?_
            refine de rfl rfl (ef_stores A25 rfl rfl rfl (by repeat constructor) (by first | exact SetR.all rfl | repeat constructor) rfl) (fun _ h => h.sb) ?_ d_stop
            refine dq rfl (rd_assign rfl) rfl ?_
            refine d_end ?_
            refine f_front (.blk b4 _ _) (by repeat constructor) ?_
            refine f_front (.blk b5 _ _) (by repeat constructor) ?_
            refine f_front (.row _ _ Y1 _ y1 _) (by repeat constructor) ?_
            refine f_front (.row _ _ X1 _ x1 _) (by repeat constructor) ?_
            refine f_front (.row _ _ Y2 _ y2 _) (by repeat constructor) ?_
            refine f_front (.row _ _ X2 _ x2 _) (by repeat constructor) ?_
            refine f_front (.row _ _ DA1 _ dc1 _) (by repeat constructor) ?_
            refine f_front (.row _ _ QB1 _ qd1 _) (by repeat constructor) ?_
            refine f_front (.row _ _ PB1 _ pd1 _) (by repeat constructor) ?_
            refine f_front (.blk b11 _ _) (by repeat constructor) ?_
            refine f_front (.row _ _ DA2 _ dc2 _) (by repeat constructor) ?_
            refine f_cut (()) (trivial) (by repeat constructor) (fun _ h => h.sb)
           exact d_stop
          refine dx rfl rfl (ef_slice Rt37 rfl (by repeat constructor) rfl rfl) (fun _ _ _ h => h.sb) ?_ ?_
          ·rintro b79_8 hb79_8
           refine dx rfl rfl (ef_slice Rt37 rfl (by repeat constructor) rfl rfl) (fun _ _ _ h => h.sb) ?_ d_stop
           rintro b76_4 hb76_4
           refine d_asRow 1 0 rfl rfl ?_
           refine dx rfl rfl (ef_append Rt37 rfl rfl rfl rfl (src_row (j := (deltaL (ps1.take 12) (ss1.take 70) (ps2.take 12) (ss2.take 70)).length) (by repeat constructor) (Nat.le_refl _)) (cells_take (u8s_cells _)) (by have := deltaL_le (ps1.take 12) (ps2.take 12) (ss1.take 70) (ss2.take 70); omega) (by have := deltaL_le (ps1.take 12) (ps2.take 12) (ss1.take 70) (ss2.take 70); unfold maxLen; omega) rfl) (fun _ _ _ h => h.sb) ?_ d_stop
           rintro ⟨FA1, fc1⟩ hF1
           refine dx rfl rfl (ef_append Rt37 rfl rfl rfl rfl (src_blk (by repeat constructor) rfl) rfl (by have := deltaL_le (ps1.take 12) (ps2.take 12) (ss1.take 70) (ss2.take 70); omega) (by have := deltaL_le (ps1.take 12) (ps2.take 12) (ss1.take 70) (ss2.take 70); unfold maxLen; omega) rfl) (fun _ _ _ h => h.sb) ?_ d_stop
           rintro ⟨FA2, fc2⟩ hF2
           refine dx rfl rfl (ef_call rfl rfl K25 (fun _ e => by cases e; rfl) [] _ (.refl _) _ _ _ (fun w hS => by exact c25 w X1 Y1 FA2 (min n1 12) (min m1 70) _ x1 y1 fc2 (ps1.take 12) (ss1.take 70) (deltaL (ps1.take 12) (ss1.take 70) (ps2.take 12) (ss2.take 70) ++ [0]) (hG.hand (Ec := []) hS) (Sl.ofRow' hS (by repeat constructor)) (Sl.ofRow' hS (by repeat constructor)) (by have h9 := (Sl.ofRow' hS (by repeat constructor)); exact Eq.mp (congrArg (Sl w none' FA2 _ 1) (more_u8s (deltaL (ps1.take 12) (ss1.take 70) (ps2.take 12) (ss2.take 70)))) h9) (fun x hx => by rcases List.mem_append.1 hx with h | h; exact deltaL_lt x h; simp at h; omega) (by first | decide | (simp only [List.length_take]; omega) | omega) (by first | decide | (simp only [List.length_take]; omega) | omega) (by have := deltaL_le (ps1.take 12) (ps2.take 12) (ss1.take 70) (ss2.take 70); omega) hS.own)) (fun _ _ _ h => h.sb) ?_ d_stop
           rintro ⟨qs3, ts3, er3, PB3, pd3, QB3, qd3⟩ ha3
           obtain rfl := back_more hr1 hr2 ha3
           refine dM ?_
           refine dq rfl (rd_extract rfl rfl) rfl ?_
           refine dq rfl (rd_extract rfl rfl) rfl ?_
           refine de rfl rfl (ef_stores A25 rfl rfl rfl (by repeat constructor) (by first | exact SetR.all rfl | repeat constructor) rfl) (fun _ h => h.sb) ?_ d_stop
           refine dq rfl (rd_assign rfl) rfl ?_
           refine d_end ?_
           refine f_front (.blk b4 _ _) (by repeat constructor) ?_
           refine f_front (.blk b5 _ _) (by repeat constructor) ?_
           refine f_front (.row _ _ Y1 _ y1 _) (by repeat constructor) ?_
           refine f_front (.row _ _ X1 _ x1 _) (by repeat constructor) ?_
           refine f_front (.row _ _ Y2 _ y2 _) (by repeat constructor) ?_
           refine f_front (.row _ _ X2 _ x2 _) (by repeat constructor) ?_
           refine f_front (.row _ _ DA1 _ dc1 _) (by repeat constructor) ?_
           refine f_front (.row _ _ QB1 _ qd1 _) (by repeat constructor) ?_
           refine f_front (.row _ _ PB1 _ pd1 _) (by repeat constructor) ?_
           refine f_front (.blk b11 _ _) (by repeat constructor) ?_
           refine f_front (.row _ _ DA2 _ dc2 _) (by repeat constructor) ?_
           refine f_cut (()) (trivial) (by repeat constructor) (fun _ h => h.sb)
          exact d_stop
         exact d_stop
        ·rintro _ _
         refine c_seq ?_
         refine c_seq ?_
         refine c_reg ?_
         refine sM ?_
         refine sq (rd_neq rfl rfl) rfl ?_
         refine sM ?_
         refine s_split (d := 86) rfl (fun g86 => ?_) (fun g86 => ?_)
         ·exact absurd g86 (by simp)
         ·try have g86p := of_decide_eq_false g86
          refine sg1 (fun a hA => wanted_yes hA rfl rfl rfl g86) (rd_move rfl) rfl ?_
          refine sg1 (fun a hA => wanted_yes hA rfl rfl rfl g86) (rd_neq rfl rfl) rfl ?_
          refine sq (rd_pick_ff rfl g86 rfl) rfl ?_
          refine s_end ?_
          refine f_then ?_
          refine c_if rfl (fun h89 => ?_) (fun h89 => ?_)
          ·exact absurd rfl h89
          ·refine c_skip ?_
           refine f_then ?_
           refine c_seq ?_
           refine c_reg ?_
           refine sM ?_
           refine sM ?_
           refine sq (rd_len S37 rfl rfl) rfl ?_
           refine sq (rd_min' rfl rfl (min_nat nb 2000)) rfl ?_
           refine sq (rd_slice_hin S37 rfl rfl (by omega)) rfl ?_
           refine sA ?_
           refine s_end ?_
           refine f_then ?_
           refine c_seq ?_
           refine c_reg ?_
           refine sq (rd_ldsb A25 rfl (by repeat constructor) (by first | exact GetR.all _ | repeat constructor)) rfl ?_
           refine sM ?_
           refine sx (ef_call rfl rfl K25 (fun _ e => by cases e; rfl) [] _ (.refl _) _ _ _ (fun w hS => by exact c25 w X1 Y1 Ab (min n1 12) (min m1 70) (min nb 2000) x1 y1 cb (ps1.take 12) (ss1.take 70) ((lb.take (min nb 2000))) (hG.hand (Ec := []) hS) (Sl.ofRow' hS (by repeat constructor)) (Sl.ofRow' hS (by repeat constructor)) (by have h9 := Sl.take (hb.hand (Ec := []) hS (by decide)) (j := min nb 2000) (Nat.min_le_left _ _); rw [u8s_take] at h9; exact h9) (fun x hx => h256 x (List.mem_of_mem_take hx)) (by first | decide | (simp only [List.length_take]; omega) | omega) (by first | decide | (simp only [List.length_take]; omega) | omega) (by omega) hS.own)) rfl ?_
           rintro ⟨qs4, ts4, er4, PB4, pd4, QB4, qd4⟩ ha4
           dsimp only at ha4
           refine sM ?_
           refine sq (rd_extract rfl rfl) rfl ?_
           refine sq (rd_extract rfl rfl) rfl ?_
           refine sx (ef_alloc Z25 rfl) rfl ?_
           rintro b17 hb17
           refine se (ef_stores A25 rfl rfl rfl (by repeat constructor) (by first | exact SetR.all rfl | repeat constructor) rfl) rfl ?_
           refine sA ?_
           refine s_end ?_
           refine f_then ?_
           refine c_seq ?_
           refine c_seq ?_
           refine c_reg ?_
           refine sM ?_
           refine sq (rd_neq rfl rfl) rfl ?_
           refine s_end ?_
           refine f_then ?_
           refine c_if rfl (fun h102 => ?_) (fun h102 => ?_)
           ·obtain ⟨rfl, rfl⟩ := apply_err ha4 h102
            refine c_seq ?_
            refine c_reg ?_
            refine sM ?_
            refine sM ?_
            refine s_split (d := 104) rfl (fun g104 => ?_) (fun g104 => ?_)
            ·try have g104p := of_decide_eq_true g104
             refine sg1 (fun a hA => wanted_yes hA rfl rfl rfl g104) (rd_ldsb A25 rfl (by repeat constructor) (by first | exact GetR.all _ | repeat constructor)) rfl ?_
             refine sg1 (fun a hA => wanted_yes hA rfl rfl rfl g104) (rd_build St25 rfl (by repeat constructor)) rfl ?_
             refine seg (fun a hA => wanted_yes hA rfl rfl rfl g104) (ef_pw rfl rfl K22 rfl (fun w hS => by exact c22 w PB4 QB4 none none _ _ 0 0 pd4 qd4 0 0 [] [] [] [] (Sl.ofRow' hS (by repeat constructor)) (Sl.ofRow' hS (by repeat constructor)) (Sl.nil _ _ _ _) (Sl.nil _ _ _ _))) ?_
             refine sq (rd_pick_tt rfl g104 rfl) rfl ?_
             refine sA ?_
             refine s_end ?_
             refine f_then ?_
             refine c_ret ?_
             refine f_then_r ?_
             refine f_ret rfl (.tmp rfl .nil) ?_
             refine fun w' hS => ⟨_, rfl, (), ?_, trivial, hS.sub (List.nil_sublist _)⟩
             first | (simp; done) | (simp only [resVal_one]; rw [hD4]; simp)
            ·exact absurd g104 (by simp)
           ·obtain rfl : er4 = 0 := by simpa using h102
            obtain ⟨_, hr4, hD4⟩ := apply_inv (fun x hx => h256 x (List.mem_of_mem_take hx)) ha4
            have hq4 : qs4.length ≤ 1000 := by have := (right_pl hr4).few; rw [List.length_map] at this; omega
            have ht4 : ts4.length ≤ 1000 := by have := (right_sh hr4).few; rw [List.length_map] at this; omega
            refine c_skip ?_
            refine f_then ?_
            refine c_seq ?_
            refine c_regd [.blk b17 _ _, .row _ _ PB4 _ pd4 _, .row _ _ QB4 _ qd4 _, .row _ _ DA2 _ dc2 _, .blk b11 _ _, .row _ _ PB1 _ pd1 _, .row _ _ QB1 _ qd1 _, .row _ _ DA1 _ dc1 _, .row _ _ X2 _ x2 _, .row _ _ Y2 _ y2 _, .row _ _ X1 _ x1 _, .row _ _ Y1 _ y1 _, .blk b5 _ _, .blk b4 _ _] (.q 0 (.q 1 (.q 2 (.alt 3 (.q 4 (.q 5 (.q 6 (.q 7 (.q 10 (.alt 8 (.alt 9 (.alt 11 (.q 12 (.q 13 (.q 14 .done))) .stop) (.alt 11 (.alt 9 (.q 12 (.q 13 (.q 14 .done))) .stop) .stop)) (.alt 11 (.alt 8 (.alt 9 (.q 12 (.q 13 (.q 14 .done))) .stop) .stop) .stop))))))) .stop)))) (by kernel_rfl) (by kernel_rfl) (by kernel_rfl) (by kernel_rfl) (fun _ h => h.sb) ?_
            refine dM ?_
            refine dM ?_
            refine d_split (d := 110) rfl (fun g110 => ?_) (fun g110 => ?_)
            ·try have g110p := of_decide_eq_true g110
             refine dq1 rfl (fun a hA => wanted_yes hA rfl rfl rfl g110) (rd_ldsb A25 rfl (by repeat constructor) (by first | exact GetR.all _ | repeat constructor)) rfl ?_
             refine deg rfl (fun a hA => wanted_yes hA rfl rfl rfl g110) (ef_pw rfl rfl K20 rfl (fun w hS => by exact c20 w PB4 QB4 _ _ pd4 qd4 qs4 ts4 (hG.hand (Ec := []) hS) (Sl.ofRow' hS (by repeat constructor)) (Sl.ofRow' hS (by repeat constructor)) (by first | omega | (dsimp only; omega)) (by first | omega | (dsimp only; omega)))) (fun _ h => h.sb) ?_ d_stop
             refine dq rfl (rd_pick_tt rfl g110 rfl) rfl ?_
             refine dM ?_
             refine d_split (d := 114) rfl (fun g114 => ?_) (fun g114 => ?_)
             ·try have g114p := of_decide_eq_true g114
              refine dq1 rfl (fun a hA => wanted_yes hA rfl rfl rfl g114) (rd_ldsb A25 rfl (by repeat constructor) (by first | exact GetR.all _ | repeat constructor)) rfl ?_
              refine dq1 rfl (fun a hA => wanted_yes hA rfl rfl rfl g114) (rd_ldsb A25 rfl (by repeat constructor) (by first | exact GetR.all _ | repeat constructor)) rfl ?_
              refine dq1 rfl (fun a hA => wanted_yes hA rfl rfl rfl g114) (rd_move rfl) rfl ?_
              refine dxg rfl (fun a hA => wanted_yes hA rfl rfl rfl g114) (ef_call rfl rfl K23 (fun _ e => by cases e; rfl) [] _ (.refl _) _ _ _ (fun w hS => by exact c23 w X1 Y1 PB4 QB4 (min n1 12) (min m1 70) _ _ x1 y1 pd4 qd4 (ps1.take 12) qs4 (ss1.take 70) ts4 (hG.hand (Ec := []) hS) (Sl.ofRow' hS (by repeat constructor)) (Sl.ofRow' hS (by repeat constructor)) (Sl.ofRow' hS (by repeat constructor)) (Sl.ofRow' hS (by repeat constructor)) (by first | omega | (dsimp only; omega)) (by first | omega | (dsimp only; omega)) (by first | omega | (dsimp only; omega)) (by first | omega | (dsimp only; omega)) hS.own)) (fun _ _ _ h => h.sb) ?_ ?_
              ·rintro ⟨DA4, dc4⟩ _
               refine deg rfl (fun a hA => wanted_yes hA rfl rfl rfl g114) (ef_quiet (rd_bstr Tryz.underlying37 Tryz.underlying5 Tryz.underlying9 rfl (fun w hS => ((Sl.ofRow' hS (by repeat constructor)) : Sl w none' _ _ 1 (u8s (deltaL (ps1.take 12) (ss1.take 70) qs4 ts4))))) rfl) (fun _ h => h.sb) ?_ ?_
               ·refine deg rfl (fun a hA => wanted_yes hA rfl rfl rfl g114) (ef_quiet (rd_bstr Tryz.underlying37 Tryz.underlying5 Tryz.underlying9 rfl (fun w hS => ((by have h9 := Sl.take (hb.hand (Ec := []) hS (by decide)) (j := min nb 2000) (Nat.min_le_left _ _); rw [u8s_take] at h9; exact h9) : Sl w none' _ _ 1 (u8s (lb.take (min nb 2000)))))) rfl) (fun _ h => h.sb) ?_ d_stop
                refine dq1 rfl (fun a hA => wanted_yes hA rfl rfl rfl g114) (rd_streq rfl rfl deltaL_lt (fun x hx => h256 x (List.mem_of_mem_take hx))) rfl ?_
                refine dq rfl (rd_pick_tt rfl g114 rfl) rfl ?_
                refine dq rfl (rd_assign rfl) rfl ?_
                refine d_end ?_
                refine f_then ?_
                refine c_ret ?_
                refine f_ret rfl (.tmp rfl .nil) ?_
                refine fun w' hS => ⟨_, rfl, (), ?_, trivial, hS.sub (List.nil_sublist _)⟩
                first | (simp; done) | (simp only [resVal_one]; rw [hD4]; simp)
               refine deg rfl (fun a hA => wanted_yes hA rfl rfl rfl g114) (ef_quiet (rd_bstr Tryz.underlying37 Tryz.underlying5 Tryz.underlying9 rfl (fun w hS => ((by have h9 := Sl.take (hb.hand (Ec := []) hS (by decide)) (j := min nb 2000) (Nat.min_le_left _ _); rw [u8s_take] at h9; exact h9) : Sl w none' _ _ 1 (u8s (lb.take (min nb 2000)))))) rfl) (fun _ h => h.sb) ?_ ?_
               ·refine deg rfl (fun a hA => wanted_yes hA rfl rfl rfl g114) (ef_quiet (rd_bstr Tryz.underlying37 Tryz.underlying5 Tryz.underlying9 rfl (fun w hS => ((Sl.ofRow' hS (by repeat constructor)) : Sl w none' _ _ 1 (u8s (deltaL (ps1.take 12) (ss1.take 70) qs4 ts4))))) rfl) (fun _ h => h.sb) ?_ d_stop
                refine dq1 rfl (fun a hA => wanted_yes hA rfl rfl rfl g114) (rd_streq rfl rfl deltaL_lt (fun x hx => h256 x (List.mem_of_mem_take hx))) rfl ?_
                refine dq rfl (rd_pick_tt rfl g114 rfl) rfl ?_
                refine dq rfl (rd_assign rfl) rfl ?_
                refine d_end ?_
                refine f_then ?_
                refine c_ret ?_
                refine f_ret rfl (.tmp rfl .nil) ?_
                refine fun w' hS => ⟨_, rfl, (), ?_, trivial, hS.sub (List.nil_sublist _)⟩
                first | (simp; done) | (simp only [resVal_one]; rw [hD4]; simp)
               exact d_stop
              refine deg rfl (fun a hA => wanted_yes hA rfl rfl rfl g114) (ef_quiet (rd_bstr Tryz.underlying37 Tryz.underlying5 Tryz.underlying9 rfl (fun w hS => ((by have h9 := Sl.take (hb.hand (Ec := []) hS (by decide)) (j := min nb 2000) (Nat.min_le_left _ _); rw [u8s_take] at h9; exact h9) : Sl w none' _ _ 1 (u8s (lb.take (min nb 2000)))))) rfl) (fun _ h => h.sb) ?_ ?_
              ·refine dxg rfl (fun a hA => wanted_yes hA rfl rfl rfl g114) (ef_call rfl rfl K23 (fun _ e => by cases e; rfl) [] _ (.refl _) _ _ _ (fun w hS => by exact c23 w X1 Y1 PB4 QB4 (min n1 12) (min m1 70) _ _ x1 y1 pd4 qd4 (ps1.take 12) qs4 (ss1.take 70) ts4 (hG.hand (Ec := []) hS) (Sl.ofRow' hS (by repeat constructor)) (Sl.ofRow' hS (by repeat constructor)) (Sl.ofRow' hS (by repeat constructor)) (Sl.ofRow' hS (by repeat constructor)) (by first | omega | (dsimp only; omega)) (by first | omega | (dsimp only; omega)) (by first | omega | (dsimp only; omega)) (by first | omega | (dsimp only; omega)) hS.own)) (fun _ _ _ h => h.sb) ?_ d_stop
               rintro ⟨DA4, dc4⟩ _
               refine deg rfl (fun a hA => wanted_yes hA rfl rfl rfl g114) (ef_quiet (rd_bstr Tryz.underlying37 Tryz.underlying5 Tryz.underlying9 rfl (fun w hS => ((Sl.ofRow' hS (by repeat constructor)) : Sl w none' _ _ 1 (u8s (deltaL (ps1.take 12) (ss1.take 70) qs4 ts4))))) rfl) (fun _ h => h.sb) ?_ d_stop
               refine dq1 rfl (fun a hA => wanted_yes hA rfl rfl rfl g114) (rd_streq rfl rfl deltaL_lt (fun x hx => h256 x (List.mem_of_mem_take hx))) rfl ?_
               refine dq rfl (rd_pick_tt rfl g114 rfl) rfl ?_
               refine dq rfl (rd_assign rfl) rfl ?_
               refine d_end ?_
               refine f_then ?_
               refine c_ret ?_
               refine f_ret rfl (.tmp rfl .nil) ?_
               refine fun w' hS => ⟨_, rfl, (), ?_, trivial, hS.sub (List.nil_sublist _)⟩
               first | (simp; done) | (simp only [resVal_one]; rw [hD4]; simp)
              exact d_stop
             ·exact absurd g114 (by rw [hr4]; simp)
            ·exact absurd g110 (by simp)

end Go.Proofs.YtfccnoccfhgcbaaGreatDoor
namespace Go.Proofs.YtfccnoccfhgcbaaGreatDoor.viewBack
open Go Go.RowKit Go.ChangeShapes Go.WideShapes
theorem below {W W' : World} (h : St W none' [] W') : Below W.heap.size W W' := ⟨h.os, h.tape, h.output, h.size, fun k hk => h.base k hk (none'_no k)⟩
set_option maxRecDepth 100000 in
theorem lifted (os : Os) (started : os.Started) (H : Type) (enc : TypeId × Value → H) :
  ReturnsInHanded {} Tryz.checked os 6 .any (fun w args => (Rows.viewBackSpec.pre enc Tryz.prog Tryz.f6 [] false w args ∧ laidMetH Tryz.prog laid2 w) ∧ sizedMet enc Tryz.prog Tryz.f6 (OpenSpec.ofChange Rows.viewBackSpec) false w args)
   (Rows.viewBackSpec.post enc Tryz.prog Tryz.f6 false true false false) := by
 refine returnsInHanded_of_change_and (C := Tryz.checked) (X := fun w _ => laidMetH Tryz.prog laid2 w) (fun _ _ _ hh h => h.of_heap hh) own started (by kernel_rfl) Tryz.func6
  (ChangeSpec.witness_shaped (enc := enc) (C := Tryz.checked) (os := os) (X := fun w _ => laidMetH Tryz.prog laid2 w) false (World.doorLaid Tryz.prog 400 os) #[.agg #[.slice none 0 0, .slice none 0 0], .agg #[.slice none 0 0, .slice none 0 0], .slice none 0 0, .int .i64 0] 8 rfl (World.shaped_of_RefB (by kernel_rfl) (by kernel_rfl)) (by kernel_rfl) (by kernel_rfl) (by kernel_rfl) (door_met os _)) ?_
 intro W base args ds gs before hval0 hW _ _ hL _
 have hval : ∀ (j : Nat) t v, Tryz.f6.params[j]? = some t → args[j]? = some v → Value.okWide Tryz.prog W .any base t v := hval0
 have hW' := hW
 obtain ⟨p, q, hA0, hV, rfl, hfz, hnd⟩ := hW
 have hA : DataW.TrodAll enc Tryz.prog W 0 (fun _ => true) true Tryz.f6.params.toList args.toList ds p := hA0
 rw [Tryz.params6] at hA hval
 obtain ⟨v0, vs0, d0, ds0, p0, q0, hargs, rfl, rfl, t0, r0⟩ := trodAll_cons hA
 obtain ⟨v1, vs1, d1, ds1, p1, q1, rfl, rfl, rfl, t1, r1⟩ := trodAll_cons r0
 obtain ⟨v2, vs2, d2, ds2, p2, q2, rfl, rfl, rfl, t2, r2⟩ := trodAll_cons r1
 obtain ⟨v3, vs3, d3, ds3, p3, q3, rfl, rfl, rfl, t3, r3⟩ := trodAll_cons r2
 obtain ⟨rfl, rfl, rfl⟩ := trodAll_nil r3
 obtain rfl : args = #[v0, v1, v2, v3] := by cases args; simp_all
 obtain ⟨rfl, rfl⟩ := trodVars_none hV
 have hG := gl_of_laid hL
 have kk0 := t0
 have lt0 : ∀ x ∈ p0, x.block < W.heap.size := by obtain ⟨m, hm⟩ := kk0; exact DataW.trod_lt m _ _ _ hm
 obtain ⟨A0, B0, n0, m0, c0, e0, ps0, ss0, rfl, h0, k0, hc0, he0, ok0, os0⟩ := rd_state t0 (okWide_struct Tryz.underlying25 (hval 0 25 v0 rfl rfl))
 have kk1 := t1
 have lt1 : ∀ x ∈ p1, x.block < W.heap.size := by obtain ⟨m, hm⟩ := kk1; exact DataW.trod_lt m _ _ _ hm
 obtain ⟨A1, B1, n1, m1, c1, e1, ps1, ss1, rfl, h1, k1, hc1, he1, ok1, os1⟩ := rd_state t1 (okWide_struct Tryz.underlying25 (hval 1 25 v1 rfl rfl))
 have kk2 := t2
 have lt2 : ∀ x ∈ p2, x.block < W.heap.size := by obtain ⟨m, hm⟩ := kk2; exact DataW.trod_lt m _ _ _ hm
 obtain ⟨A2, n2, c2, l2, rfl, hc2, h2, lb2⟩ := rd_bytes t2 (okWide_slice Tryz.underlying37 (hval 2 37 v2 rfl rfl))
 obtain ⟨a3, rfl, rfl, rfl, w3⟩ := open_int Tryz.underlying3 (hval 3 3 v3 rfl rfl) t3
 refine Calls.mono (c6 W hG A0 B0 n0 m0 c0 e0 ps0 ss0 h0 k0 hc0 he0 A1 B1 n1 m1 c1 e1 ps1 ss1 h1 k1 hc1 he1 A2 n2 c2 l2 hc2 h2 lb2 a3 (bounds_i64 w3) (St.start W _)) fun e W' h => ?_
 obtain ⟨v, rfl, x, rfl, _, hS⟩ := h
 have bel := below hS
 exact ⟨_, rfl, _, _, _, [], _, [], hW', trodAll_mk1 (shut_bool Tryz.underlying4 _), (trodAll_cons_mk (Below.trod laidOut (by kernel_rfl) (of_decide_eq_true (by kernel_rfl)) kk0 bel lt0) (trodAll_cons_mk (Below.trod laidOut (by kernel_rfl) (of_decide_eq_true (by kernel_rfl)) kk1 bel lt1) (trodAll_cons_mk (Below.trod laidOut (by kernel_rfl) (of_decide_eq_true (by kernel_rfl)) kk2 bel lt2) (trodAll_cons_mk (shut_int Tryz.underlying3 w3) trodAll_mk0)))), rfl, bel.frame _, fun h => by cases h⟩
theorem over : Rows.ViewBackSaid :=
 OpenClaim.holds_of_wide 6 Tryz.f6 rfl rfl rfl rfl rfl rfl rfl ⟨rfl, rfl, rfl, rfl, rfl⟩ rfl rfl rfl rfl rfl (by kernel_rfl) Tryz.func6 (by kernel_rfl)
  (of_decide_eq_true (by kernel_rfl)) (by unfold Func.isWrapper; first | (rw [if_pos (by decide +kernel)]; kernel_rfl) | (rw [if_neg (by decide +kernel)]; exact ⟨rfl, rfl⟩))
  (fun os started H enc _ => lifted os started H enc)
end Go.Proofs.YtfccnoccfhgcbaaGreatDoor.viewBack
namespace Go.Proofs.YtfccnoccfhgcbaaGreatDoor
/-- The card. -/
theorem viewBack_card : Rows.ViewBackCardSaid :=
 Claim7.holds_tied_plain_at .later [] [.wider, .wider] true (true, "4eaa47956d02c688950758280d0594a06d21b47fca31964564c4137525720bfd") false
  viewBack.over (fun _ h => by cases h) (by kernel_rfl) (fun _ h => by cases h) viewBack_row_tie rfl ⟨rfl, rfl⟩ (by kernel_rfl) rfl
  (fun f fn hf hfn => by
   obtain rfl : f = 6 := Option.some.inj ((show Tryz.prog.funcNamed "embrasure/embrasurelaw18.ViewBack" = some 6 by kernel_rfl).symm.trans hf) |>.symm
   obtain rfl : fn = Tryz.f6 := (Option.some.inj (Tryz.func6.symm.trans hfn)).symm
   exact ⟨by kernel_rfl, fun j t ht => by
    rw [Tryz.params6] at ht
    have hm : t ∈ [25, 25, 37, 3] := by simpa using Array.mem_of_getElem? ht
    have hall : ([25, 25, 37, 3].all fun u => !Tryz.prog.wantsStandIn u) = true := by kernel_rfl
    exact (show Tryz.prog.wantsStandIn t = false by simpa using List.all_eq_true.1 hall t hm)⟩)
  (by kernel_rfl)
#print axioms viewBack_card
end Go.Proofs.YtfccnoccfhgcbaaGreatDoor
