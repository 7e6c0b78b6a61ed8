/- The law ViewOwn: it answers true, whatever the input; no conditions beyond those of the statement. -/
import Derived.Test.YtfccnoccfhgcbaaGreatDoorPkE
import Derived.Test.YtfccnoccfhgcbaaGreatDoorProg
import Derived.Test.YtfccnoccfhgcbaaGreatDoorCards
import Derived.Test.YtfccnoccfhgcbaaGreatDoorTie
set_option linter.unusedVariables false
set_option linter.unusedSimpArgs false
set_option maxRecDepth 20000
set_option maxHeartbeats 400000
namespace Go.Proofs.YtfccnoccfhgcbaaGreatDoor
open Go Go.RowKit

theorem perm_sorted : ∀ {l r : List SN}, l.Perm r → l.Pairwise (fun a b => a.pl ≤ b.pl) → r.Pairwise (fun a b => a.pl < b.pl) → l = r
 | l, [], h, _, _ => List.perm_nil.1 h
 | [], x :: r, h, _, _ => by have := h.length_eq; simp at this
 | a :: l, x :: r, h, h1, h2 => by
  have k1 := List.pairwise_cons.1 h1
  have k2 := List.pairwise_cons.1 h2
  have e : a = x := by
   rcases List.mem_cons.1 (h.mem_iff.1 (List.mem_cons_self ..)) with e | ha
   ·exact e
   ·rcases List.mem_cons.1 (h.mem_iff.2 (List.mem_cons_self ..)) with e | hx
    ·exact e.symm
    ·have := k2.1 a ha
     have := k1.1 x hx
     omega
  subst e
  rw [perm_sorted (List.perm_cons _ |>.1 h) k1.2 k2.2]
def QS (id : Int) (q : PL) (s : SH) : Bool := decide ((if decide (s.ow = id) = true then 0 else farOf s.px s.py s.pz q) ≤ 786432)
def QP (id : Int) (q : PL) (p : PL) : Bool := decide (p.id = id ∨ farOf p.px p.py p.pz q ≤ 786432)
theorem outP_split (ps : List PL) (y : List SN) : outP ps y = outP ps (y.filter fun x => decide (x.so = 0)) := by
 induction y with
 | nil => rfl
 | cons x y ih =>
  by_cases h : x.so = 0
  ·rw [List.filter_cons_of_pos (by simpa using h)]
   unfold outP at *
   rw [List.filterMap_cons, List.filterMap_cons, ih]
  ·rw [List.filter_cons_of_neg (by simpa using h), ← ih]
   unfold outP
   rw [List.filterMap_cons, if_neg h]
theorem outS_split (ss : List SH) (y : List SN) : outS ss y = outS ss (y.filter fun x => !decide (x.so = 0)) := by
 induction y with
 | nil => rfl
 | cons x y ih =>
  by_cases h : x.so = 0
  ·rw [List.filter_cons_of_neg (by simpa using h), ← ih]
   unfold outS
   rw [List.filterMap_cons, if_pos h]
  ·rw [List.filter_cons_of_pos (by simpa using h)]
   unfold outS at *
   rw [List.filterMap_cons, List.filterMap_cons, ih]
theorem tpL_mem {me : Nat} {q : PL} {ps : List PL} {x : SN} (h : x ∈ tpL me q ps) : x.so = 0 := by
 unfold tpL at h
 obtain ⟨a, _, hx⟩ := List.mem_flatMap.1 h
 exact (tpOne_mem hx).1
theorem tsL_mem {id : Int} {q : PL} {ss : List SH} {x : SN} (h : x ∈ tsL id q ss) : x.so = 1 := by
 unfold tsL at h
 obtain ⟨a, _, hx⟩ := List.mem_flatMap.1 h
 exact (tsOne_mem hx).1
theorem parts_eq {me : Nat} {id : Int} {q : PL} {ps : List PL} {ss : List SH} {y : List SN} (h : y.Perm (tpL me q ps ++ tsL id q ss)) (hs : y.Pairwise fun a b => a.pl ≤ b.pl) : (y.filter fun x => decide (x.so = 0)) = tpL me q ps ∧ (y.filter fun x => !decide (x.so = 0)) = tsL id q ss := by
 have hb := List.pairwise_append.1 (things_behind me id q ps ss)
 have e1 : ((tpL me q ps ++ tsL id q ss).filter fun x => decide (x.so = 0)) = tpL me q ps := by
  rw [List.filter_append, List.filter_eq_self.2 fun x hx => by simpa using tpL_mem hx, List.filter_eq_nil_iff.2 fun x hx => by simp [tsL_mem hx], List.append_nil]
 have e2 : ((tpL me q ps ++ tsL id q ss).filter fun x => !decide (x.so = 0)) = tsL id q ss := by
  rw [List.filter_append, List.filter_eq_nil_iff.2 fun x hx => by simp [tpL_mem hx], List.filter_eq_self.2 fun x hx => by simp [tsL_mem hx], List.nil_append]
 constructor
 ·refine perm_sorted (by rw [← e1]; exact h.filter _) (hs.sublist List.filter_sublist) (hb.1.imp_of_mem fun {a b} ha hb' hab => ?_)
  have h1 := tpL_mem ha
  have h2 := tpL_mem hb'
  unfold Behind at hab
  omega
 ·refine perm_sorted (by rw [← e2]; exact h.filter _) (hs.sublist List.filter_sublist) (hb.2.1.imp_of_mem fun {a b} ha hb' hab => ?_)
  have h1 := tsL_mem ha
  have h2 := tsL_mem hb'
  unfold Behind at hab
  omega
theorem outS_things {id : Int} {q : PL} {ss : List SH} : ∀ (l : List SH) (n : Nat), ss.drop n = l → outS ss ((l.zipIdx n).flatMap fun x => tsOne id q x.1 x.2) = l.filter (QS id q)
 | [], _, _ => rfl
 | s :: l, n, h => by
  have hs : ss[n]? = some s := by rw [← Nat.add_zero n, ← List.getElem?_drop, h]; rfl
  have hd : ss.drop (n + 1) = l := by rw [← List.drop_drop, h]; rfl
  have ih := outS_things (id := id) (q := q) l (n + 1) hd
  rw [List.zipIdx_cons, List.flatMap_cons]
  unfold outS at ih ⊢
  rw [List.filterMap_append, ih]
  unfold tsOne near
  by_cases hq : (if decide (s.ow = id) = true then 0 else farOf s.px s.py s.pz q) ≤ 786432
  ·rw [if_pos hq, List.filter_cons_of_pos (by unfold QS; exact decide_eq_true hq)]
   simp [hs]
  ·rw [if_neg hq, List.filter_cons_of_neg (by unfold QS; rw [decide_eq_false hq]; decide)]
   simp
theorem outP_things {me : Nat} {id : Int} {q : PL} {ps : List PL} (hme : ∀ i p, ps[i]? = some p → (i = me ↔ p.id = id)) : ∀ (l : List PL) (n : Nat), ps.drop n = l → outP ps ((l.zipIdx n).flatMap fun x => tpOne me q x.1 x.2) = l.filter (QP id q)
 | [], _, _ => rfl
 | p :: l, n, h => by
  have hs : ps[n]? = some p := by rw [← Nat.add_zero n, ← List.getElem?_drop, h]; rfl
  have hd : ps.drop (n + 1) = l := by rw [← List.drop_drop, h]; rfl
  have ih := outP_things (q := q) hme l (n + 1) hd
  have hm := hme n p hs
  rw [List.zipIdx_cons, List.flatMap_cons]
  unfold outP at ih ⊢
  rw [List.filterMap_append, ih]
  unfold tpOne near
  by_cases c : n = me
  ·rw [if_pos c, List.filter_cons_of_pos (by unfold QP; exact decide_eq_true (.inl (hm.1 c)))]
   simp [hs]
  ·rw [if_neg c]
   have c2 : ¬ p.id = id := fun h => c (hm.2 h)
   by_cases hq : farOf p.px p.py p.pz q ≤ 786432
   ·rw [if_pos hq, List.filter_cons_of_pos (by unfold QP; exact decide_eq_true (.inr hq))]
    simp [hs]
   ·rw [if_neg hq, List.filter_cons_of_neg (by unfold QP; rw [decide_eq_false (fun h => h.elim c2 hq)]; decide)]
    simp
theorem rise_one {ps : List PL} (h : Rise (ps.map PL.row)) {i j : Nat} {p r : PL} (hi : ps[i]? = some p) (hj : ps[j]? = some r) (he : p.id = r.id) : i = j := by
 have hp : ps.Pairwise fun p q => p.id < q.id := (List.pairwise_map (f := PL.row) (R := fun r s : RW => r.1 < s.1)).1 h
 rw [List.pairwise_iff_getElem] at hp
 obtain ⟨i1, i2⟩ := List.getElem?_eq_some_iff.1 hi
 obtain ⟨j1, j2⟩ := List.getElem?_eq_some_iff.1 hj
 rcases Nat.lt_trichotomy i j with h | h | h
 ·have := hp i j i1 j1 h
  rw [i2, j2] at this
  omega
 ·exact h
 ·have := hp j i j1 i1 h
  rw [i2, j2] at this
  omega
/-- With budget for all. -/
theorem sees_all {id b : Int} {ps : List PL} {ss : List SH} {y : List SN} (hR : rightS ps ss = true) (h : SeesR id ps ss b y) (hb : 72 ≤ b) {k : Nat} {p : PL} (hk : ps[k]? = some p) (hp : p.id = id) : outP ps y = ps.filter (QP id p) ∧ outS ss y = ss.filter (QS id p) := by
 rcases h with ⟨h, _⟩ | ⟨me, q, h1, h2, h3, h4⟩
 ·rw [List.findIdx?_eq_none_iff] at h
  have := h p (List.mem_of_getElem? hk)
  simp [hp] at this
 ·obtain ⟨hl, hid, _⟩ := List.findIdx?_eq_some_iff_getElem.1 h1
  have hq : ps[me] = q := (List.getElem?_eq_some_iff.1 h2).2
  rw [hq] at hid
  have hid : q.id = id := by simpa using hid
  have hr := (right_pl hR).rise
  have e : k = me := rise_one hr hk h2 (by rw [hp, hid])
  subst e
  have e2 : p = q := Option.some.inj (hk.symm.trans h2)
  subst e2
  have hlen : ((tpL k p ps ++ tsL id p ss).length : Int) ≤ b := by
   have l1 := tpL_len k p ps
   have l2 := tsL_len id p ss
   have l3 := (right_pl hR).few
   have l4 := (right_sh hR).few
   rw [List.length_append]
   rw [List.length_map] at l3 l4
   omega
  obtain ⟨q1, q2⟩ := parts_eq (kept h3 hlen) h4
  have hme : ∀ i r, ps[i]? = some r → (i = k ↔ r.id = id) := fun i r hi => ⟨fun e => by subst e; rw [hi] at hk; rw [Option.some.inj hk]; exact hp, fun e => rise_one hr hi hk (by rw [e, hp])⟩
  constructor
  ·rw [outP_split, q1]
   exact outP_things hme ps 0 rfl
  ·rw [outS_split, q2]
   exact outS_things ss 0 rfl
theorem sees_nobody {b : Int} {ps : List PL} {ss : List SH} {y : List SN} (hR : rightS ps ss = true) (h : SeesR 0 ps ss b y) : outP ps y = [] ∧ outS ss y = [] := by
 rcases h with ⟨_, rfl⟩ | ⟨me, q, h1, h2, _⟩
 ·exact ⟨rfl, rfl⟩
 ·obtain ⟨hl, hid, _⟩ := List.findIdx?_eq_some_iff_getElem.1 h1
  have hid : ps[me].id = 0 := by simpa using hid
  have := (right_pl hR).ids _ (List.mem_map.2 ⟨ps[me], List.getElem_mem hl, rfl⟩)
  have h9 : (ps[me].row).1 = ps[me].id := rfl
  omega
/-- What is seen stands in what is there, one behind the other. -/
theorem fil_at {α : Type} {l : List α} {Q : α → Bool} {k : Nat} {x : α} (hx : l[k]? = some x) (hQ : Q x = true) : (l.filter Q)[((l.take k).filter Q).length]? = some x := by
 have hk := (List.getElem?_eq_some_iff.1 hx).1
 have hd : l.drop k = x :: l.drop (k + 1) := by rw [List.drop_eq_getElem_cons hk, (List.getElem?_eq_some_iff.1 hx).2]
 have e : l.filter Q = (l.take k).filter Q ++ x :: (l.drop (k + 1)).filter Q := by
  conv => lhs; rw [← List.take_append_drop k l, hd]
  rw [List.filter_append, List.filter_cons_of_pos hQ]
 rw [e, List.getElem?_append_right (Nat.le_refl _), Nat.sub_self]
 rfl
theorem fil_no {α : Type} {l : List α} {Q : α → Bool} {i : Nat} {x z : α} (hz : (l.filter Q)[i]? = some z) (hQ : Q x = false) : z ≠ x := fun h => by
 have := (List.mem_filter.1 (List.mem_of_getElem? hz)).2
 rw [h, hQ] at this
 cases this
theorem fil_step {α : Type} {l : List α} {Q : α → Bool} {k : Nat} {x : α} (hx : l[k]? = some x) : ((l.take (k + 1)).filter Q).length = ((l.take k).filter Q).length + (if Q x = true then 1 else 0) := by
 rw [List.take_add_one, hx, List.filter_append, List.length_append]
 congr 1
 cases h : Q x <;> simp [h]
theorem fil_lt {α : Type} {l : List α} {Q : α → Bool} {k : Nat} {x : α} (hx : l[k]? = some x) (hQ : Q x = true) : ((l.take k).filter Q).length < (l.filter Q).length := (List.getElem?_eq_some_iff.1 (fil_at hx hQ)).1
theorem fil_le {α : Type} (l : List α) (Q : α → Bool) (k : Nat) : ((l.take k).filter Q).length ≤ l.length := Nat.le_trans (List.length_filter_le _ _) (List.length_take_le' _ _)
theorem QS_own {id : Int} {q : PL} {s : SH} (h : s.ow = id) : QS id q s = true := by
 unfold QS
 rw [if_pos (decide_eq_true h)]
 rfl
/-- Who is asked for. -/
theorem cut_in (x : Int) {n : Nat} (hn : 0 < n) : ∃ k : Nat, k < n ∧ (bits .and .i64 x 65535).tmod (n : Int) = (k : Int) := by
 have e : bits .and .i64 x 65535 = IntKind.i64.wrap ((BitVec.ofInt 64 x &&& BitVec.ofInt 64 65535).toNat : Int) := rfl
 have h1 : (BitVec.ofInt 64 65535).toNat = 65535 := rfl
 have h2 : (BitVec.ofInt 64 x &&& BitVec.ofInt 64 65535).toNat ≤ 65535 := by
  rw [BitVec.toNat_and, h1]
  exact Nat.and_le_right
 have h3 : bits .and .i64 x 65535 = ((BitVec.ofInt 64 x &&& BitVec.ofInt 64 65535).toNat : Int) := by rw [e, wrap_i64 ⟨by omega, by omega⟩]
 refine ⟨(BitVec.ofInt 64 x &&& BitVec.ofInt 64 65535).toNat % n, Nat.mod_lt _ hn, ?_⟩
 rw [h3, Int.tmod_eq_emod_of_nonneg (by omega)]
 rfl
end Go.Proofs.YtfccnoccfhgcbaaGreatDoor
namespace Go.Proofs.YtfccnoccfhgcbaaGreatDoor
open Go Go.RowKit
theorem K14 : callTy Tryz.prog 14 := by unfold callTy; kernel_rfl
theorem K15 : callTy Tryz.prog 15 := by unfold callTy; kernel_rfl
theorem get_ex {α : Type} {l : List α} {k : Nat} (h : k < l.length) : ∃ x, l[k]? = some x := ⟨l[k], List.getElem?_eq_getElem h⟩

theorem c11 (w : World) (hG : Gl w none') (A1 B1 : Option Addr) (n1 m1 c1 d1 : Nat) (ps1 : List PL) (ss1 : List SH) (h1 : Sl w none' A1 n1 15 (flat PL.enc ps1)) (k1 : Sl w none' B1 m1 11 (flat SH.enc ss1)) (hc1 : n1 ≤ c1) (hd1 : m1 ≤ d1) (ok1 : ∀ p ∈ ps1, p.ok) (os1 : ∀ s ∈ ss1, s.ok) (x2 : Int) (hx2 : -9223372036854775808 ≤ x2 ∧ x2 ≤ 9223372036854775807) (hS : St w (fpOf []) [] w) : Calls Tryz.prog 11 [.agg #[.slice A1 n1 c1, .slice B1 m1 d1], .int .i64 x2].toArray w (RtE fun v w' => ∃ x : Unit, v = (fun _ => .bool true) x ∧ (fun _ => True) x ∧ St w (fpOf []) ((fun _ => []) x) w') := by
 refine enter Tryz.func11 rfl Tryz.ntmps11 rfl hS ?_
 refine c_seq ?_
 refine c_reg ?_
 refine sx (ef_box rfl rfl rfl) rfl ?_
 rintro b2 hb2
 refine sq (rd_assign rfl) rfl ?_
 refine s_end ?_
 refine f_then ?_
 refine c_seq ?_
 refine c_reg ?_
 refine sx (ef_call rfl rfl K14 (fun _ e => by cases e; rfl) [] _ (.refl _) _ _ _ (fun w hS => by exact c14 w (hG.hand (Ec := []) hS) hS.own)) rfl ?_
 rintro _ _
 refine sq (rd_assign rfl) rfl ?_
 refine s_end ?_
 refine f_then ?_
 refine c_seq ?_
 refine c_reg ?_
 refine sq (rd_ldsb A25 rfl (by first | exact .head _) (by first | exact GetR.all _ | repeat constructor)) rfl ?_
 refine sx (ef_call rfl rfl K15 (fun _ e => by cases e; rfl) [] _ (.refl _) _ _ _ (fun w hS => by exact c15 w A1 B1 n1 m1 c1 d1 ps1 ss1 (h1.hand hS (by decide)) (k1.hand hS (by decide)) hc1 hd1 hS.own)) rfl ?_
 rintro ⟨X1, x1, Y1, y1⟩ _
 refine se (ef_stores A25 rfl rfl rfl (by repeat constructor) (by first | exact SetR.all rfl | repeat constructor) rfl) rfl ?_
 refine s_end ?_
 refine f_then ?_
 refine c_seq ?_
 refine c_seq ?_
 refine c_reg ?_
 refine sq (rd_field F25_0 rfl) rfl ?_
 refine sq (rd_ldb C22 rfl (by repeat constructor) rfl) rfl ?_
 refine sq (rd_len S22 rfl rfl) rfl ?_
 refine sq (rd_eql rfl rfl) rfl ?_
 refine sq (rd_move rfl) rfl ?_
 refine s_split (d := 21) rfl (fun g21 => ?_) (fun g21 => ?_)
 ·try have g21p := of_decide_eq_true g21
  refine sg0 (fun a hA => wanted_no hA rfl rfl rfl g21 rfl) rfl ?_
  refine sg0 (fun a hA => wanted_no hA rfl rfl rfl g21 rfl) rfl ?_
  refine sg0 (fun a hA => wanted_no hA rfl rfl rfl g21 rfl) rfl ?_
  refine sq (rd_pick_tt rfl g21 rfl) rfl ?_
  refine s_end ?_
  refine f_then ?_
  refine c_lit_t rfl ?_
  refine c_seq ?_
  refine c_reg ?_
  refine sq (rd_move rfl) rfl ?_
  refine sq (rd_assign rfl) rfl ?_
  refine s_end ?_
  refine f_then ?_
  refine c_ret ?_
  refine f_then_r ?_
  refine f_ret rfl (.tmp rfl .nil) ?_
  refine fun w' hS => ⟨_, rfl, (), ?_, trivial, hS.sub (List.nil_sublist _)⟩
  first | (simp; done) | (simp only [resVal_one]; rw [e3, e4]; simp)
 ·try have g21p := of_decide_eq_false g21
  refine sg1 (fun a hA => wanted_yes hA rfl rfl rfl g21) (rd_ldsb A25 rfl (by repeat constructor) (by first | exact GetR.all _ | repeat constructor)) rfl ?_
  refine seg (fun a hA => wanted_yes hA rfl rfl rfl g21) (ef_pw rfl rfl K20 rfl (fun w hS => by exact c20 w X1 Y1 (min n1 12) (min m1 70) x1 y1 (ps1.take 12) (ss1.take 70) (hG.hand (Ec := []) hS) (Sl.ofRow' hS (by repeat constructor)) (Sl.ofRow' hS (by repeat constructor)) (by first | decide | (simp only [List.length_take]; omega) | omega) (by first | decide | (simp only [List.length_take]; omega) | omega))) ?_
  refine sg1 (fun a hA => wanted_yes hA rfl rfl rfl g21) ((by first | exact rd_notd rfl | exact rd_not rfl)) rfl ?_
  refine sq (rd_pick_ff rfl g21 rfl) rfl ?_
  refine s_end ?_
  refine f_then ?_
  refine c_cond rfl (fun h25 => ?_) (fun h25 => ?_)
  ·refine c_seq ?_
   refine c_reg ?_
   refine sq (rd_move rfl) rfl ?_
   refine sq (rd_assign rfl) rfl ?_
   refine s_end ?_
   refine f_then ?_
   refine c_ret ?_
   refine f_then_r ?_
   refine f_ret rfl (.tmp rfl .nil) ?_
   refine fun w' hS => ⟨_, rfl, (), ?_, trivial, hS.sub (List.nil_sublist _)⟩
   first | (simp; done) | (simp only [resVal_one]; rw [e3, e4]; simp)
  ·refine c_skip ?_
   refine f_then ?_
   refine c_seq ?_
   have hR : rightS (ps1.take 12) (ss1.take 70) = true := by simpa using h25
   have q1 : (ps1.take 12).length = min n1 12 := by have := h1.len; rw [flat_len PL.enc_len] at this; rw [List.length_take]; omega
   have q2 : (ss1.take 70).length = min m1 70 := by have := k1.len; rw [flat_len SH.enc_len] at this; rw [List.length_take]; omega
   have hn0 : ¬ ((min n1 12 : Nat) : Int) = 0 := by simpa using g21
   obtain ⟨kk, hkk, hck⟩ := cut_in x2 (n := min n1 12) (by omega)
   obtain ⟨p0, hp0⟩ : ∃ p, (ps1.take 12)[kk]? = some p := get_ex (by omega)
   refine c_know (fun _ h => fun h0 => ((row_know (e := 51) (sz := 15) (A := X1) (m := (min n1 12)) (cap := x1) (by repeat constructor) _ h).2.2.2 h0).1) (fun hplX => ?_)
   refine c_know (fun _ h => fun h0 => ((row_know (e := 54) (sz := 11) (A := Y1) (m := (min m1 70)) (cap := y1) (by repeat constructor) _ h).2.2.2 h0).1) (fun hplY => ?_)
   refine c_regd [.row _ _ X1 _ x1 _, .row _ _ Y1 _ y1 _, .blk b2 _ _] (.q 0 (.q 1 (.q 2 (.q 3 (.q 4 (.q 5 (.q 6 (.q 7 (.q 8 (.q 9 (.q 10 (.q 11 .done)))))))))))) (by kernel_rfl) (by kernel_rfl) (by kernel_rfl) (by kernel_rfl) (fun _ h => h.sb) ?_
   refine dq rfl (rd_field F25_0 rfl) rfl ?_
   refine dq rfl (rd_ldb C22 rfl (by repeat constructor) rfl) rfl ?_
   refine dq rfl (rd_move rfl) rfl ?_
   refine dq rfl (rd_and' rfl rfl rfl) rfl ?_
   refine dq rfl (rd_field F25_0 rfl) rfl ?_
   refine dq rfl (rd_ldb C22 rfl (by repeat constructor) rfl) rfl ?_
   refine dq rfl (rd_len S22 rfl rfl) rfl ?_
   refine dq rfl (rd_rem rfl rfl (by omega) hck) rfl ?_
   refine dq rfl (rd_index S22 rfl rfl hplX (by omega) (by omega)) rfl ?_
   refine dq rfl (rd_field F51_0 rfl) rfl ?_
   refine dq rfl (rd_ldr2 (A := X1) (e := 51) (sz := 15) (m := min n1 12) (cap := x1) (kk * 15 + 0) C3 (by repeat constructor) rfl rfl (by simp only [Int.toNat_natCast]; omega) ((flat_part PL.enc_len _ kk p0 hp0).2 0 (by decide))) rfl ?_
   refine dq rfl (rd_assign rfl) rfl ?_
   refine d_end ?_
   refine f_then ?_
   refine c_seq ?_
   refine c_reg ?_
   refine sq (rd_move rfl) rfl ?_
   refine sq (rd_ldsb A25 rfl (by repeat constructor) (by first | exact GetR.all _ | repeat constructor)) rfl ?_
   refine sx (ef_call rfl rfl K16 (fun _ e => by cases e; rfl) [] _ (.refl _) _ _ _ (fun w hS => by exact c16 w X1 Y1 (min n1 12) (min m1 70) x1 y1 p0.id 100 (ps1.take 12) (ss1.take 70) (Sl.ofRow' hS (by repeat constructor)) (Sl.ofRow' hS (by repeat constructor)) (fun p h => ok1 p (List.mem_of_mem_take h)) (fun s h => os1 s (List.mem_of_mem_take h)) (by omega) (by omega) hS.own)) rfl ?_
   rintro ⟨ys, VA, vc, WA, wc⟩ hy
   obtain ⟨e1, e2⟩ := sees_all hR hy (by decide) hp0 rfl
   dsimp only at e1 e2
   refine s_know (fun _ h => fun h0 => ((row_know (e := 51) (sz := 15) (A := VA) (m := (outP (ps1.take 12) ys).length) (cap := vc) (by repeat constructor) _ h).2.2.2 h0).1) (fun hplV => ?_)
   refine s_know (fun _ h => fun h0 => ((row_know (e := 54) (sz := 11) (A := WA) (m := (outS (ss1.take 70) ys).length) (cap := wc) (by repeat constructor) _ h).2.2.2 h0).1) (fun hplW => ?_)
   refine sx (ef_alloc Z25 rfl) rfl ?_
   rintro b7 hb7
   refine se (ef_stores A25 rfl rfl rfl (by repeat constructor) (by first | exact SetR.all rfl | repeat constructor) rfl) rfl ?_
   refine s_end ?_
   refine f_then ?_
   refine c_seq ?_
   refine c_reg ?_
   refine sq (rd_assign rfl) rfl ?_
   refine s_end ?_
   refine f_then ?_
   refine c_seq ?_
   refine c_seq ?_
   refine c_reg ?_
   refine sq (rd_assign rfl) rfl ?_
   refine s_end ?_
   refine f_then ?_
   refine c_block ?_
   refine c_keep (L' := [(2, _), (4, _), (5, _), (6, _), (7, _), (8, _), (9, _)]) (by repeat constructor) ?_
   refine c_for (α := Nat) (fun k => k ≤ min m1 70) (fun k => []) [.blk b7 _ _, .row _ _ VA _ vc _, .row _ _ WA _ wc _, .row _ _ X1 _ x1 _, .row _ _ Y1 _ y1 _, .blk b2 _ _] (fun k => [(8, .int .i64 (((((ss1.take 70).take k).filter (QS p0.id p0)).length : Nat) : Int)), (9, .int .i64 (k : Int))]) [(2, _), (4, _), (5, _), (6, _), (7, _)] (fun k => (min m1 70) - k) (0) (Nat.zero_le _) (by repeat constructor) (fun _ h => h) ?_
   rintro k hk
   refine c_seq ?_
   refine c_seq ?_
   refine c_reg ?_
   refine sq (rd_move rfl) rfl ?_
   refine sq (rd_field F25_1 rfl) rfl ?_
   refine sq (rd_ldb C23 rfl (by repeat constructor) rfl) rfl ?_
   refine sq (rd_len S23 rfl rfl) rfl ?_
   refine sq (rd_lss rfl rfl) rfl ?_
   refine s_end ?_
   refine f_then ?_
   refine c_if rfl (fun h45 => ?_) (fun h45 => ?_)
   ·have hkn : k < min m1 70 := by omega
    obtain ⟨s, hs⟩ : ∃ s, (ss1.take 70)[k]? = some s := get_ex (by omega)
    have hst := fil_step (Q := (QS p0.id p0)) hs
    have hcl := fil_le (ss1.take 70) (QS p0.id p0) k
    refine c_skip ?_
    refine f_then ?_
    refine c_seq ?_
    refine c_block ?_
    refine c_seq ?_
    refine c_regd [.blk b7 _ _, .row _ _ VA _ vc _, .row _ _ WA _ wc _, .row _ _ X1 _ x1 _, .row _ _ Y1 _ y1 _, .blk b2 _ _] (.q 0 (.q 1 (.q 2 (.q 3 (.q 4 (.q 5 (.q 6 (.q 7 (.q 8 (.q 9 (.q 10 (.q 11 (.q 12 (.q 13 (.q 14 (.q 15 (.q 16 (.q 17 (.q 18 .done))))))))))))))))))) (by kernel_rfl) (by kernel_rfl) (by kernel_rfl) (by kernel_rfl) (fun _ h => h.sb) ?_
    refine dq rfl (rd_move rfl) rfl ?_
    refine dq rfl (rd_field F25_1 rfl) rfl ?_
    refine dq rfl (rd_ldb C23 rfl (by repeat constructor) rfl) rfl ?_
    refine dq rfl (rd_len S23 rfl rfl) rfl ?_
    refine dq rfl (rd_lss rfl rfl) rfl ?_
    refine dq rfl (rd_move rfl) rfl ?_
    refine d_split (d := 53) rfl (fun g53 => ?_) (fun g53 => ?_)
    ·have hi : (((ss1.take 70).take k).filter (QS p0.id p0)).length < (outS (ss1.take 70) ys).length := by simpa using g53
     obtain ⟨z, hz⟩ : ∃ z, (outS (ss1.take 70) ys)[(((ss1.take 70).take k).filter (QS p0.id p0)).length]? = some z := get_ex hi
     try have g53p := of_decide_eq_true g53
     refine dq1 rfl (fun a hA => wanted_yes hA rfl rfl rfl g53) (rd_field F25_1 rfl) rfl ?_
     refine dq1 rfl (fun a hA => wanted_yes hA rfl rfl rfl g53) (rd_ldb C23 rfl (by repeat constructor) rfl) rfl ?_
     refine dq1 rfl (fun a hA => wanted_yes hA rfl rfl rfl g53) (rd_move rfl) rfl ?_
     refine dq1 rfl (fun a hA => wanted_yes hA rfl rfl rfl g53) (rd_index S23 rfl rfl hplW (by omega) (by omega)) rfl ?_
     refine dq1 rfl (fun a hA => wanted_yes hA rfl rfl rfl g53) (rd_ldsr A54 (by repeat constructor) rfl (flat_part SH.enc_len (outS (ss1.take 70) ys) _ z hz)) rfl ?_
     refine dq1 rfl (fun a hA => wanted_yes hA rfl rfl rfl g53) (rd_field F25_1 rfl) rfl ?_
     refine dq1 rfl (fun a hA => wanted_yes hA rfl rfl rfl g53) (rd_ldb C23 rfl (by repeat constructor) rfl) rfl ?_
     refine dq1 rfl (fun a hA => wanted_yes hA rfl rfl rfl g53) (rd_move rfl) rfl ?_
     refine dq1 rfl (fun a hA => wanted_yes hA rfl rfl rfl g53) (rd_index S23 rfl rfl hplY (by omega) (by omega)) rfl ?_
     refine dq1 rfl (fun a hA => wanted_yes hA rfl rfl rfl g53) (rd_ldsr A54 (by repeat constructor) rfl (flat_part SH.enc_len (ss1.take 70) _ s hs)) rfl ?_
     refine dq1 rfl (fun a hA => wanted_yes hA rfl rfl rfl g53) (rd_eqs Eg54 rfl rfl (eqSH z s)) rfl ?_
     refine dq rfl (rd_pick_tt rfl g53 rfl) rfl ?_
     refine dq rfl (rd_assign rfl) rfl ?_
     refine d_end ?_
     refine f_then ?_
     refine c_seq ?_
     refine c_seq ?_
     refine c_reg ?_
     refine sq (rd_move rfl) rfl ?_
     refine s_end ?_
     refine f_then ?_
     refine c_cond rfl (fun h66 => ?_) (fun h66 => ?_)
     ·have hzs : z = s := of_decide_eq_true h66
      have hQ : QS p0.id p0 s = true := by
       have h9 := List.mem_of_getElem? hz
       rw [e2] at h9
       rw [← hzs]
       exact (List.mem_filter.1 h9).2
      refine c_reg ?_
      refine sq (rd_move rfl) rfl ?_
      refine sq (rd_add rfl rfl (by first | exact wrap_i64 (by omega) | exact rfl)) rfl ?_
      refine sq (rd_assign rfl) rfl ?_
      refine s_end ?_
      refine f_then ?_
      refine c_seq ?_
      refine c_reg ?_
      refine sq (rd_field F25_1 rfl) rfl ?_
      refine sq (rd_ldb C23 rfl (by repeat constructor) rfl) rfl ?_
      refine sq (rd_move rfl) rfl ?_
      refine sq (rd_index S23 rfl rfl hplY (by omega) (by omega)) rfl ?_
      refine sq (rd_field F54_1 rfl) rfl ?_
      refine sq (rd_ldr2 (A := Y1) (e := 54) (sz := 11) (m := min m1 70) (cap := y1) (k * 11 + 1) C3 (by repeat constructor) rfl rfl (by simp only [Int.toNat_natCast]; omega) ((flat_part SH.enc_len _ k s hs).2 1 (by decide))) rfl ?_
      refine sq (rd_move rfl) rfl ?_
      refine sq (rd_eql rfl rfl) rfl ?_
      refine sq (rd_move rfl) rfl ?_
      refine s_split (d := 77) rfl (fun g77 => ?_) (fun g77 => ?_)
      ·try have g77p := of_decide_eq_true g77
       refine sg1 (fun a hA => wanted_yes hA rfl rfl rfl g77) (rd_move rfl) rfl ?_
       refine sg1 (fun a hA => wanted_yes hA rfl rfl rfl g77) ((by first | exact rd_notd rfl | exact rd_not rfl)) rfl ?_
       refine sq (rd_pick_tt rfl g77 rfl) rfl ?_
       refine s_end ?_
       refine f_then ?_
       refine c_cond rfl (fun h80 => ?_) (fun h80 => ?_)
       ·simp [hzs] at h80
       ·refine c_skip ?_
        refine f_blk ?_
        refine f_then ?_
        refine c_reg ?_
        refine sq (rd_move rfl) rfl ?_
        refine sq (rd_add rfl rfl (by first | exact wrap_i64 (by omega) | exact rfl)) rfl ?_
        refine sq (rd_assign rfl) rfl ?_
        refine s_end ?_
        refine f_again (k + 1) (by omega) (by omega) (.cons ((congrArg (fun x : Int => some (Value.int .i64 x)) (by rw [hst, if_pos hQ]; omega))) (by repeat constructor)) (fun _ h => h.sb)
      ·try have g77p := of_decide_eq_false g77
       refine sg0 (fun a hA => wanted_no hA rfl rfl rfl g77 rfl) rfl ?_
       refine sg0 (fun a hA => wanted_no hA rfl rfl rfl g77 rfl) rfl ?_
       refine sq (rd_pick_ff rfl g77 rfl) rfl ?_
       refine s_end ?_
       refine f_then ?_
       refine c_lit_f rfl ?_
       refine c_skip ?_
       refine f_blk ?_
       refine f_then ?_
       refine c_reg ?_
       refine sq (rd_move rfl) rfl ?_
       refine sq (rd_add rfl rfl (by first | exact wrap_i64 (by omega) | exact rfl)) rfl ?_
       refine sq (rd_assign rfl) rfl ?_
       refine s_end ?_
       refine f_again (k + 1) (by omega) (by omega) (.cons ((congrArg (fun x : Int => some (Value.int .i64 x)) (by rw [hst, if_pos hQ]; omega))) (by repeat constructor)) (fun _ h => h.sb)
     ·have hzs : ¬ z = s := of_decide_eq_false h66
      have hQ : QS p0.id p0 s = false := by
       cases h9 : QS p0.id p0 s with
       | false => rfl
       | true => have h8 := fil_at hs h9; rw [e2, h8] at hz; exact absurd (Option.some.inj hz).symm hzs
      refine c_skip ?_
      refine f_then ?_
      refine c_seq ?_
      refine c_reg ?_
      refine sq (rd_field F25_1 rfl) rfl ?_
      refine sq (rd_ldb C23 rfl (by repeat constructor) rfl) rfl ?_
      refine sq (rd_move rfl) rfl ?_
      refine sq (rd_index S23 rfl rfl hplY (by omega) (by omega)) rfl ?_
      refine sq (rd_field F54_1 rfl) rfl ?_
      refine sq (rd_ldr2 (A := Y1) (e := 54) (sz := 11) (m := min m1 70) (cap := y1) (k * 11 + 1) C3 (by repeat constructor) rfl rfl (by simp only [Int.toNat_natCast]; omega) ((flat_part SH.enc_len _ k s hs).2 1 (by decide))) rfl ?_
      refine sq (rd_move rfl) rfl ?_
      refine sq (rd_eql rfl rfl) rfl ?_
      refine sq (rd_move rfl) rfl ?_
      refine s_split (d := 77) rfl (fun g77_1 => ?_) (fun g77_1 => ?_)
      ·exact absurd (QS_own (q := p0) (of_decide_eq_true g77_1)) (by rw [hQ]; decide)
      ·try have g77_1p := of_decide_eq_false g77_1
       refine sg0 (fun a hA => wanted_no hA rfl rfl rfl g77_1 rfl) rfl ?_
       refine sg0 (fun a hA => wanted_no hA rfl rfl rfl g77_1 rfl) rfl ?_
       refine sq (rd_pick_ff rfl g77_1 rfl) rfl ?_
       refine s_end ?_
       refine f_then ?_
       refine c_lit_f rfl ?_
       refine c_skip ?_
       refine f_blk ?_
       refine f_then ?_
       refine c_reg ?_
       refine sq (rd_move rfl) rfl ?_
       refine sq (rd_add rfl rfl (by first | exact wrap_i64 (by omega) | exact rfl)) rfl ?_
       refine sq (rd_assign rfl) rfl ?_
       refine s_end ?_
       refine f_again (k + 1) (by omega) (by omega) (.cons ((congrArg (fun x : Int => some (Value.int .i64 x)) (by rw [hst, if_neg (by rw [hQ]; decide)]; rfl))) (by repeat constructor)) (fun _ h => h.sb)
    ·have hi : ¬ (((ss1.take 70).take k).filter (QS p0.id p0)).length < (outS (ss1.take 70) ys).length := by simpa using g53
     have hQ : QS p0.id p0 s = false := by
      cases h9 : QS p0.id p0 s with
      | false => rfl
      | true => have h8 := fil_lt hs h9; rw [e2] at hi; omega
     try have g53p := of_decide_eq_false g53
     refine dq0 rfl (fun a hA => wanted_no hA rfl rfl rfl g53 rfl) rfl ?_
     refine dq0 rfl (fun a hA => wanted_no hA rfl rfl rfl g53 rfl) rfl ?_
     refine dq0 rfl (fun a hA => wanted_no hA rfl rfl rfl g53 rfl) rfl ?_
     refine dq0 rfl (fun a hA => wanted_no hA rfl rfl rfl g53 rfl) rfl ?_
     refine dq0 rfl (fun a hA => wanted_no hA rfl rfl rfl g53 rfl) rfl ?_
     refine dq0 rfl (fun a hA => wanted_no hA rfl rfl rfl g53 rfl) rfl ?_
     refine dq0 rfl (fun a hA => wanted_no hA rfl rfl rfl g53 rfl) rfl ?_
     refine dq0 rfl (fun a hA => wanted_no hA rfl rfl rfl g53 rfl) rfl ?_
     refine dq0 rfl (fun a hA => wanted_no hA rfl rfl rfl g53 rfl) rfl ?_
     refine dq0 rfl (fun a hA => wanted_no hA rfl rfl rfl g53 rfl) rfl ?_
     refine dq0 rfl (fun a hA => wanted_no hA rfl rfl rfl g53 rfl) rfl ?_
     refine dq rfl (rd_pick_ff rfl g53 rfl) rfl ?_
     refine dq rfl (rd_assign rfl) rfl ?_
     refine d_end ?_
     refine f_then ?_
     refine c_seq ?_
     refine c_seq ?_
     refine c_reg ?_
     refine sq (rd_move rfl) rfl ?_
     refine s_end ?_
     refine f_then ?_
     refine c_lit_f rfl ?_
     refine c_skip ?_
     refine f_then ?_
     refine c_seq ?_
     refine c_reg ?_
     refine sq (rd_field F25_1 rfl) rfl ?_
     refine sq (rd_ldb C23 rfl (by repeat constructor) rfl) rfl ?_
     refine sq (rd_move rfl) rfl ?_
     refine sq (rd_index S23 rfl rfl hplY (by omega) (by omega)) rfl ?_
     refine sq (rd_field F54_1 rfl) rfl ?_
     refine sq (rd_ldr2 (A := Y1) (e := 54) (sz := 11) (m := min m1 70) (cap := y1) (k * 11 + 1) C3 (by repeat constructor) rfl rfl (by simp only [Int.toNat_natCast]; omega) ((flat_part SH.enc_len _ k s hs).2 1 (by decide))) rfl ?_
     refine sq (rd_move rfl) rfl ?_
     refine sq (rd_eql rfl rfl) rfl ?_
     refine sq (rd_move rfl) rfl ?_
     refine s_split (d := 77) rfl (fun g77_2 => ?_) (fun g77_2 => ?_)
     ·exact absurd (QS_own (q := p0) (of_decide_eq_true g77_2)) (by rw [hQ]; decide)
     ·try have g77_2p := of_decide_eq_false g77_2
      refine sg0 (fun a hA => wanted_no hA rfl rfl rfl g77_2 rfl) rfl ?_
      refine sg0 (fun a hA => wanted_no hA rfl rfl rfl g77_2 rfl) rfl ?_
      refine sq (rd_pick_ff rfl g77_2 rfl) rfl ?_
      refine s_end ?_
      refine f_then ?_
      refine c_lit_f rfl ?_
      refine c_skip ?_
      refine f_blk ?_
      refine f_then ?_
      refine c_reg ?_
      refine sq (rd_move rfl) rfl ?_
      refine sq (rd_add rfl rfl (by first | exact wrap_i64 (by omega) | exact rfl)) rfl ?_
      refine sq (rd_assign rfl) rfl ?_
      refine s_end ?_
      refine f_again (k + 1) (by omega) (by omega) (.cons ((congrArg (fun x : Int => some (Value.int .i64 x)) (by rw [hst, if_neg (by rw [hQ]; decide)]; rfl))) (by repeat constructor)) (fun _ h => h.sb)
   ·have hcS : (((ss1.take 70).take k).filter (QS p0.id p0)).length = (outS (ss1.take 70) ys).length := by rw [e2, List.take_of_length_le (by omega)]
    have hclS := fil_le (ss1.take 70) (QS p0.id p0) k
    refine c_exit ?_
    refine f_then_x ?_
    refine f_then_x ?_
    refine f_blk_x ?_
    refine f_then ?_
    refine c_seq ?_
    refine c_reg ?_
    refine sq (rd_assign rfl) rfl ?_
    refine s_end ?_
    refine f_then ?_
    refine c_seq ?_
    refine c_seq ?_
    refine c_reg ?_
    refine sq (rd_assign rfl) rfl ?_
    refine s_end ?_
    refine f_then ?_
    refine c_block ?_
    refine c_keep (L' := [(8, _), (2, _), (4, _), (5, _), (7, _), (11, _), (12, _)]) (by repeat constructor) ?_
    refine c_for (α := Nat) (fun k => k ≤ min n1 12) (fun k => []) [.blk b7 _ _, .row _ _ VA _ vc _, .row _ _ WA _ wc _, .row _ _ X1 _ x1 _, .row _ _ Y1 _ y1 _, .blk b2 _ _] (fun k => [(11, .int .i64 (((((ps1.take 12).take k).filter (QP p0.id p0)).length : Nat) : Int)), (12, .int .i64 (k : Int))]) [(8, _), (2, _), (4, _), (5, _), (7, _)] (fun k => (min n1 12) - k) (0) (Nat.zero_le _) (by repeat constructor) (fun _ h => h) ?_
    rintro k hk
    refine c_seq ?_
    refine c_seq ?_
    refine c_reg ?_
    refine sq (rd_move rfl) rfl ?_
    refine sq (rd_field F25_0 rfl) rfl ?_
    refine sq (rd_ldb C22 rfl (by repeat constructor) rfl) rfl ?_
    refine sq (rd_len S22 rfl rfl) rfl ?_
    refine sq (rd_lss rfl rfl) rfl ?_
    refine s_end ?_
    refine f_then ?_
    refine c_if rfl (fun h85 => ?_) (fun h85 => ?_)
    ·have hkn : k < min n1 12 := by omega
     obtain ⟨s, hs⟩ : ∃ s, (ps1.take 12)[k]? = some s := get_ex (by omega)
     have hst := fil_step (Q := (QP p0.id p0)) hs
     have hcl := fil_le (ps1.take 12) (QP p0.id p0) k
     refine c_skip ?_
     refine f_then ?_
     refine c_seq ?_
     refine c_block ?_
     refine c_seq ?_
     refine c_regd [.blk b7 _ _, .row _ _ VA _ vc _, .row _ _ WA _ wc _, .row _ _ X1 _ x1 _, .row _ _ Y1 _ y1 _, .blk b2 _ _] (.q 0 (.q 1 (.q 2 (.q 3 (.q 4 (.q 5 (.q 6 (.q 7 (.q 8 (.q 9 (.q 10 (.q 11 (.q 12 (.q 13 (.q 14 (.q 15 (.q 16 (.q 17 .done)))))))))))))))))) (by kernel_rfl) (by kernel_rfl) (by kernel_rfl) (by kernel_rfl) (fun _ h => h.sb) ?_
     refine dq rfl (rd_move rfl) rfl ?_
     refine dq rfl (rd_field F25_0 rfl) rfl ?_
     refine dq rfl (rd_ldb C22 rfl (by repeat constructor) rfl) rfl ?_
     refine dq rfl (rd_len S22 rfl rfl) rfl ?_
     refine dq rfl (rd_lss rfl rfl) rfl ?_
     refine dq rfl (rd_move rfl) rfl ?_
     refine d_split (d := 93) rfl (fun g93 => ?_) (fun g93 => ?_)
     ·have hi : (((ps1.take 12).take k).filter (QP p0.id p0)).length < (outP (ps1.take 12) ys).length := by simpa using g93
      obtain ⟨z, hz⟩ : ∃ z, (outP (ps1.take 12) ys)[(((ps1.take 12).take k).filter (QP p0.id p0)).length]? = some z := get_ex hi
      try have g93p := of_decide_eq_true g93
      refine dq1 rfl (fun a hA => wanted_yes hA rfl rfl rfl g93) (rd_field F25_0 rfl) rfl ?_
      refine dq1 rfl (fun a hA => wanted_yes hA rfl rfl rfl g93) (rd_ldb C22 rfl (by repeat constructor) rfl) rfl ?_
      refine dq1 rfl (fun a hA => wanted_yes hA rfl rfl rfl g93) (rd_move rfl) rfl ?_
      refine dq1 rfl (fun a hA => wanted_yes hA rfl rfl rfl g93) (rd_index S22 rfl rfl hplV (by omega) (by omega)) rfl ?_
      refine dq1 rfl (fun a hA => wanted_yes hA rfl rfl rfl g93) (rd_ldsr A51 (by repeat constructor) rfl (flat_part PL.enc_len (outP (ps1.take 12) ys) _ z hz)) rfl ?_
      refine dq1 rfl (fun a hA => wanted_yes hA rfl rfl rfl g93) (rd_field F25_0 rfl) rfl ?_
      refine dq1 rfl (fun a hA => wanted_yes hA rfl rfl rfl g93) (rd_ldb C22 rfl (by repeat constructor) rfl) rfl ?_
      refine dq1 rfl (fun a hA => wanted_yes hA rfl rfl rfl g93) (rd_move rfl) rfl ?_
      refine dq1 rfl (fun a hA => wanted_yes hA rfl rfl rfl g93) (rd_index S22 rfl rfl hplX (by omega) (by omega)) rfl ?_
      refine dq1 rfl (fun a hA => wanted_yes hA rfl rfl rfl g93) (rd_ldsr A51 (by repeat constructor) rfl (flat_part PL.enc_len (ps1.take 12) _ s hs)) rfl ?_
      refine dq1 rfl (fun a hA => wanted_yes hA rfl rfl rfl g93) (rd_eqs Eg51 rfl rfl (eqPL z s)) rfl ?_
      refine dq rfl (rd_pick_tt rfl g93 rfl) rfl ?_
      refine d_end ?_
      refine f_then ?_
      refine c_cond rfl (fun h105 => ?_) (fun h105 => ?_)
      ·have hzs : z = s := of_decide_eq_true h105
       have hQ : QP p0.id p0 s = true := by
        have h9 := List.mem_of_getElem? hz
        rw [e1] at h9
        rw [← hzs]
        exact (List.mem_filter.1 h9).2
       refine c_reg ?_
       refine sq (rd_move rfl) rfl ?_
       refine sq (rd_add rfl rfl (by first | exact wrap_i64 (by omega) | exact rfl)) rfl ?_
       refine sq (rd_assign rfl) rfl ?_
       refine s_end ?_
       refine f_blk ?_
       refine f_then ?_
       refine c_reg ?_
       refine sq (rd_move rfl) rfl ?_
       refine sq (rd_add rfl rfl (by first | exact wrap_i64 (by omega) | exact rfl)) rfl ?_
       refine sq (rd_assign rfl) rfl ?_
       refine s_end ?_
       refine f_again (k + 1) (by omega) (by omega) (.cons ((congrArg (fun x : Int => some (Value.int .i64 x)) (by rw [hst, if_pos hQ]; omega))) (by repeat constructor)) (fun _ h => h.sb)
      ·have hzs : ¬ z = s := of_decide_eq_false h105
       have hQ : QP p0.id p0 s = false := by
        cases h9 : QP p0.id p0 s with
        | false => rfl
        | true => have h8 := fil_at hs h9; rw [e1, h8] at hz; exact absurd (Option.some.inj hz).symm hzs
       refine c_skip ?_
       refine f_blk ?_
       refine f_then ?_
       refine c_reg ?_
       refine sq (rd_move rfl) rfl ?_
       refine sq (rd_add rfl rfl (by first | exact wrap_i64 (by omega) | exact rfl)) rfl ?_
       refine sq (rd_assign rfl) rfl ?_
       refine s_end ?_
       refine f_again (k + 1) (by omega) (by omega) (.cons ((congrArg (fun x : Int => some (Value.int .i64 x)) (by rw [hst, if_neg (by rw [hQ]; decide)]; rfl))) (by repeat constructor)) (fun _ h => h.sb)
     ·have hi : ¬ (((ps1.take 12).take k).filter (QP p0.id p0)).length < (outP (ps1.take 12) ys).length := by simpa using g93
      have hQ : QP p0.id p0 s = false := by
       cases h9 : QP p0.id p0 s with
       | false => rfl
       | true => have h8 := fil_lt hs h9; rw [e1] at hi; omega
      try have g93p := of_decide_eq_false g93
      refine dq0 rfl (fun a hA => wanted_no hA rfl rfl rfl g93 rfl) rfl ?_
      refine dq0 rfl (fun a hA => wanted_no hA rfl rfl rfl g93 rfl) rfl ?_
      refine dq0 rfl (fun a hA => wanted_no hA rfl rfl rfl g93 rfl) rfl ?_
      refine dq0 rfl (fun a hA => wanted_no hA rfl rfl rfl g93 rfl) rfl ?_
      refine dq0 rfl (fun a hA => wanted_no hA rfl rfl rfl g93 rfl) rfl ?_
      refine dq0 rfl (fun a hA => wanted_no hA rfl rfl rfl g93 rfl) rfl ?_
      refine dq0 rfl (fun a hA => wanted_no hA rfl rfl rfl g93 rfl) rfl ?_
      refine dq0 rfl (fun a hA => wanted_no hA rfl rfl rfl g93 rfl) rfl ?_
      refine dq0 rfl (fun a hA => wanted_no hA rfl rfl rfl g93 rfl) rfl ?_
      refine dq0 rfl (fun a hA => wanted_no hA rfl rfl rfl g93 rfl) rfl ?_
      refine dq0 rfl (fun a hA => wanted_no hA rfl rfl rfl g93 rfl) rfl ?_
      refine dq rfl (rd_pick_ff rfl g93 rfl) rfl ?_
      refine d_end ?_
      refine f_then ?_
      refine c_lit_f rfl ?_
      refine c_skip ?_
      refine f_blk ?_
      refine f_then ?_
      refine c_reg ?_
      refine sq (rd_move rfl) rfl ?_
      refine sq (rd_add rfl rfl (by first | exact wrap_i64 (by omega) | exact rfl)) rfl ?_
      refine sq (rd_assign rfl) rfl ?_
      refine s_end ?_
      refine f_again (k + 1) (by omega) (by omega) (.cons ((congrArg (fun x : Int => some (Value.int .i64 x)) (by rw [hst, if_neg (by rw [hQ]; decide)]; rfl))) (by repeat constructor)) (fun _ h => h.sb)
    ·have hcP : (((ps1.take 12).take k).filter (QP p0.id p0)).length = (outP (ps1.take 12) ys).length := by rw [e1, List.take_of_length_le (by omega)]
     refine c_exit ?_
     refine f_then_x ?_
     refine f_then_x ?_
     refine f_blk_x ?_
     refine f_then ?_
     refine c_seq ?_
     refine c_reg ?_
     refine sq (rd_ldsb A25 rfl (by repeat constructor) (by first | exact GetR.all _ | repeat constructor)) rfl ?_
     refine sx (ef_call rfl rfl K16 (fun _ e => by cases e; rfl) [] _ (.refl _) _ _ _ (fun w hS => by exact c16 w X1 Y1 (min n1 12) (min m1 70) x1 y1 0 100 (ps1.take 12) (ss1.take 70) (Sl.ofRow' hS (by repeat constructor)) (Sl.ofRow' hS (by repeat constructor)) (fun p h => ok1 p (List.mem_of_mem_take h)) (fun s h => os1 s (List.mem_of_mem_take h)) (by omega) (by omega) hS.own)) rfl ?_
     rintro ⟨ys0, VA0, vc0, WA0, wc0⟩ hy0
     obtain ⟨e3, e4⟩ := sees_nobody hR hy0
     dsimp only at e3 e4
     refine sx (ef_alloc Z25 rfl) rfl ?_
     rintro b13 hb13
     refine se (ef_stores A25 rfl rfl rfl (by repeat constructor) (by first | exact SetR.all rfl | repeat constructor) rfl) rfl ?_
     refine s_end ?_
     refine f_then ?_
     refine c_seq ?_
     refine c_reg ?_
     refine sq (rd_move rfl) rfl ?_
     refine sq (rd_move rfl) rfl ?_
     refine s_split (d := 111) rfl (fun g111 => ?_) (fun g111 => ?_)
     ·try have g111p := of_decide_eq_true g111
      refine sg1 (fun a hA => wanted_yes hA rfl rfl rfl g111) (rd_move rfl) rfl ?_
      refine sg1 (fun a hA => wanted_yes hA rfl rfl rfl g111) (rd_field F25_1 rfl) rfl ?_
      refine sg1 (fun a hA => wanted_yes hA rfl rfl rfl g111) (rd_ldb C23 rfl (by repeat constructor) rfl) rfl ?_
      refine sg1 (fun a hA => wanted_yes hA rfl rfl rfl g111) (rd_len S23 rfl rfl) rfl ?_
      refine sg1 (fun a hA => wanted_yes hA rfl rfl rfl g111) (rd_eql rfl rfl) rfl ?_
      refine sq (rd_pick_tt rfl g111 rfl) rfl ?_
      refine sq (rd_move rfl) rfl ?_
      refine s_split (d := 118) rfl (fun g118 => ?_) (fun g118 => ?_)
      ·try have g118p := of_decide_eq_true g118
       refine sg1 (fun a hA => wanted_yes hA rfl rfl rfl g118) (rd_move rfl) rfl ?_
       refine sg1 (fun a hA => wanted_yes hA rfl rfl rfl g118) (rd_field F25_0 rfl) rfl ?_
       refine sg1 (fun a hA => wanted_yes hA rfl rfl rfl g118) (rd_ldb C22 rfl (by repeat constructor) rfl) rfl ?_
       refine sg1 (fun a hA => wanted_yes hA rfl rfl rfl g118) (rd_len S22 rfl rfl) rfl ?_
       refine sg1 (fun a hA => wanted_yes hA rfl rfl rfl g118) (rd_eql rfl rfl) rfl ?_
       refine sq (rd_pick_tt rfl g118 rfl) rfl ?_
       refine sq (rd_move rfl) rfl ?_
       refine s_split (d := 125) rfl (fun g125 => ?_) (fun g125 => ?_)
       ·try have g125p := of_decide_eq_true g125
        refine sg1 (fun a hA => wanted_yes hA rfl rfl rfl g125) (rd_ldsb A25 rfl (by repeat constructor) (by first | exact GetR.all _ | repeat constructor)) rfl ?_
        refine sg1 (fun a hA => wanted_yes hA rfl rfl rfl g125) (rd_build St25 rfl (by repeat constructor)) rfl ?_
        refine seg (fun a hA => wanted_yes hA rfl rfl rfl g125) (ef_pw rfl rfl K22 rfl (fun w hS => by exact c22 w VA0 WA0 none none _ _ 0 0 vc0 wc0 0 0 (outP (ps1.take 12) ys0) [] (outS (ss1.take 70) ys0) [] (Sl.ofRow' hS (by repeat constructor)) (Sl.ofRow' hS (by repeat constructor)) (Sl.nil _ _ _ _) (Sl.nil _ _ _ _))) ?_
        refine sq (rd_pick_tt rfl g125 rfl) rfl ?_
        refine sq (rd_assign rfl) rfl ?_
        refine s_end ?_
        refine f_then ?_
        refine c_ret ?_
        refine f_ret rfl (.tmp rfl .nil) ?_
        refine fun w' hS => ⟨_, rfl, (), ?_, trivial, hS.sub (List.nil_sublist _)⟩
        first | (simp; done) | (simp only [resVal_one]; rw [e3, e4]; simp)
       ·exact absurd g125 (by dsimp only; rw [decide_eq_false_iff_not]; omega)
      ·exact absurd g118 (by dsimp only; rw [decide_eq_false_iff_not]; omega)
     ·exact absurd g111 (by simp)

end Go.Proofs.YtfccnoccfhgcbaaGreatDoor
namespace Go.Proofs.YtfccnoccfhgcbaaGreatDoor.viewOwn
open Go Go.RowKit Go.ChangeShapes Go.WideShapes
theorem below {W W' : World} (h : St W none' [] W') : Below W.heap.size W W' := ⟨h.os, h.tape, h.output, h.size, fun k hk => h.base k hk (none'_no k)⟩
set_option maxRecDepth 100000 in
theorem lifted (os : Os) (started : os.Started) (H : Type) (enc : TypeId × Value → H) :
  ReturnsInHanded {} Tryz.checked os 11 .any (fun w args => (Rows.viewOwnSpec.pre enc Tryz.prog Tryz.f11 [] false w args ∧ laidMetH Tryz.prog laid2 w) ∧ sizedMet enc Tryz.prog Tryz.f11 (OpenSpec.ofChange Rows.viewOwnSpec) false w args)
   (Rows.viewOwnSpec.post enc Tryz.prog Tryz.f11 false true false false) := by
 refine returnsInHanded_of_change_and (C := Tryz.checked) (X := fun w _ => laidMetH Tryz.prog laid2 w) (fun _ _ _ hh h => h.of_heap hh) own started (by kernel_rfl) Tryz.func11
  (ChangeSpec.witness_shaped (enc := enc) (C := Tryz.checked) (os := os) (X := fun w _ => laidMetH Tryz.prog laid2 w) false (World.doorLaid Tryz.prog 400 os) #[.agg #[.slice none 0 0, .slice none 0 0], .int .i64 0] 8 rfl (World.shaped_of_RefB (by kernel_rfl) (by kernel_rfl)) (by kernel_rfl) (by kernel_rfl) (by kernel_rfl) (door_met os _)) ?_
 intro W base args ds gs before hval0 hW _ _ hL _
 have hval : ∀ (j : Nat) t v, Tryz.f11.params[j]? = some t → args[j]? = some v → Value.okWide Tryz.prog W .any base t v := hval0
 have hW' := hW
 obtain ⟨p, q, hA0, hV, rfl, hfz, hnd⟩ := hW
 have hA : DataW.TrodAll enc Tryz.prog W 0 (fun _ => true) true Tryz.f11.params.toList args.toList ds p := hA0
 rw [Tryz.params11] at hA hval
 obtain ⟨v0, vs0, d0, ds0, p0, q0, hargs, rfl, rfl, t0, r0⟩ := trodAll_cons hA
 obtain ⟨v1, vs1, d1, ds1, p1, q1, rfl, rfl, rfl, t1, r1⟩ := trodAll_cons r0
 obtain ⟨rfl, rfl, rfl⟩ := trodAll_nil r1
 obtain rfl : args = #[v0, v1] := by cases args; simp_all
 obtain ⟨rfl, rfl⟩ := trodVars_none hV
 have hG := gl_of_laid hL
 have kk0 := t0
 have lt0 : ∀ x ∈ p0, x.block < W.heap.size := by obtain ⟨m, hm⟩ := kk0; exact DataW.trod_lt m _ _ _ hm
 obtain ⟨A0, B0, n0, m0, c0, e0, ps0, ss0, rfl, h0, k0, hc0, he0, ok0, os0⟩ := rd_state t0 (okWide_struct Tryz.underlying25 (hval 0 25 v0 rfl rfl))
 obtain ⟨a1, rfl, rfl, rfl, w1⟩ := open_int Tryz.underlying3 (hval 1 3 v1 rfl rfl) t1
 refine Calls.mono (c11 W hG A0 B0 n0 m0 c0 e0 ps0 ss0 h0 k0 hc0 he0 ok0 os0 a1 (bounds_i64 w1) (St.start W _)) fun e W' h => ?_
 obtain ⟨v, rfl, x, rfl, _, hS⟩ := h
 have bel := below hS
 exact ⟨_, rfl, _, _, _, [], _, [], hW', trodAll_mk1 (shut_bool Tryz.underlying4 _), (trodAll_cons_mk (Below.trod laidOut (by kernel_rfl) (of_decide_eq_true (by kernel_rfl)) kk0 bel lt0) (trodAll_cons_mk (shut_int Tryz.underlying3 w1) trodAll_mk0)), rfl, bel.frame _, fun h => by cases h⟩
theorem over : Rows.ViewOwnSaid :=
 OpenClaim.holds_of_wide 11 Tryz.f11 rfl rfl rfl rfl rfl rfl rfl ⟨rfl, rfl, rfl, rfl, rfl⟩ rfl rfl rfl rfl rfl (by kernel_rfl) Tryz.func11 (by kernel_rfl)
  (of_decide_eq_true (by kernel_rfl)) (by unfold Func.isWrapper; first | (rw [if_pos (by decide +kernel)]; kernel_rfl) | (rw [if_neg (by decide +kernel)]; exact ⟨rfl, rfl⟩))
  (fun os started H enc _ => lifted os started H enc)
end Go.Proofs.YtfccnoccfhgcbaaGreatDoor.viewOwn
namespace Go.Proofs.YtfccnoccfhgcbaaGreatDoor
/-- The card. -/
theorem viewOwn_card : Rows.ViewOwnCardSaid :=
 Claim7.holds_tied_plain_at .later [] [.wider, .wider] true (true, "4eaa47956d02c688950758280d0594a06d21b47fca31964564c4137525720bfd") false
  viewOwn.over (fun _ h => by cases h) (by kernel_rfl) (fun _ h => by cases h) viewOwn_row_tie rfl ⟨rfl, rfl⟩ (by kernel_rfl) rfl
  (fun f fn hf hfn => by
   obtain rfl : f = 11 := Option.some.inj ((show Tryz.prog.funcNamed "embrasure/embrasurelaw18.ViewOwn" = some 11 by kernel_rfl).symm.trans hf) |>.symm
   obtain rfl : fn = Tryz.f11 := (Option.some.inj (Tryz.func11.symm.trans hfn)).symm
   exact ⟨by kernel_rfl, fun j t ht => by
    rw [Tryz.params11] at ht
    have hm : t ∈ [25, 3] := by simpa using Array.mem_of_getElem? ht
    have hall : ([25, 3].all fun u => !Tryz.prog.wantsStandIn u) = true := by kernel_rfl
    exact (show Tryz.prog.wantsStandIn t = false by simpa using List.all_eq_true.1 hall t hm)⟩)
  (by kernel_rfl)
#print axioms viewOwn_card
end Go.Proofs.YtfccnoccfhgcbaaGreatDoor
