/- What the laws on views share: each function of the program that they reach, what it computes; no conditions beyond those that each theorem states. -/
import Derived.Test.YtfccnoccfhgcbaaGreatDoorPkA
import Derived.Test.YtfccnoccfhgcbaaGreatDoorProg
import Derived.Sort.AssemblyPlain
set_option linter.unusedVariables false
set_option linter.unusedSimpArgs false
set_option maxRecDepth 20000
set_option maxHeartbeats 400000
namespace Go.Proofs.YtfccnoccfhgcbaaGreatDoor
open Go Go.RowKit
theorem Z30 : zeroTy Tryz.prog 30 [.slice none 0 0, .slice none 0 0] := by unfold zeroTy; kernel_rfl
theorem St30 : structTy Tryz.prog 30 [(0, 1), (1, 1)] [.slice none 0 0, .slice none 0 0] := ⟨by unfold zeroTy; kernel_rfl, _, Tryz.underlying30, fun w => by kernel_rfl⟩
theorem A30 : aggTy Tryz.prog 30 2 := ⟨by kernel_rfl, by kernel_rfl⟩
theorem A25 : aggTy Tryz.prog 25 2 := ⟨by kernel_rfl, by kernel_rfl⟩
theorem F30_0 : fieldTy Tryz.prog 30 0 0 := fieldTy.mk' Tryz.underlying30 rfl (by kernel_rfl) rfl
theorem F30_1 : fieldTy Tryz.prog 30 1 1 := fieldTy.mk' Tryz.underlying30 rfl (by kernel_rfl) rfl
theorem St25 : structTy Tryz.prog 25 [(0, 1), (1, 1)] [.slice none 0 0, .slice none 0 0] := ⟨by unfold zeroTy; kernel_rfl, _, Tryz.underlying25, fun w => by kernel_rfl⟩
theorem K22 : callTy Tryz.prog 22 := by unfold callTy; kernel_rfl
theorem Z25 : zeroTy Tryz.prog 25 [.slice none 0 0, .slice none 0 0] := by unfold zeroTy; kernel_rfl
theorem c19 (A B : Option Addr) (n m c d : Nat) : Pu Tryz.prog 19 [.agg #[.slice A n c, .slice B m d]] (.agg #[.slice A n c, .slice B m d]) := by
 refine Pu.enter Tryz.func19 rfl Tryz.ntmps19 rfl (fun w => ?_)
 refine c_seq ?_
 refine c_reg ?_
 refine sx (ef_box rfl rfl rfl) rfl ?_
 rintro b1 hb1
 refine sx (ef_alloc Z30 rfl) rfl ?_
 rintro b2 hb2
 refine s_end ?_
 refine f_then ?_
 refine c_seq ?_
 refine c_reg ?_
 refine sq (rd_field F25_0 rfl) rfl ?_
 refine sq (rd_ldb C22 rfl (by repeat constructor) rfl) rfl ?_
 refine sq (rd_field F25_1 rfl) rfl ?_
 refine sq (rd_ldb C23 rfl (by repeat constructor) rfl) rfl ?_
 refine sq (rd_build St30 rfl (by repeat constructor)) rfl ?_
 refine se (ef_stores A30 rfl rfl rfl (by repeat constructor) (by first | exact SetR.all rfl | repeat constructor) rfl) rfl ?_
 refine s_end ?_
 refine f_then ?_
 refine c_ret ?_
 refine f_ret rfl (.cell (res_ldsb A30 rfl (by repeat constructor) (by first | exact GetR.all _ | repeat constructor)) .nil) ?_
 exact pu_end (by rfl)

theorem c17 (w : World) (A B A' B' : Option Addr) (n m n' m' c d c' d' : Nat) (ps qs : List PL) (ss ts : List SH) (h1 : Sl w none' A n 15 (flat PL.enc ps)) (h2 : Sl w none' B m 11 (flat SH.enc ss)) (h3 : Sl w none' A' n' 15 (flat PL.enc qs)) (h4 : Sl w none' B' m' 11 (flat SH.enc ts)) : Pw Tryz.prog w 17 [.agg #[.slice A n c, .slice B m d], .agg #[.slice A' n' c', .slice B' m' d']] (.bool (decide (ps = qs) && decide (ss = ts))) := by
 refine Pw.enter Tryz.func17 rfl Tryz.ntmps17 rfl ?_
 refine c_seq ?_
 refine c_reg ?_
 refine sx (ef_box rfl rfl rfl) rfl ?_
 rintro b2 hb2
 refine sx (ef_box rfl rfl rfl) rfl ?_
 rintro b3 hb3
 refine sq (rd_assign rfl) rfl ?_
 refine s_end ?_
 refine f_then ?_
 refine c_seq ?_
 refine c_reg ?_
 refine sq (rd_ldsb A25 rfl (by repeat constructor) (by first | exact GetR.all _ | repeat constructor)) rfl ?_
 refine sq (rd_field F30_0 rfl) rfl ?_
 refine sq (rd_ldb C22 rfl (by repeat constructor) rfl) rfl ?_
 refine sq (rd_field F30_1 rfl) rfl ?_
 refine sq (rd_ldb C23 rfl (by repeat constructor) rfl) rfl ?_
 refine sq (rd_build St25 rfl (by repeat constructor)) rfl ?_
 refine se (ef_pw rfl rfl K22 rfl (fun w hS => by exact c22 w _ _ _ _ _ _ _ _ _ _ _ _ _ _ _ _ (h1.hand (Ec := []) hS (by decide)) (h2.hand (Ec := []) hS (by decide)) (h3.hand (Ec := []) hS (by decide)) (h4.hand (Ec := []) hS (by decide)))) rfl ?_
 refine sq (rd_assign rfl) rfl ?_
 refine s_end ?_
 refine f_then ?_
 refine c_ret ?_
 refine f_ret rfl (.tmp rfl .nil) ?_
 exact pu_end rfl

theorem flat_cut {α : Type} {f : α → List Value} {sz n j : Nat} {l : List α} (hf : ∀ x, (f x).length = sz) (hl : l.length = n) : (flat f l).take (min n j * sz) = flat f (l.take j) := by
 rw [flat_take hf, ← hl]
 congr 1
 rcases Nat.le_total l.length j with h | h
 ·rw [Nat.min_eq_left h, List.take_of_length_le (Nat.le_refl _), List.take_of_length_le h]
 ·rw [Nat.min_eq_right h]

theorem c15 (w : World) (A B : Option Addr) (n m c d : Nat) (ps : List PL) (ss : List SH) (h1 : Sl w none' A n 15 (flat PL.enc ps)) (h2 : Sl w none' B m 11 (flat SH.enc ss)) (hc : n ≤ c) (hd : m ≤ d) (hS : St w (fpOf []) [] w) : Calls Tryz.prog 15 [.agg #[.slice A n c, .slice B m d]].toArray w (RtE fun v w' => ∃ x : Option Addr × Nat × Option Addr × Nat, v = (fun x => .agg #[.slice x.1 (min n 12) x.2.1, .slice x.2.2.1 (min m 70) x.2.2.2]) x ∧ (fun _ => True) x ∧ St w (fpOf []) ((fun x => [.row 51 15 x.1 (min n 12) x.2.1 (flat PL.enc (ps.take 12)), .row 54 11 x.2.2.1 (min m 70) x.2.2.2 (flat SH.enc (ss.take 70))]) x) w') := by
 refine enter Tryz.func15 rfl Tryz.ntmps15 rfl hS ?_
 refine c_seq ?_
 refine c_reg ?_
 refine sx (ef_box rfl rfl rfl) rfl ?_
 rintro b1 hb1
 refine sx (ef_alloc Z25 rfl) rfl ?_
 rintro b2 hb2
 refine s_end ?_
 refine f_then ?_
 refine c_seq ?_
 have hx1 := h1.max
 have hx2 := h2.max
 refine c_regd [.blk b1 _ _] (.q 1 (.q 2 (.q 3 (.q 4 (.q 5 (.q 6 (.q 7 (.q 10 (.q 11 (.q 12 (.q 13 (.q 14 (.q 15 (.q 16 (.alt 0 (.alt 8 (.alt 9 (.alt 17 (.q 18 (.alt 19 .done .stop)) .stop) .stop) (.alt 9 (.alt 8 (.alt 17 (.q 18 (.alt 19 .done .stop)) .stop) .stop) .stop)) (.alt 9 (.alt 0 (.alt 8 (.alt 17 (.q 18 (.alt 19 .done .stop)) .stop) .stop) .stop) .stop)))))))))))))))) (by kernel_rfl) (by kernel_rfl) (by kernel_rfl) (by kernel_rfl) (fun _ h => h.sb) ?_
 refine dq rfl (rd_field F25_0 rfl) rfl ?_
 refine dq rfl (rd_ldb C22 rfl (by first | exact .head _) rfl) rfl ?_
 refine dq rfl (rd_field F25_0 rfl) rfl ?_
 refine dq rfl (rd_ldb C22 rfl (by first | exact .head _) rfl) rfl ?_
 refine dq rfl (rd_len S22 rfl rfl) rfl ?_
 refine dq rfl (rd_min' rfl rfl (min_nat n 12)) rfl ?_
 refine dq rfl (rd_slice_hin S22 rfl rfl (by omega)) rfl ?_
 refine dq rfl (rd_field F25_1 rfl) rfl ?_
 refine dq rfl (rd_ldb C23 rfl (by first | exact .head _) rfl) rfl ?_
 refine dq rfl (rd_field F25_1 rfl) rfl ?_
 refine dq rfl (rd_ldb C23 rfl (by first | exact .head _) rfl) rfl ?_
 refine dq rfl (rd_len S23 rfl rfl) rfl ?_
 refine dq rfl (rd_min' rfl rfl (min_nat m 70)) rfl ?_
 refine dq rfl (rd_slice_hin S23 rfl rfl (by omega)) rfl ?_
 refine dx rfl rfl (ef_slice Rt22 rfl (by repeat constructor) rfl rfl) (fun _ _ _ h => h.sb) ?_ ?_
 ·rintro b3 hb3
  refine d_asRow 15 0 rfl rfl ?_
  refine dx rfl rfl (ef_append Rt22 rfl rfl rfl rfl (src_sl h1 (Nat.min_le_left _ _)) (cells_take (flat_cells PL.enc_cells _)) (by omega) (by unfold maxLen; omega) rfl) (fun _ _ _ h => h.sb) ?_ ?_
  ·rintro ⟨A1, c1⟩ hA1
   refine dx rfl rfl (ef_slice Rt23 rfl (by repeat constructor) rfl rfl) (fun _ _ _ h => h.sb) ?_ d_stop
   rintro b12 hb12
   refine d_asRow 11 0 rfl rfl ?_
   refine dx rfl rfl (ef_append Rt23 rfl rfl rfl rfl (src_sl h2 (Nat.min_le_left _ _)) (cells_take (flat_cells SH.enc_cells _)) (by omega) (by unfold maxLen; omega) rfl) (fun _ _ _ h => h.sb) ?_ d_stop
   rintro ⟨B1, d1⟩ hB1
   refine dq rfl (rd_build St25 rfl (by repeat constructor)) rfl ?_
   refine de rfl rfl (ef_stores A25 rfl rfl rfl (by repeat constructor) (by first | exact SetR.all rfl | repeat constructor) rfl) (fun _ h => h.sb) ?_ d_stop
   refine d_end ?_
   refine f_then ?_
   refine c_ret ?_
   refine f_front (.row _ _ A1 _ c1 _) (by repeat constructor) ?_
   refine f_ret rfl (.cell (res_ldsb A25 rfl (by repeat constructor) (by first | exact GetR.all _ | repeat constructor)) .nil) ?_
   refine fun w' hS => ⟨_, rfl, (A1, c1, B1, d1), ?_, trivial, ?_⟩
   ·simp only [resVal_one, Nat.zero_add]
   ·have l1 : ps.length = n := by have := h1.len; rw [flat_len PL.enc_len] at this; omega
    have l2 : ss.length = m := by have := h2.len; rw [flat_len SH.enc_len] at this; omega
    simp only [Nat.zero_add, List.nil_append, flat_cut PL.enc_len l1, flat_cut SH.enc_len l2] at hS
    exact hS.sb
  refine dx rfl rfl (ef_slice Rt23 rfl (by repeat constructor) rfl rfl) (fun _ _ _ h => h.sb) ?_ ?_
  ·rintro b12_1 hb12_1
   refine d_asRow 11 0 rfl rfl ?_
   refine d_front (.row _ _ (some ⟨b3, 0, none⟩) 0 0 _) (by repeat constructor) ?_
   refine dx rfl rfl (ef_append Rt22 rfl rfl rfl rfl (src_sl h1 (Nat.min_le_left _ _)) (cells_take (flat_cells PL.enc_cells _)) (by omega) (by unfold maxLen; omega) rfl) (fun _ _ _ h => h.sb) ?_ d_stop
   rintro ⟨A1, c1⟩ hA1
   refine d_front (.row _ _ (some ⟨b12_1, 0, none⟩) 0 0 _) (by repeat constructor) ?_
   refine dx rfl rfl (ef_append Rt23 rfl rfl rfl rfl (src_sl h2 (Nat.min_le_left _ _)) (cells_take (flat_cells SH.enc_cells _)) (by omega) (by unfold maxLen; omega) rfl) (fun _ _ _ h => h.sb) ?_ d_stop
   rintro ⟨B1, d1⟩ hB1
   refine dq rfl (rd_build St25 rfl (by repeat constructor)) rfl ?_
   refine de rfl rfl (ef_stores A25 rfl rfl rfl (by repeat constructor) (by first | exact SetR.all rfl | repeat constructor) rfl) (fun _ h => h.sb) ?_ d_stop
   refine d_end ?_
   refine f_then ?_
   refine c_ret ?_
   refine f_front (.row _ _ A1 _ c1 _) (by repeat constructor) ?_
   refine f_ret rfl (.cell (res_ldsb A25 rfl (by repeat constructor) (by first | exact GetR.all _ | repeat constructor)) .nil) ?_
   refine fun w' hS => ⟨_, rfl, (A1, c1, B1, d1), ?_, trivial, ?_⟩
   ·simp only [resVal_one, Nat.zero_add]
   ·have l1 : ps.length = n := by have := h1.len; rw [flat_len PL.enc_len] at this; omega
    have l2 : ss.length = m := by have := h2.len; rw [flat_len SH.enc_len] at this; omega
    simp only [Nat.zero_add, List.nil_append, flat_cut PL.enc_len l1, flat_cut SH.enc_len l2] at hS
    exact hS.sb
  exact d_stop
 refine dx rfl rfl (ef_slice Rt23 rfl (by repeat constructor) rfl rfl) (fun _ _ _ h => h.sb) ?_ ?_
 ·rintro b12_2 hb12_2
  refine d_asRow 11 0 rfl rfl ?_
  refine dx rfl rfl (ef_slice Rt22 rfl (by repeat constructor) rfl rfl) (fun _ _ _ h => h.sb) ?_ d_stop
  rintro b3_1 hb3_1
  refine d_asRow 15 0 rfl rfl ?_
  refine dx rfl rfl (ef_append Rt22 rfl rfl rfl rfl (src_sl h1 (Nat.min_le_left _ _)) (cells_take (flat_cells PL.enc_cells _)) (by omega) (by unfold maxLen; omega) rfl) (fun _ _ _ h => h.sb) ?_ d_stop
  rintro ⟨A1, c1⟩ hA1
  refine d_front (.row _ _ (some ⟨b12_2, 0, none⟩) 0 0 _) (by repeat constructor) ?_
  refine dx rfl rfl (ef_append Rt23 rfl rfl rfl rfl (src_sl h2 (Nat.min_le_left _ _)) (cells_take (flat_cells SH.enc_cells _)) (by omega) (by unfold maxLen; omega) rfl) (fun _ _ _ h => h.sb) ?_ d_stop
  rintro ⟨B1, d1⟩ hB1
  refine dq rfl (rd_build St25 rfl (by repeat constructor)) rfl ?_
  refine de rfl rfl (ef_stores A25 rfl rfl rfl (by repeat constructor) (by first | exact SetR.all rfl | repeat constructor) rfl) (fun _ h => h.sb) ?_ d_stop
  refine d_end ?_
  refine f_then ?_
  refine c_ret ?_
  refine f_front (.row _ _ A1 _ c1 _) (by repeat constructor) ?_
  refine f_ret rfl (.cell (res_ldsb A25 rfl (by repeat constructor) (by first | exact GetR.all _ | repeat constructor)) .nil) ?_
  refine fun w' hS => ⟨_, rfl, (A1, c1, B1, d1), ?_, trivial, ?_⟩
  ·simp only [resVal_one, Nat.zero_add]
  ·have l1 : ps.length = n := by have := h1.len; rw [flat_len PL.enc_len] at this; omega
   have l2 : ss.length = m := by have := h2.len; rw [flat_len SH.enc_len] at this; omega
   simp only [Nat.zero_add, List.nil_append, flat_cut PL.enc_len l1, flat_cut SH.enc_len l2] at hS
   exact hS.sb
 exact d_stop

end Go.Proofs.YtfccnoccfhgcbaaGreatDoor
namespace Go.Proofs.YtfccnoccfhgcbaaGreatDoor
open Go Go.RowKit

section
variable {α : Type} {f : α → List Value} {sz : Nat}
theorem flat_drop (hf : ∀ x, (f x).length = sz) (l : List α) (i : Nat) : (flat f l).drop (i * sz) = flat f (l.drop i) := by
 induction l generalizing i with
 | nil => simp [flat]
 | cons x l ih =>
  cases i with
  | zero => simp [flat]
  | succ i =>
   have := ih i
   simp only [flat, List.map_cons, List.flatten_cons, List.drop_succ_cons] at *
   rw [← this, List.drop_append, hf, show (i + 1) * sz - sz = i * sz from by rw [Nat.add_mul]; omega, List.drop_of_length_le (by rw [hf, Nat.add_mul]; omega), List.nil_append]
theorem flat_set (hf : ∀ x, (f x).length = sz) {l : List α} {i : Nat} (x : α) (h : i < l.length) : (flat f l).take (i * sz) ++ f x ++ (flat f l).drop (i * sz + sz) = flat f (l.set i x) := by
 rw [show i * sz + sz = (i + 1) * sz from by rw [Nat.add_mul]; omega, flat_take hf, flat_drop hf, List.set_eq_take_append_cons_drop, if_pos h]
 simp [flat]
theorem arr_len (hf : ∀ x, (f x).length = sz) {d : Array α} {n : Nat} (h : (flat f d.toList).length = n * sz) (hz : 0 < sz) : d.size = n := by
 rw [flat_len hf] at h
 have := Nat.eq_of_mul_eq_mul_right hz h
 simpa using this
theorem arr_set (hf : ∀ x, (f x).length = sz) {d : Array α} {i : Nat} {x : α} (h : i < d.size) : (flat f d.toList).take (i * sz) ++ f x ++ (flat f d.toList).drop (i * sz + sz) = flat f (d.setIfInBounds i x).toList := by
 rw [flat_set hf x (by simpa using h), Array.toList_setIfInBounds]
end
section
variable {α : Type} [Inhabited α] {f : α → List Value} {sz : Nat}
theorem arr_get? {d : Array α} {i : Nat} (h : i < d.size) : d.toList[i]? = some d[i]! := by
 rw [getElem!_pos d i h, Array.getElem?_toList, Array.getElem?_eq_getElem h]
theorem arr_part {d : Array α} {i : Nat} (hf : ∀ x, (f x).length = sz) (h : i < d.size) : Part (flat f d.toList) (i * sz) sz (f d[i]!) := flat_part hf _ _ _ (arr_get? h)
theorem arr_get1 {d : Array Int} {i : Nat} (h : i < d.size) : (ints d.toList)[i * 1]? = some (.int .i64 d[i]!) := by
 rw [Nat.mul_one]
 exact ints_get (arr_get? h)
theorem arr_set1 {d : Array Int} {i : Nat} {x : Int} (h : i < d.size) : (ints d.toList).take (i * 1) ++ [.int .i64 x] ++ (ints d.toList).drop (i * 1 + 1) = ints (d.setIfInBounds i x).toList := by
 simp only [ints_flat]
 exact arr_set (f := fun x => [.int .i64 x]) (fun _ => rfl) h
theorem ins_step {α : Type} [Inhabited α] {lt : α → α → Bool} {a j : Nat} {d : Array α} (h : a < j) (hl : lt d[j]! d[j - 1]! = true) : Sort.insInner lt a j d = Sort.insInner lt a (j - 1) (Sort.swp d j (j - 1)) := by
 obtain ⟨k, rfl⟩ : ∃ k, j = k + 1 := ⟨j - 1, by omega⟩
 rw [Nat.add_sub_cancel] at hl ⊢
 rw [Sort.insInner]
 simp [h, hl]
theorem ins_stop {α : Type} [Inhabited α] {lt : α → α → Bool} {a j : Nat} {d : Array α} (h : a < j → lt d[j]! d[j - 1]! = false) : Sort.insInner lt a j d = d := by
 cases j with
 | zero => rw [Sort.insInner]
 | succ k =>
  rw [Nat.add_sub_cancel] at h
  rw [Sort.insInner]
  by_cases h1 : a < k + 1
  ·simp [h h1]
  ·simp; omega
section
variable {α : Type} [Inhabited α] {lt : α → α → Bool} {hi first root c : Nat} {d : Array α}
theorem sift_out (h : hi ≤ 2 * root + 1) : Sort.siftDown lt hi first root d = d := by rw [Sort.siftDown, dif_pos h]
theorem sift_stop (h : 2 * root + 1 < hi) (hc : c = if (decide (2 * root + 1 + 1 < hi) && lt d[first + (2 * root + 1)]! d[first + (2 * root + 1) + 1]!) = true then 2 * root + 2 else 2 * root + 1) (hl : lt d[first + root]! d[first + c]! = false) : Sort.siftDown lt hi first root d = d := by
 rw [Sort.siftDown, dif_neg (by omega)]
 subst hc
 split
 ·rename_i h1
  rw [if_pos h1] at hl
  rw [if_pos (by simp [hl])]
 ·rename_i h1
  rw [if_neg h1] at hl
  rw [if_pos (by simp [hl])]
theorem sift_go (h : 2 * root + 1 < hi) (hc : c = if (decide (2 * root + 1 + 1 < hi) && lt d[first + (2 * root + 1)]! d[first + (2 * root + 1) + 1]!) = true then 2 * root + 2 else 2 * root + 1) (hl : lt d[first + root]! d[first + c]! = true) :
  Sort.siftDown lt hi first root d = Sort.siftDown lt hi first c (Sort.swp d (first + root) (first + c)) := by
 conv => lhs; rw [Sort.siftDown, dif_neg (by omega : ¬ 2 * root + 1 ≥ hi)]
 subst hc
 split
 ·rename_i h1
  rw [if_pos h1] at hl
  rw [if_neg (by simp [hl])]
  simp only [Bool.and_eq_true, decide_eq_true_eq] at h1
  rw [dif_pos (by omega)]
 ·rename_i h1
  rw [if_neg h1] at hl
  rw [if_neg (by simp [hl])]
theorem sift_lt (h : 2 * root + 1 < hi) (hc : c = if (decide (2 * root + 1 + 1 < hi) && lt d[first + (2 * root + 1)]! d[first + (2 * root + 1) + 1]!) = true then 2 * root + 2 else 2 * root + 1) : root < c ∧ c < hi := by
 subst hc
 split
 ·rename_i h1
  simp only [Bool.and_eq_true, decide_eq_true_eq] at h1
  omega
 ·omega
@[simp] theorem sift_size : ∀ (k hi first root : Nat) (d : Array α), hi - root ≤ k → (Sort.siftDown lt hi first root d).size = d.size := by
 intro k
 induction k with
 | zero => intro hi first root d h; rw [sift_out (by omega)]
 | succ k ih =>
  intro hi first root d h
  by_cases h1 : 2 * root + 1 < hi
  ·generalize hc : (if (decide (2 * root + 1 + 1 < hi) && lt d[first + (2 * root + 1)]! d[first + (2 * root + 1) + 1]!) = true then 2 * root + 2 else 2 * root + 1) = c
   have h2 := sift_lt h1 hc.symm
   cases hl : lt d[first + root]! d[first + c]! with
   | true => rw [sift_go h1 hc.symm hl, ih _ _ _ _ (by omega)]; simp [Sort.swp]
   | false => rw [sift_stop h1 hc.symm hl]
  ·rw [sift_out (by omega)]
end
@[simp] theorem swp_size (d : Array α) (i j : Nat) : (Sort.swp d i j).size = d.size := by simp [Sort.swp]
end
/-- Less, by a comparison. -/
abbrev ltOf {α : Type} (cmp : α → α → Int) : α → α → Bool := fun x y => decide (cmp x y < 0)

/-! ### Whole numbers that are natural -/
theorem subn (a b : Nat) (h : b ≤ a) (h2 : a ≤ 9223372036854775807) : IntKind.i64.wrap ((a : Int) - (b : Int)) = ((a - b : Nat) : Int) := by rw [wrap_i64 (by omega)]; omega
theorem addn (a b : Nat) (h2 : a + b ≤ 9223372036854775807) : IntKind.i64.wrap ((a : Int) + (b : Int)) = ((a + b : Nat) : Int) := by rw [wrap_i64 (by omega)]; omega
theorem muln (a b : Nat) (h2 : a * b ≤ 9223372036854775807) : IntKind.i64.wrap ((a : Int) * (b : Int)) = ((a * b : Nat) : Int) := by
 have e : (a : Int) * (b : Int) = ((a * b : Nat) : Int) := by simp
 rw [e, wrap_i64 (by omega)]
theorem quon (a b : Nat) (h : 0 < b) (h2 : a ≤ 9223372036854775807) : IntKind.i64.wrap ((a : Int).tdiv (b : Int)) = ((a / b : Nat) : Int) := by
 rw [quo_i64 (by omega) (by omega) (by omega)]
 simp
theorem remn (a b : Nat) : (a : Int).tmod (b : Int) = ((a % b : Nat) : Int) := by rw [Int.tmod_eq_emod_of_nonneg (by omega), Int.natCast_emod]
theorem u64n (a : Nat) (h : a ≤ 18446744073709551615) : IntKind.u64.wrap (a : Int) = (a : Int) := wrap_u64 (by omega)
theorem i64n (a : Nat) (h : a ≤ 9223372036854775807) : IntKind.i64.wrap (a : Int) = (a : Int) := wrap_i64 (by omega)
theorem shr1 (a : Nat) : (a : Int).fdiv (2 ^ (min (1 : Int).toNat IntKind.u64.bits)) = ((a / 2 : Nat) : Int) := by
 show (a : Int).fdiv (2 ^ 1) = _
 rw [Int.fdiv_eq_ediv_of_nonneg _ (by decide)]
 simp
section
variable {P : Program} {S : World → Prop} {n : Nat} {L : Slots} {dst : Option Nat} {ty : Nat} {pos : String} {af : Array Edge} {g : Option (Nat × Bool)} {x y : Operand} {t t' : TypeId} {a b : Int}
theorem rd_subn (p q : Nat) (hx : opv L x = some (.int .i64 a)) (hy : opv L y = some (.int .i64 b)) (h1 : (p : Int) = a) (h2 : (q : Int) = b) (h : q ≤ p) (hp : p ≤ 9223372036854775807) : Rd P S n L ⟨dst, .binOp .sub t x y t', ty, pos, af, g⟩ (.int .i64 ((p - q : Nat) : Int)) := by
 subst h1 h2
 exact rd_sub hx hy (subn p q h hp)
theorem rd_addn (p q : Nat) (hx : opv L x = some (.int .i64 a)) (hy : opv L y = some (.int .i64 b)) (h1 : (p : Int) = a) (h2 : (q : Int) = b) (hp : p + q ≤ 9223372036854775807) : Rd P S n L ⟨dst, .binOp .add t x y t', ty, pos, af, g⟩ (.int .i64 ((p + q : Nat) : Int)) := by
 subst h1 h2
 exact rd_add hx hy (addn p q hp)
theorem rd_muln (p q : Nat) (hx : opv L x = some (.int .i64 a)) (hy : opv L y = some (.int .i64 b)) (h1 : (p : Int) = a) (h2 : (q : Int) = b) (hp : p * q ≤ 9223372036854775807) : Rd P S n L ⟨dst, .binOp .mul t x y t', ty, pos, af, g⟩ (.int .i64 ((p * q : Nat) : Int)) := by
 subst h1 h2
 exact rd_mul hx hy (muln p q hp)
theorem rd_quon (p q : Nat) (hx : opv L x = some (.int .i64 a)) (hy : opv L y = some (.int .i64 b)) (h1 : (p : Int) = a) (h2 : (q : Int) = b) (h : 0 < q) (hp : p ≤ 9223372036854775807) : Rd P S n L ⟨dst, .binOp .quo t x y t', ty, pos, af, g⟩ (.int .i64 ((p / q : Nat) : Int)) := by
 subst h1 h2
 exact rd_quo hx hy (by omega) (quon p q h hp)
end
section
variable {P : Program} {n : Nat} {w0 : World} {M : Nat → Prop} {E E' : List Ent} {L : Slots} {ty : Nat} {pos : String} {af : Array Edge} {g : Option (Nat × Bool)} {x y : Operand} {t e sz m cap : Nat} {A : Option Addr}
/-- An element is stored into an array of a row. -/
theorem ef_storea {α : Type} (f : α → List Value) {d : Array α} {u : α} (i : Nat) (hz : (P.info? t).map (·.size) = some sz) (hE : E = .row e sz A m cap (flat f d.toList) :: E') (hx : opv L x = some (.pointer (some ⟨ab A, ao A + i * sz, none⟩))) (hy : opv L y = some (.agg (f u).toArray))
  (hf : ∀ x, (f x).length = sz) (hc : ∀ x, (f x).all Value.oneCell' = true) (hpos : 0 < sz) (hi : i < m) (hd : i < d.size) : Ef P n w0 M E L ⟨none, .store t x y, ty, pos, af, g⟩ (fun K => To n w0 M (.row e sz A m cap (flat f (d.setIfInBounds i u).toList) :: E') L K) :=
 ef_storer hz hE hx hy rfl (hf u) (by have := Nat.mul_le_mul_right sz (show i + 1 ≤ m from hi); rw [Nat.add_mul] at this; omega) hpos (hc u) (arr_set hf hd)
theorem ef_storei {d : Array Int} {u : Int} (i : Nat) (hz : (P.info? t).map (·.size) = some 1) (hE : E = .row e 1 A m cap (ints d.toList) :: E') (hx : opv L x = some (.pointer (some ⟨ab A, ao A + i * 1, none⟩))) (hy : opv L y = some (.int .i64 u)) (hi : i < m) (hd : i < d.size) :
  Ef P n w0 M E L ⟨none, .store t x y, ty, pos, af, g⟩ (fun K => To n w0 M (.row e 1 A m cap (ints (d.setIfInBounds i u).toList) :: E') L K) :=
 ef_storer hz hE hx hy rfl rfl (by omega) (by decide) rfl (arr_set1 hd)
end
section
variable {P : Program} {Q : Exit → Act → World → Prop} {n : Nat} {w0 : World} {M : Nat → Prop} {E : List Ent} {L : Slots}
/-- A place where ways meet: 'L0' is what stays. -/
theorem c_meet2 {α : Type} {x y : Code} (Φ : α → Prop) (ec : α → List Ent) (E0 : List Ent) (ch : α → Slots) (L0 : Slots) (_hL : Sub L L0) (e0 : List Ent) (_hE : ∀ w, St w0 M E w → St w0 M (e0 ++ E0) w) (hx : WC P (Exit.then (Cut n w0 M Φ (fun x => ec x ++ E0) (fun x => ch x ++ L0)) Q) n x w0 M E L)
  (hy : ∀ t, Φ t → WC P Q n y w0 M (ec t ++ E0) (ch t ++ L0)) : WC P Q n (.seq x y) w0 M E L := c_meet Φ ec E0 ch L0 hx hy
end
end Go.Proofs.YtfccnoccfhgcbaaGreatDoor
namespace Go.Proofs.YtfccnoccfhgcbaaGreatDoor
open Go Go.RowKit
theorem K75 : callTy Tryz.prog 75 := by unfold callTy; kernel_rfl
theorem K76 : callTy Tryz.prog 76 := by unfold callTy; kernel_rfl
theorem S128 : sliceTy Tryz.prog 128 3 1 := ⟨by kernel_rfl, by kernel_rfl⟩
theorem F64_0 : fieldTy Tryz.prog 64 0 0 := fieldTy.mk' Tryz.underlying64 rfl (by kernel_rfl) rfl
theorem F64_1 : fieldTy Tryz.prog 64 1 1 := fieldTy.mk' Tryz.underlying64 rfl (by kernel_rfl) rfl
theorem F64_2 : fieldTy Tryz.prog 64 2 2 := fieldTy.mk' Tryz.underlying64 rfl (by kernel_rfl) rfl
theorem K36 : callTy Tryz.prog 36 := by unfold callTy; kernel_rfl
theorem K37 : callTy Tryz.prog 37 := by unfold callTy; kernel_rfl
theorem K35 : callTy Tryz.prog 35 := by unfold callTy; kernel_rfl
theorem F64_3 : fieldTy Tryz.prog 64 3 3 := fieldTy.mk' Tryz.underlying64 rfl (by kernel_rfl) rfl
def cmpI (a b : Int) : Int := if a < b then -1 else if b < a then 1 else 0
def orI : List Int → Int
 | [] => 0
 | x :: l => if x = 0 then orI l else x
/-- A thing that is near. -/
structure SN where
 (far id so pl : Int)
 deriving DecidableEq, Inhabited
def SN.enc (x : SN) : List Value := [.int .i64 x.far, .int .i64 x.id, .int .i64 x.so, .int .i64 x.pl]
theorem SN.enc_len (x : SN) : x.enc.length = 4 := rfl
theorem SN.enc_cells (x : SN) : x.enc.all Value.oneCell' = true := rfl
def cmpFar (x y : SN) : Int := orI [cmpI x.far y.far, cmpI x.id y.id, cmpI x.so y.so]
def cmpPl (x y : SN) : Int := cmpI x.pl y.pl

theorem c75 (a : Int) : Pu Tryz.prog 75 [.int .i64 a] (.bool false) := by
 refine Pu.enter Tryz.func75 rfl Tryz.ntmps75 rfl (fun w => ?_)
 refine c_seq ?_
 refine c_reg ?_
 refine sq (rd_assign rfl) rfl ?_
 refine s_end ?_
 refine f_then ?_
 refine c_seq ?_
 refine c_reg ?_
 refine sq (rd_move rfl) rfl ?_
 refine sq (rd_move rfl) rfl ?_
 refine sq (rd_neq rfl rfl) rfl ?_
 refine sq (rd_assign rfl) rfl ?_
 refine s_end ?_
 refine f_then ?_
 refine c_ret ?_
 refine f_ret rfl (.tmp rfl .nil) ?_
 refine pu_end ?_
 simp only [resVal_one]
 congr 1
 simp

theorem c76 (a : Int) : Pu Tryz.prog 76 [.int .i64 a] (.bool false) := by
 refine Pu.enter Tryz.func76 rfl Tryz.ntmps76 rfl (fun w => ?_)
 refine c_seq ?_
 refine c_reg ?_
 refine sq (rd_assign rfl) rfl ?_
 refine s_end ?_
 refine f_then ?_
 refine c_seq ?_
 refine c_reg ?_
 refine sq (rd_move rfl) rfl ?_
 refine sq (rd_move rfl) rfl ?_
 refine sq (rd_neq rfl rfl) rfl ?_
 refine sq (rd_assign rfl) rfl ?_
 refine s_end ?_
 refine f_then ?_
 refine c_ret ?_
 refine f_ret rfl (.tmp rfl .nil) ?_
 refine pu_end ?_
 simp only [resVal_one]
 congr 1
 simp

theorem c36 (a b : Int) : Pu Tryz.prog 36 [.int .i64 a, .int .i64 b] (.int .i64 (cmpI a b)) := by
 refine Pu.enter Tryz.func36 rfl Tryz.ntmps36 rfl (fun w => ?_)
 refine c_seq ?_
 refine c_reg ?_
 refine sq (rd_assign rfl) rfl ?_
 refine s_end ?_
 refine f_then ?_
 refine c_seq ?_
 refine c_reg ?_
 refine sq (rd_move rfl) rfl ?_
 refine se (ef_pure rfl rfl K75 rfl (by exact (c75 _))) rfl ?_
 refine sq (rd_assign rfl) rfl ?_
 refine s_end ?_
 refine f_then ?_
 refine c_seq ?_
 refine c_reg ?_
 refine sq (rd_move rfl) rfl ?_
 refine se (ef_pure rfl rfl K75 rfl (by exact (c75 _))) rfl ?_
 refine sq (rd_assign rfl) rfl ?_
 refine s_end ?_
 refine f_then ?_
 refine c_seq ?_
 refine c_seq ?_
 refine c_reg ?_
 refine sq (rd_move rfl) rfl ?_
 refine s_end ?_
 refine f_then ?_
 refine c_cond rfl (fun h11 => ?_) (fun h11 => ?_)
 ·cases h11
 ·refine c_skip ?_
  refine f_then ?_
  refine c_seq ?_
  refine c_seq ?_
  refine c_reg ?_
  refine sq (rd_move rfl) rfl ?_
  refine s_end ?_
  refine f_then ?_
  refine c_cond rfl (fun h13 => ?_) (fun h13 => ?_)
  ·cases h13
  ·refine c_skip ?_
   refine f_then ?_
   refine c_seq ?_
   refine c_seq ?_
   refine c_reg ?_
   refine sq (rd_move rfl) rfl ?_
   refine sq (rd_move rfl) rfl ?_
   refine sq (rd_lss rfl rfl) rfl ?_
   refine s_end ?_
   refine f_then ?_
   refine c_if rfl (fun h16 => ?_) (fun h16 => ?_)
   ·refine c_seq ?_
    refine c_reg ?_
    refine sq (rd_assign rfl) rfl ?_
    refine s_end ?_
    refine f_then ?_
    refine c_ret ?_
    refine f_then_r ?_
    refine f_ret rfl (.tmp rfl .nil) ?_
    refine pu_end (int_eq ?_)
    unfold cmpI
    first | (rw [if_pos (by omega)]; done) | (rw [if_neg (by omega), if_pos (by omega)]; done) | (rw [if_neg (by omega), if_neg (by omega)]; done)
   ·refine c_skip ?_
    refine f_then ?_
    refine c_seq ?_
    refine c_seq ?_
    refine c_reg ?_
    refine sq (rd_move rfl) rfl ?_
    refine sq (rd_move rfl) rfl ?_
    refine sq (rd_gtr rfl rfl) rfl ?_
    refine s_end ?_
    refine f_then ?_
    refine c_if rfl (fun h19 => ?_) (fun h19 => ?_)
    ·refine c_seq ?_
     refine c_reg ?_
     refine sq (rd_assign rfl) rfl ?_
     refine s_end ?_
     refine f_then ?_
     refine c_ret ?_
     refine f_then_r ?_
     refine f_ret rfl (.tmp rfl .nil) ?_
     refine pu_end (int_eq ?_)
     unfold cmpI
     first | (rw [if_pos (by omega)]; done) | (rw [if_neg (by omega), if_pos (by omega)]; done) | (rw [if_neg (by omega), if_neg (by omega)]; done)
    ·refine c_skip ?_
     refine f_then ?_
     refine c_seq ?_
     refine c_reg ?_
     refine sq (rd_assign rfl) rfl ?_
     refine s_end ?_
     refine f_then ?_
     refine c_ret ?_
     refine f_ret rfl (.tmp rfl .nil) ?_
     refine pu_end (int_eq ?_)
     unfold cmpI
     first | (rw [if_pos (by omega)]; done) | (rw [if_neg (by omega), if_pos (by omega)]; done) | (rw [if_neg (by omega), if_neg (by omega)]; done)

theorem c37 (a b : Int) : Pu Tryz.prog 37 [.int .i64 a, .int .i64 b] (.int .i64 (cmpI a b)) := by
 refine Pu.enter Tryz.func37 rfl Tryz.ntmps37 rfl (fun w => ?_)
 refine c_seq ?_
 refine c_reg ?_
 refine sq (rd_assign rfl) rfl ?_
 refine s_end ?_
 refine f_then ?_
 refine c_seq ?_
 refine c_reg ?_
 refine sq (rd_move rfl) rfl ?_
 refine se (ef_pure rfl rfl K76 rfl (by exact (c76 _))) rfl ?_
 refine sq (rd_assign rfl) rfl ?_
 refine s_end ?_
 refine f_then ?_
 refine c_seq ?_
 refine c_reg ?_
 refine sq (rd_move rfl) rfl ?_
 refine se (ef_pure rfl rfl K76 rfl (by exact (c76 _))) rfl ?_
 refine sq (rd_assign rfl) rfl ?_
 refine s_end ?_
 refine f_then ?_
 refine c_seq ?_
 refine c_seq ?_
 refine c_reg ?_
 refine sq (rd_move rfl) rfl ?_
 refine s_end ?_
 refine f_then ?_
 refine c_cond rfl (fun h11 => ?_) (fun h11 => ?_)
 ·cases h11
 ·refine c_skip ?_
  refine f_then ?_
  refine c_seq ?_
  refine c_seq ?_
  refine c_reg ?_
  refine sq (rd_move rfl) rfl ?_
  refine s_end ?_
  refine f_then ?_
  refine c_cond rfl (fun h13 => ?_) (fun h13 => ?_)
  ·cases h13
  ·refine c_skip ?_
   refine f_then ?_
   refine c_seq ?_
   refine c_seq ?_
   refine c_reg ?_
   refine sq (rd_move rfl) rfl ?_
   refine sq (rd_move rfl) rfl ?_
   refine sq (rd_lss rfl rfl) rfl ?_
   refine s_end ?_
   refine f_then ?_
   refine c_if rfl (fun h16 => ?_) (fun h16 => ?_)
   ·refine c_seq ?_
    refine c_reg ?_
    refine sq (rd_assign rfl) rfl ?_
    refine s_end ?_
    refine f_then ?_
    refine c_ret ?_
    refine f_then_r ?_
    refine f_ret rfl (.tmp rfl .nil) ?_
    refine pu_end (int_eq ?_)
    unfold cmpI
    first | (rw [if_pos (by omega)]; done) | (rw [if_neg (by omega), if_pos (by omega)]; done) | (rw [if_neg (by omega), if_neg (by omega)]; done)
   ·refine c_skip ?_
    refine f_then ?_
    refine c_seq ?_
    refine c_seq ?_
    refine c_reg ?_
    refine sq (rd_move rfl) rfl ?_
    refine sq (rd_move rfl) rfl ?_
    refine sq (rd_gtr rfl rfl) rfl ?_
    refine s_end ?_
    refine f_then ?_
    refine c_if rfl (fun h19 => ?_) (fun h19 => ?_)
    ·refine c_seq ?_
     refine c_reg ?_
     refine sq (rd_assign rfl) rfl ?_
     refine s_end ?_
     refine f_then ?_
     refine c_ret ?_
     refine f_then_r ?_
     refine f_ret rfl (.tmp rfl .nil) ?_
     refine pu_end (int_eq ?_)
     unfold cmpI
     first | (rw [if_pos (by omega)]; done) | (rw [if_neg (by omega), if_pos (by omega)]; done) | (rw [if_neg (by omega), if_neg (by omega)]; done)
    ·refine c_skip ?_
     refine f_then ?_
     refine c_seq ?_
     refine c_reg ?_
     refine sq (rd_assign rfl) rfl ?_
     refine s_end ?_
     refine f_then ?_
     refine c_ret ?_
     refine f_ret rfl (.tmp rfl .nil) ?_
     refine pu_end (int_eq ?_)
     unfold cmpI
     first | (rw [if_pos (by omega)]; done) | (rw [if_neg (by omega), if_pos (by omega)]; done) | (rw [if_neg (by omega), if_neg (by omega)]; done)

theorem c35 (w : World) (A : Option Addr) (n cap : Nat) (l : List Int) (hsl : Sl w none' A n 1 (ints l)) : Pw Tryz.prog w 35 [.slice A n cap] (.int .i64 (orI l)) := by
 refine Pw.enter Tryz.func35 rfl Tryz.ntmps35 rfl ?_
 refine c_seq ?_
 refine c_reg ?_
 refine sq (rd_assign rfl) rfl ?_
 refine s_end ?_
 refine f_then ?_
 refine c_seq ?_
 have hlen : l.length = n := by have := hsl.len; rw [ints_len] at this; omega
 have hmax := hsl.max
 refine c_reg ?_
 refine sq (rd_assign rfl) rfl ?_
 refine s_end ?_
 refine f_then ?_
 refine c_seq ?_
 refine c_seq ?_
 refine c_reg ?_
 refine sq (rd_move rfl) rfl ?_
 refine sq (rd_len S128 rfl rfl) rfl ?_
 refine sq (rd_move rfl) rfl ?_
 refine s_end ?_
 refine f_then ?_
 refine c_block ?_
 refine c_keep (L' := [(2, _), (3, _), (6, _), (7, _), (8, _)]) (by repeat constructor) ?_
 refine c_for (α := Nat) (fun k => k ≤ n ∧ orI l = orI (l.drop k)) (fun k => []) [] (fun k => [(8, .int .i64 (k : Int))]) [(2, _), (3, _), (6, _), (7, _)] (fun k => n - k) (0) (⟨Nat.zero_le _, rfl⟩) (by repeat constructor) (fun _ h => h) ?_
 rintro k ⟨hk, hq⟩
 refine c_seq ?_
 refine c_reg ?_
 refine sq (rd_lss rfl rfl) rfl ?_
 refine s_end ?_
 refine f_then ?_
 refine c_seq ?_
 refine c_if rfl (fun h9 => ?_) (fun h9 => ?_)
 ·have hkn : k < n := by omega
  obtain ⟨x, hx⟩ : ∃ x, l[k]? = some x := ⟨l[k]'(by omega), by simp⟩
  refine c_skip ?_
  refine f_then ?_
  refine c_seq ?_
  refine c_block ?_
  refine c_seq ?_
  refine c_reg ?_
  refine sq (rd_index S128 rfl rfl hsl.plain (by omega) (by omega)) rfl ?_
  refine sq (rd_ldsl C3 hsl rfl (by rw [Int.toNat_natCast, Nat.mul_one]; exact ints_get hx)) rfl ?_
  refine sq (rd_assign rfl) rfl ?_
  refine s_end ?_
  refine f_then ?_
  refine c_seq ?_
  refine c_reg ?_
  refine sq (rd_move rfl) rfl ?_
  refine sq (rd_move rfl) rfl ?_
  refine sq (rd_neq rfl rfl) rfl ?_
  refine s_end ?_
  refine f_then ?_
  refine c_if rfl (fun h14 => ?_) (fun h14 => ?_)
  ·refine c_seq ?_
   refine c_reg ?_
   refine sq (rd_move rfl) rfl ?_
   refine sq (rd_assign rfl) rfl ?_
   refine s_end ?_
   refine f_then ?_
   refine c_ret ?_
   refine f_blk_r ?_
   refine f_then_r ?_
   refine f_then_r ?_
   refine f_blk_r ?_
   refine f_then_r ?_
   refine f_ret rfl (.tmp rfl .nil) ?_
   refine pu_end (int_eq ?_)
   rw [hq, List.drop_eq_getElem_cons (by omega : k < l.length), orI, show l[k]'(by omega) = x from (List.getElem?_eq_some_iff.1 hx).2, if_neg (by omega)]
  ·refine c_skip ?_
   refine f_blk ?_
   refine f_then ?_
   refine c_reg ?_
   refine sq (rd_add rfl rfl (by first | exact wrap_i64 (by omega) | exact rfl)) rfl ?_
   refine sq (rd_move rfl) rfl ?_
   refine s_end ?_
   refine f_again (k + 1) (⟨by omega, by rw [hq, List.drop_eq_getElem_cons (by omega : k < l.length), orI, show l[k]'(by omega) = x from (List.getElem?_eq_some_iff.1 hx).2, if_pos (by omega)]⟩) (by omega) (by repeat constructor) (fun _ h => h.sb)
 ·have hkn : k = n := by omega
  subst hkn
  refine c_exit ?_
  refine f_then_x ?_
  refine f_then_x ?_
  refine f_blk_x ?_
  refine f_then ?_
  refine c_seq ?_
  refine c_reg ?_
  refine sq (rd_move rfl) rfl ?_
  refine sq (rd_assign rfl) rfl ?_
  refine s_end ?_
  refine f_then ?_
  refine c_ret ?_
  refine f_ret rfl (.tmp rfl .nil) ?_
  refine pu_end (int_eq ?_)
  rw [hq, List.drop_of_length_le (by omega)]
  rfl

theorem c34 (x y : SN) : Pu Tryz.prog 34 [.agg x.enc.toArray, .agg y.enc.toArray] (.int .i64 (cmpFar x y)) := by
 refine Pu.enter Tryz.func34 rfl Tryz.ntmps34 rfl (fun w => ?_)
 refine c_seq ?_
 refine c_reg ?_
 refine sx (ef_box rfl rfl rfl) rfl ?_
 rintro b2 hb2
 refine sx (ef_box rfl rfl rfl) rfl ?_
 rintro b3 hb3
 refine sq (rd_assign rfl) rfl ?_
 refine s_end ?_
 refine f_then ?_
 refine c_seq ?_
 refine c_regd [.blk b3 _ _, .blk b2 _ _] (.q 0 (.q 1 (.q 2 (.q 3 (.q 5 (.q 6 (.q 7 (.q 8 (.q 10 (.q 11 (.q 12 (.q 13 (.alt 4 (.alt 9 (.alt 14 (.alt 15 (.alt 16 (.q 17 .done) .stop) .stop) .stop) .stop) .stop))))))))))))) (by kernel_rfl) (by kernel_rfl) (by kernel_rfl) (by kernel_rfl) (fun _ h => h.sb) ?_
 refine dq rfl (rd_field F64_0 rfl) rfl ?_
 refine dq rfl (rd_ldb C2 rfl (by repeat constructor) rfl) rfl ?_
 refine dq rfl (rd_field F64_0 rfl) rfl ?_
 refine dq rfl (rd_ldb C2 rfl (by repeat constructor) rfl) rfl ?_
 refine dq rfl (rd_field F64_1 rfl) rfl ?_
 refine dq rfl (rd_ldb C3 rfl (by repeat constructor) rfl) rfl ?_
 refine dq rfl (rd_field F64_1 rfl) rfl ?_
 refine dq rfl (rd_ldb C3 rfl (by repeat constructor) rfl) rfl ?_
 refine dq rfl (rd_field F64_2 rfl) rfl ?_
 refine dq rfl (rd_ldb C3 rfl (by repeat constructor) rfl) rfl ?_
 refine dq rfl (rd_field F64_2 rfl) rfl ?_
 refine dq rfl (rd_ldb C3 rfl (by repeat constructor) rfl) rfl ?_
 refine de rfl rfl (ef_pure rfl rfl K36 rfl (by exact c36 x.far y.far)) (fun _ h => h.sb) ?_ d_stop
 refine de rfl rfl (ef_pure rfl rfl K37 rfl (by exact c37 x.id y.id)) (fun _ h => h.sb) ?_ d_stop
 refine de rfl rfl (ef_pure rfl rfl K37 rfl (by exact c37 x.so y.so)) (fun _ h => h.sb) ?_ d_stop
 refine dx rfl rfl (ef_slice Rt128 rfl (by repeat constructor) rfl rfl) (fun _ _ _ h => h.sb) ?_ d_stop
 rintro b20 hb20
 refine de rfl rfl (ef_pw rfl rfl K35 rfl (fun w hS => by exact c35 w _ _ _ [cmpI x.far y.far, cmpI x.id y.id, cmpI x.so y.so] (Sl.ofBlk hS (by repeat constructor) rfl rfl none' (none'_no _)))) (fun _ h => h.sb) ?_ d_stop
 refine dq rfl (rd_assign rfl) rfl ?_
 refine d_end ?_
 refine f_then ?_
 refine c_ret ?_
 refine f_ret rfl (.tmp rfl .nil) ?_
 exact pu_end (by rfl)

theorem c39 (x y : SN) : Pu Tryz.prog 39 [.agg x.enc.toArray, .agg y.enc.toArray] (.int .i64 (cmpPl x y)) := by
 refine Pu.enter Tryz.func39 rfl Tryz.ntmps39 rfl (fun w => ?_)
 refine c_seq ?_
 refine c_reg ?_
 refine sx (ef_box rfl rfl rfl) rfl ?_
 rintro b2 hb2
 refine sx (ef_box rfl rfl rfl) rfl ?_
 rintro b3 hb3
 refine sq (rd_assign rfl) rfl ?_
 refine s_end ?_
 refine f_then ?_
 refine c_seq ?_
 refine c_reg ?_
 refine sq (rd_field F64_3 rfl) rfl ?_
 refine sq (rd_ldb C3 rfl (by repeat constructor) rfl) rfl ?_
 refine sq (rd_field F64_3 rfl) rfl ?_
 refine sq (rd_ldb C3 rfl (by repeat constructor) rfl) rfl ?_
 refine se (ef_pure rfl rfl K37 rfl (by exact c37 x.pl y.pl)) rfl ?_
 refine sq (rd_assign rfl) rfl ?_
 refine s_end ?_
 refine f_then ?_
 refine c_ret ?_
 refine f_ret rfl (.tmp rfl .nil) ?_
 exact pu_end (by rfl)

end Go.Proofs.YtfccnoccfhgcbaaGreatDoor
namespace Go.Proofs.YtfccnoccfhgcbaaGreatDoor
open Go Go.RowKit
theorem S62 : sliceTy Tryz.prog 62 64 4 := ⟨by kernel_rfl, by kernel_rfl⟩
theorem A64 : aggTy Tryz.prog 64 4 := ⟨by kernel_rfl, by kernel_rfl⟩
theorem Sz64 : (Tryz.prog.info? 64).map (·.size) = some 4 := by kernel_rfl
theorem K167 : callTy Tryz.prog 167 := by unfold callTy; kernel_rfl
theorem Sz3 : (Tryz.prog.info? 3).map (·.size) = some 1 := by kernel_rfl
theorem c167 (x y : Int) : Pu Tryz.prog 167 [.int .i64 x, .int .i64 y] (.bool (Sort.ltInt x y)) := by
 refine Pu.enter Tryz.func167 rfl Tryz.ntmps167 rfl (fun w => ?_)
 refine c_seq ?_
 refine c_reg ?_
 refine sq (rd_assign rfl) rfl ?_
 refine s_end ?_
 refine f_then ?_
 refine c_seq ?_
 refine c_reg ?_
 refine sq (rd_move rfl) rfl ?_
 refine se (ef_pure rfl rfl K76 rfl (by exact (c76 _))) rfl ?_
 refine sq (rd_move rfl) rfl ?_
 refine s_split (d := 7) rfl (fun g7 => ?_) (fun g7 => ?_)
 ·cases g7
 ·try have g7p := of_decide_eq_false g7
  refine sg0 (fun a hA => wanted_no hA rfl rfl rfl g7 rfl) rfl ?_
  refine sg0 (fun a hA => wanted_no hA rfl rfl rfl g7 rfl) rfl ?_
  refine sg0 (fun a hA => wanted_no hA rfl rfl rfl g7 rfl) rfl ?_
  refine sq (rd_pick_ff rfl g7 rfl) rfl ?_
  refine sq (rd_move rfl) rfl ?_
  refine sg1 (fun a hA => wanted_yes hA rfl rfl rfl (Eq.refl _)) (rd_move rfl) rfl ?_
  refine sg1 (fun a hA => wanted_yes hA rfl rfl rfl (Eq.refl _)) (rd_move rfl) rfl ?_
  refine sg1 (fun a hA => wanted_yes hA rfl rfl rfl (Eq.refl _)) (rd_lss rfl rfl) rfl ?_
  refine sq (rd_pick_f rfl rfl) rfl ?_
  refine sq (rd_assign rfl) rfl ?_
  refine s_end ?_
  refine f_then ?_
  refine c_ret ?_
  refine f_ret rfl (.tmp rfl .nil) ?_
  exact pu_end (by rfl)

theorem c124 (w : World) (A : Option Addr) (cap n : Nat) (d : Array SN) (g : Nat) (cmp : SN → SN → Int) (hg : callTy Tryz.prog g) (hcmp : ∀ x y, Pu Tryz.prog g [.agg (SN.enc x).toArray, .agg (SN.enc y).toArray] (.int .i64 (cmp x y))) (hd : d.size = n) (hn : n ≤ 1000000) (a b : Nat) (hab : a ≤ b) (hb : b ≤ n) (hS : St w (fpOf [.row 64 4 A n cap (flat SN.enc d.toList)]) [.row 64 4 A n cap (flat SN.enc d.toList)] w) : Calls Tryz.prog 124 [.slice A n cap, .int .i64 (a : Int), .int .i64 (b : Int), .func (.func g) #[] #[]].toArray w (RtE fun v w' => ∃ x : Unit, v = (fun _ => .tuple #[]) x ∧ (fun _ => True) x ∧ St w (fpOf [.row 64 4 A n cap (flat SN.enc d.toList)]) ((fun _ => [.row 64 4 A n cap (flat SN.enc (Sort.insertionSort (ltOf cmp) d a b).toList)]) x) w') := by
 refine enter Tryz.func124 rfl Tryz.ntmps124 rfl hS ?_
 refine c_seq ?_
 have hA0 : 0 < n → plainA A := fun h => ((row_know (List.mem_cons_self ..) w hS).2.2.2 h).1
 refine c_reg ?_
 refine sq (rd_move rfl) rfl ?_
 refine sq (rd_addn (a) (1) rfl rfl rfl rfl (by omega)) rfl ?_
 refine sq (rd_assign rfl) rfl ?_
 refine s_end ?_
 refine f_then ?_
 refine c_block ?_
 refine c_keep (L' := [(0, _), (1, _), (2, _), (3, _), (8, _)]) (by repeat constructor) ?_
 refine c_for (α := Nat × Array SN) (fun ⟨i, dk⟩ => a + 1 ≤ i ∧ (i ≤ b ∨ i = a + 1) ∧ dk.size = n ∧ Sort.insOuter (ltOf cmp) a b (a + 1) d = Sort.insOuter (ltOf cmp) a b i dk) (fun ⟨i, dk⟩ => [.row 64 4 A n cap (flat SN.enc dk.toList)]) [] (fun ⟨i, dk⟩ => [(8, .int .i64 (i : Int))]) [(0, _), (1, _), (2, _), (3, _)] (fun ⟨i, dk⟩ => b - i) ((a + 1, d)) (⟨Nat.le_refl _, .inr rfl, hd, rfl⟩) (by repeat constructor) (fun _ h => h) ?_
 rintro ⟨i, dk⟩ ⟨hi1, hi2, hdk, hq⟩
 refine c_seq ?_
 refine c_seq ?_
 refine c_reg ?_
 refine sq (rd_move rfl) rfl ?_
 refine sq (rd_move rfl) rfl ?_
 refine sq (rd_lss rfl rfl) rfl ?_
 refine s_end ?_
 refine f_then ?_
 refine c_if rfl (fun h14 => ?_) (fun h14 => ?_)
 ·have hib : i < b := by omega
  refine c_skip ?_
  refine f_then ?_
  refine c_seq ?_
  refine c_block ?_
  refine c_seq ?_
  refine c_reg ?_
  refine sq (rd_move rfl) rfl ?_
  refine sq (rd_assign rfl) rfl ?_
  refine s_end ?_
  refine f_then ?_
  refine c_block ?_
  refine c_keep (L' := [(8, _), (0, _), (1, _), (2, _), (3, _), (12, _), (13, _), (14, _), (17, _), (9, _)]) (by repeat constructor) ?_
  refine c_for (α := Nat × Array SN) (fun ⟨j, dj⟩ => a ≤ j ∧ j ≤ i ∧ dj.size = n ∧ Sort.insInner (ltOf cmp) a i dk = Sort.insInner (ltOf cmp) a j dj) (fun ⟨j, dj⟩ => [.row 64 4 A n cap (flat SN.enc dj.toList)]) [] (fun ⟨j, dj⟩ => [(9, .int .i64 (j : Int))]) [(8, _), (0, _), (1, _), (2, _), (3, _), (12, _), (13, _), (14, _), (17, _)] (fun ⟨j, dj⟩ => j) ((i, dk)) (⟨by omega, Nat.le_refl _, hdk, rfl⟩) (by repeat constructor) (fun _ h => h) ?_
  rintro ⟨j, dj⟩ ⟨hj1, hj2, hdj, hq2⟩
  refine c_seq ?_
  refine c_seq ?_
  refine c_regd [.row _ _ A n cap _] (.q 0 (.q 1 (.q 2 (.q 3 (.q 4 (.q 5 (.q 6 (.q 7 (.q 8 (.q 9 (.q 10 (.q 11 (.q 12 (.q 13 (.alt 14 (.q 15 (.q 16 .done)) .stop))))))))))))))) (by kernel_rfl) (by kernel_rfl) (by kernel_rfl) (by kernel_rfl) (fun _ h => h.sb) ?_
  refine dq rfl (rd_move rfl) rfl ?_
  refine dq rfl (rd_move rfl) rfl ?_
  refine dq rfl (rd_gtr rfl rfl) rfl ?_
  refine dq rfl (rd_move rfl) rfl ?_
  refine d_split (d := 21) rfl (fun g21 => ?_) (fun g21 => ?_)
  ·try have g21p := of_decide_eq_true g21
   refine dq1 rfl (fun a hA => wanted_yes hA rfl rfl rfl g21) (rd_move rfl) rfl ?_
   refine dq1 rfl (fun a hA => wanted_yes hA rfl rfl rfl g21) (rd_move rfl) rfl ?_
   refine dq1 rfl (fun a hA => wanted_yes hA rfl rfl rfl g21) (rd_move rfl) rfl ?_
   refine dq1 rfl (fun a hA => wanted_yes hA rfl rfl rfl g21) (rd_index S62 rfl rfl hA0 (by omega) (by omega)) rfl ?_
   refine dq1 rfl (fun a hA => wanted_yes hA rfl rfl rfl g21) (rd_ldsr A64 (by first | exact .head _) rfl (arr_part (f := SN.enc) SN.enc_len (i := j) (by first | omega | (simp only [swp_size, Array.size_setIfInBounds]; omega)))) rfl ?_
   refine dq1 rfl (fun a hA => wanted_yes hA rfl rfl rfl g21) (rd_move rfl) rfl ?_
   refine dq1 rfl (fun a hA => wanted_yes hA rfl rfl rfl g21) (rd_move rfl) rfl ?_
   refine dq1 rfl (fun a hA => wanted_yes hA rfl rfl rfl g21) (rd_subn (j) (1) rfl rfl rfl rfl (by omega) (by omega)) rfl ?_
   refine dq1 rfl (fun a hA => wanted_yes hA rfl rfl rfl g21) (rd_index S62 rfl rfl hA0 (by omega) (by omega)) rfl ?_
   refine dq1 rfl (fun a hA => wanted_yes hA rfl rfl rfl g21) (rd_ldsr A64 (by first | exact .head _) rfl (arr_part (f := SN.enc) SN.enc_len (i := (j - 1)) (by first | omega | (simp only [swp_size, Array.size_setIfInBounds]; omega)))) rfl ?_
   refine deg rfl (fun a hA => wanted_yes hA rfl rfl rfl g21) (ef_pure rfl rfl hg rfl (by exact hcmp _ _)) (fun _ h => h.sb) ?_ d_stop
   refine dq1 rfl (fun a hA => wanted_yes hA rfl rfl rfl g21) (rd_lss rfl rfl) rfl ?_
   refine dq rfl (rd_pick_tt rfl g21 rfl) rfl ?_
   refine d_end ?_
   refine f_then ?_
   refine c_cond rfl (fun h34 => ?_) (fun h34 => ?_)
   ·refine c_skip ?_
    refine f_then ?_
    refine c_seq ?_
    refine c_block ?_
    refine c_regd [] (.q 0 (.q 1 (.q 2 (.q 3 (.q 4 (.q 5 (.q 6 (.q 7 (.q 8 (.q 10 (.q 11 (.q 12 (.alt 9 (.alt 13 (.q 14 (.alt 15 (.q 16 (.alt 17 .done .stop)) .stop)) .stop) (.alt 13 (.alt 9 (.q 14 (.alt 15 (.q 16 (.alt 17 .done .stop)) .stop)) .stop) .stop)))))))))))))) (by kernel_rfl) (by kernel_rfl) (by kernel_rfl) (by kernel_rfl) (fun _ h => h.sb) ?_
    refine dq rfl (rd_move rfl) rfl ?_
    refine dq rfl (rd_move rfl) rfl ?_
    refine dq rfl (rd_move rfl) rfl ?_
    refine dq rfl (rd_move rfl) rfl ?_
    refine dq rfl (rd_subn (j) (1) rfl rfl rfl rfl (by omega) (by omega)) rfl ?_
    refine dq rfl (rd_move rfl) rfl ?_
    refine dq rfl (rd_move rfl) rfl ?_
    refine dq rfl (rd_subn (j) (1) rfl rfl rfl rfl (by omega) (by omega)) rfl ?_
    refine dq rfl (rd_index S62 rfl rfl hA0 (by omega) (by omega)) rfl ?_
    refine dq rfl (rd_move rfl) rfl ?_
    refine dq rfl (rd_move rfl) rfl ?_
    refine dq rfl (rd_index S62 rfl rfl hA0 (by omega) (by omega)) rfl ?_
    refine de rfl rfl (ef_quiet (rd_ldsr A64 (by first | exact .head _) rfl (arr_part (f := SN.enc) SN.enc_len (i := (j - 1)) (by first | omega | (simp only [swp_size, Array.size_setIfInBounds]; omega)))) rfl) (fun _ h => h.sb) ?_ ?_
    ·refine de rfl rfl (ef_quiet (rd_ldsr A64 (by first | exact .head _) rfl (arr_part (f := SN.enc) SN.enc_len (i := j) (by first | omega | (simp only [swp_size, Array.size_setIfInBounds]; omega)))) rfl) (fun _ h => h.sb) ?_ d_stop
     refine dq rfl (rd_index S62 rfl rfl hA0 (by omega) (by omega)) rfl ?_
     refine de rfl rfl (ef_storea SN.enc (j) Sz64 rfl rfl rfl SN.enc_len SN.enc_cells (by decide) (by omega) (by first | omega | (simp only [swp_size, Array.size_setIfInBounds]; omega))) (fun _ h => h.sb) ?_ d_stop
     refine dq rfl (rd_index S62 rfl rfl hA0 (by omega) (by omega)) rfl ?_
     refine de rfl rfl (ef_storea SN.enc ((j - 1)) Sz64 rfl rfl rfl SN.enc_len SN.enc_cells (by decide) (by omega) (by first | omega | (simp only [swp_size, Array.size_setIfInBounds]; omega))) (fun _ h => h.sb) ?_ d_stop
     refine d_end ?_
     refine f_blk ?_
     refine f_then ?_
     refine c_reg ?_
     refine sq (rd_move rfl) rfl ?_
     refine sq (rd_subn (j) (1) rfl rfl rfl rfl (by omega) (by omega)) rfl ?_
     refine sq (rd_assign rfl) rfl ?_
     refine s_end ?_
     refine f_again ((j - 1, Sort.swp dj j (j - 1))) (⟨by omega, by omega, by simpa using hdj, by rw [hq2]; exact ins_step (by omega) h34⟩) (by show j - 1 < j; omega) (by repeat constructor) (fun _ h => h.sb)
    refine de rfl rfl (ef_quiet (rd_ldsr A64 (by first | exact .head _) rfl (arr_part (f := SN.enc) SN.enc_len (i := j) (by first | omega | (simp only [swp_size, Array.size_setIfInBounds]; omega)))) rfl) (fun _ h => h.sb) ?_ ?_
    ·refine de rfl rfl (ef_quiet (rd_ldsr A64 (by first | exact .head _) rfl (arr_part (f := SN.enc) SN.enc_len (i := (j - 1)) (by first | omega | (simp only [swp_size, Array.size_setIfInBounds]; omega)))) rfl) (fun _ h => h.sb) ?_ d_stop
     refine dq rfl (rd_index S62 rfl rfl hA0 (by omega) (by omega)) rfl ?_
     refine de rfl rfl (ef_storea SN.enc (j) Sz64 rfl rfl rfl SN.enc_len SN.enc_cells (by decide) (by omega) (by first | omega | (simp only [swp_size, Array.size_setIfInBounds]; omega))) (fun _ h => h.sb) ?_ d_stop
     refine dq rfl (rd_index S62 rfl rfl hA0 (by omega) (by omega)) rfl ?_
     refine de rfl rfl (ef_storea SN.enc ((j - 1)) Sz64 rfl rfl rfl SN.enc_len SN.enc_cells (by decide) (by omega) (by first | omega | (simp only [swp_size, Array.size_setIfInBounds]; omega))) (fun _ h => h.sb) ?_ d_stop
     refine d_end ?_
     refine f_blk ?_
     refine f_then ?_
     refine c_reg ?_
     refine sq (rd_move rfl) rfl ?_
     refine sq (rd_subn (j) (1) rfl rfl rfl rfl (by omega) (by omega)) rfl ?_
     refine sq (rd_assign rfl) rfl ?_
     refine s_end ?_
     refine f_again ((j - 1, Sort.swp dj j (j - 1))) (⟨by omega, by omega, by simpa using hdj, by rw [hq2]; exact ins_step (by omega) h34⟩) (by show j - 1 < j; omega) (by repeat constructor) (fun _ h => h.sb)
    exact d_stop
   ·refine c_exit ?_
    refine f_then_x ?_
    refine f_then_x ?_
    refine f_blk_x ?_
    refine f_blk ?_
    refine f_then ?_
    refine c_reg ?_
    refine sq (rd_move rfl) rfl ?_
    refine sq (rd_addn (i) (1) rfl rfl rfl rfl (by omega)) rfl ?_
    refine sq (rd_assign rfl) rfl ?_
    refine s_end ?_
    have hend : Sort.insInner (ltOf cmp) a i dk = dj := by rw [hq2]; exact ins_stop (fun _ => by simpa using h34)
    refine f_again ((i + 1, dj)) (⟨by omega, by omega, hdj, by rw [hq, Sort.insOuter, if_pos hib, hend]⟩) (by show b - (i + 1) < b - i; omega) (by repeat constructor) (fun _ h => h.sb)
  ·try have g21p := of_decide_eq_false g21
   refine dq0 rfl (fun a hA => wanted_no hA rfl rfl rfl g21 rfl) rfl ?_
   refine dq0 rfl (fun a hA => wanted_no hA rfl rfl rfl g21 rfl) rfl ?_
   refine dq0 rfl (fun a hA => wanted_no hA rfl rfl rfl g21 rfl) rfl ?_
   refine dq0 rfl (fun a hA => wanted_no hA rfl rfl rfl g21 rfl) rfl ?_
   refine dq0 rfl (fun a hA => wanted_no hA rfl rfl rfl g21 rfl) rfl ?_
   refine dq0 rfl (fun a hA => wanted_no hA rfl rfl rfl g21 rfl) rfl ?_
   refine dq0 rfl (fun a hA => wanted_no hA rfl rfl rfl g21 rfl) rfl ?_
   refine dq0 rfl (fun a hA => wanted_no hA rfl rfl rfl g21 rfl) rfl ?_
   refine dq0 rfl (fun a hA => wanted_no hA rfl rfl rfl g21 rfl) rfl ?_
   refine dq0 rfl (fun a hA => wanted_no hA rfl rfl rfl g21 rfl) rfl ?_
   refine de0 rfl (fun a hA => wanted_no hA rfl rfl rfl g21 rfl) rfl (fun _ h => h.sb) ?_ d_stop
   refine dq0 rfl (fun a hA => wanted_no hA rfl rfl rfl g21 rfl) rfl ?_
   refine dq rfl (rd_pick_ff rfl g21 rfl) rfl ?_
   refine d_end ?_
   refine f_then ?_
   refine c_lit_f rfl ?_
   refine c_exit ?_
   refine f_then_x ?_
   refine f_then_x ?_
   refine f_blk_x ?_
   refine f_blk ?_
   refine f_then ?_
   refine c_reg ?_
   refine sq (rd_move rfl) rfl ?_
   refine sq (rd_addn (i) (1) rfl rfl rfl rfl (by omega)) rfl ?_
   refine sq (rd_assign rfl) rfl ?_
   refine s_end ?_
   have hend : Sort.insInner (ltOf cmp) a i dk = dj := by rw [hq2]; exact ins_stop (fun h => absurd h (by omega))
   refine f_again ((i + 1, dj)) (⟨by omega, by omega, hdj, by rw [hq, Sort.insOuter, if_pos hib, hend]⟩) (by show b - (i + 1) < b - i; omega) (by repeat constructor) (fun _ h => h.sb)
 ·refine c_exit ?_
  refine f_then_x ?_
  refine f_then_x ?_
  refine f_blk_x ?_
  refine f_end rfl .nil ?_
  exact fun w' hS => ⟨_, rfl, (), rfl, trivial, by rw [show Sort.insertionSort (ltOf cmp) d a b = dk from by rw [Sort.insertionSort, hq, Sort.insOuter, if_neg (by omega)]]; exact hS⟩

theorem c161 (w : World) (A : Option Addr) (cap n : Nat) (d : Array Int) (hd : d.size = n) (hn : n ≤ 1000000) (a b : Nat) (hab : a ≤ b) (hb : b ≤ n) (hS : St w (fpOf [.row 3 1 A n cap (ints d.toList)]) [.row 3 1 A n cap (ints d.toList)] w) : Calls Tryz.prog 161 [.slice A n cap, .int .i64 (a : Int), .int .i64 (b : Int)].toArray w (RtE fun v w' => ∃ x : Unit, v = (fun _ => .tuple #[]) x ∧ (fun _ => True) x ∧ St w (fpOf [.row 3 1 A n cap (ints d.toList)]) ((fun _ => [.row 3 1 A n cap (ints (Sort.insertionSort Sort.ltInt d a b).toList)]) x) w') := by
 refine enter Tryz.func161 rfl Tryz.ntmps161 rfl hS ?_
 refine c_seq ?_
 have hA0 : 0 < n → plainA A := fun h => ((row_know (List.mem_cons_self ..) w hS).2.2.2 h).1
 refine c_reg ?_
 refine sq (rd_move rfl) rfl ?_
 refine sq (rd_addn (a) (1) rfl rfl rfl rfl (by omega)) rfl ?_
 refine sq (rd_assign rfl) rfl ?_
 refine s_end ?_
 refine f_then ?_
 refine c_block ?_
 refine c_keep (L' := [(0, _), (1, _), (2, _), (6, _)]) (by repeat constructor) ?_
 refine c_for (α := Nat × Array Int) (fun ⟨i, dk⟩ => a + 1 ≤ i ∧ (i ≤ b ∨ i = a + 1) ∧ dk.size = n ∧ Sort.insOuter Sort.ltInt a b (a + 1) d = Sort.insOuter Sort.ltInt a b i dk) (fun ⟨i, dk⟩ => [.row 3 1 A n cap (ints dk.toList)]) [] (fun ⟨i, dk⟩ => [(6, .int .i64 (i : Int))]) [(0, _), (1, _), (2, _)] (fun ⟨i, dk⟩ => b - i) ((a + 1, d)) (⟨Nat.le_refl _, .inr rfl, hd, rfl⟩) (by repeat constructor) (fun _ h => h) ?_
 rintro ⟨i, dk⟩ ⟨hi1, hi2, hdk, hq⟩
 refine c_seq ?_
 refine c_seq ?_
 refine c_reg ?_
 refine sq (rd_move rfl) rfl ?_
 refine sq (rd_move rfl) rfl ?_
 refine sq (rd_lss rfl rfl) rfl ?_
 refine s_end ?_
 refine f_then ?_
 refine c_if rfl (fun h12 => ?_) (fun h12 => ?_)
 ·have hib : i < b := by omega
  refine c_skip ?_
  refine f_then ?_
  refine c_seq ?_
  refine c_block ?_
  refine c_seq ?_
  refine c_reg ?_
  refine sq (rd_move rfl) rfl ?_
  refine sq (rd_assign rfl) rfl ?_
  refine s_end ?_
  refine f_then ?_
  refine c_block ?_
  refine c_keep (L' := [(6, _), (0, _), (1, _), (2, _), (10, _), (11, _), (12, _), (15, _), (7, _)]) (by repeat constructor) ?_
  refine c_for (α := Nat × Array Int) (fun ⟨j, dj⟩ => a ≤ j ∧ j ≤ i ∧ dj.size = n ∧ Sort.insInner Sort.ltInt a i dk = Sort.insInner Sort.ltInt a j dj) (fun ⟨j, dj⟩ => [.row 3 1 A n cap (ints dj.toList)]) [] (fun ⟨j, dj⟩ => [(7, .int .i64 (j : Int))]) [(6, _), (0, _), (1, _), (2, _), (10, _), (11, _), (12, _), (15, _)] (fun ⟨j, dj⟩ => j) ((i, dk)) (⟨by omega, Nat.le_refl _, hdk, rfl⟩) (by repeat constructor) (fun _ h => h) ?_
  rintro ⟨j, dj⟩ ⟨hj1, hj2, hdj, hq2⟩
  refine c_seq ?_
  refine c_seq ?_
  refine c_regd [.row _ _ A n cap _] (.q 0 (.q 1 (.q 2 (.q 3 (.q 4 (.q 5 (.q 6 (.q 7 (.q 8 (.q 9 (.q 10 (.q 11 (.q 12 (.alt 13 (.q 14 .done) .stop)))))))))))))) (by kernel_rfl) (by kernel_rfl) (by kernel_rfl) (by kernel_rfl) (fun _ h => h.sb) ?_
  refine dq rfl (rd_move rfl) rfl ?_
  refine dq rfl (rd_move rfl) rfl ?_
  refine dq rfl (rd_gtr rfl rfl) rfl ?_
  refine dq rfl (rd_move rfl) rfl ?_
  refine d_split (d := 19) rfl (fun g19 => ?_) (fun g19 => ?_)
  ·try have g19p := of_decide_eq_true g19
   refine dq1 rfl (fun a hA => wanted_yes hA rfl rfl rfl g19) (rd_move rfl) rfl ?_
   refine dq1 rfl (fun a hA => wanted_yes hA rfl rfl rfl g19) (rd_move rfl) rfl ?_
   refine dq1 rfl (fun a hA => wanted_yes hA rfl rfl rfl g19) (rd_index S128 rfl rfl hA0 (by omega) (by omega)) rfl ?_
   refine dq1 rfl (fun a hA => wanted_yes hA rfl rfl rfl g19) (rd_ldr C3 (by first | exact .head _) rfl (arr_get1 (i := j) (by first | omega | (simp only [swp_size, Array.size_setIfInBounds]; omega)))) rfl ?_
   refine dq1 rfl (fun a hA => wanted_yes hA rfl rfl rfl g19) (rd_move rfl) rfl ?_
   refine dq1 rfl (fun a hA => wanted_yes hA rfl rfl rfl g19) (rd_move rfl) rfl ?_
   refine dq1 rfl (fun a hA => wanted_yes hA rfl rfl rfl g19) (rd_subn (j) (1) rfl rfl rfl rfl (by omega) (by omega)) rfl ?_
   refine dq1 rfl (fun a hA => wanted_yes hA rfl rfl rfl g19) (rd_index S128 rfl rfl hA0 (by omega) (by omega)) rfl ?_
   refine dq1 rfl (fun a hA => wanted_yes hA rfl rfl rfl g19) (rd_ldr C3 (by first | exact .head _) rfl (arr_get1 (i := (j - 1)) (by first | omega | (simp only [swp_size, Array.size_setIfInBounds]; omega)))) rfl ?_
   refine deg rfl (fun a hA => wanted_yes hA rfl rfl rfl g19) (ef_pure rfl rfl K167 rfl (by exact c167 _ _)) (fun _ h => h.sb) ?_ d_stop
   refine dq rfl (rd_pick_tt rfl g19 rfl) rfl ?_
   refine d_end ?_
   refine f_then ?_
   refine c_cond rfl (fun h30 => ?_) (fun h30 => ?_)
   ·refine c_skip ?_
    refine f_then ?_
    refine c_seq ?_
    refine c_block ?_
    refine c_regd [] (.q 0 (.q 1 (.q 2 (.q 3 (.q 4 (.q 5 (.q 6 (.q 7 (.q 8 (.q 10 (.q 11 (.q 12 (.alt 9 (.alt 13 (.q 14 (.alt 15 (.q 16 (.alt 17 .done .stop)) .stop)) .stop) (.alt 13 (.alt 9 (.q 14 (.alt 15 (.q 16 (.alt 17 .done .stop)) .stop)) .stop) .stop)))))))))))))) (by kernel_rfl) (by kernel_rfl) (by kernel_rfl) (by kernel_rfl) (fun _ h => h.sb) ?_
    refine dq rfl (rd_move rfl) rfl ?_
    refine dq rfl (rd_move rfl) rfl ?_
    refine dq rfl (rd_move rfl) rfl ?_
    refine dq rfl (rd_move rfl) rfl ?_
    refine dq rfl (rd_subn (j) (1) rfl rfl rfl rfl (by omega) (by omega)) rfl ?_
    refine dq rfl (rd_move rfl) rfl ?_
    refine dq rfl (rd_move rfl) rfl ?_
    refine dq rfl (rd_subn (j) (1) rfl rfl rfl rfl (by omega) (by omega)) rfl ?_
    refine dq rfl (rd_index S128 rfl rfl hA0 (by omega) (by omega)) rfl ?_
    refine dq rfl (rd_move rfl) rfl ?_
    refine dq rfl (rd_move rfl) rfl ?_
    refine dq rfl (rd_index S128 rfl rfl hA0 (by omega) (by omega)) rfl ?_
    refine de rfl rfl (ef_quiet (rd_ldr C3 (by first | exact .head _) rfl (arr_get1 (i := (j - 1)) (by first | omega | (simp only [swp_size, Array.size_setIfInBounds]; omega)))) rfl) (fun _ h => h.sb) ?_ ?_
    ·refine de rfl rfl (ef_quiet (rd_ldr C3 (by first | exact .head _) rfl (arr_get1 (i := j) (by first | omega | (simp only [swp_size, Array.size_setIfInBounds]; omega)))) rfl) (fun _ h => h.sb) ?_ d_stop
     refine dq rfl (rd_index S128 rfl rfl hA0 (by omega) (by omega)) rfl ?_
     refine de rfl rfl (ef_storei (j) Sz3 rfl rfl rfl (by omega) (by first | omega | (simp only [swp_size, Array.size_setIfInBounds]; omega))) (fun _ h => h.sb) ?_ d_stop
     refine dq rfl (rd_index S128 rfl rfl hA0 (by omega) (by omega)) rfl ?_
     refine de rfl rfl (ef_storei ((j - 1)) Sz3 rfl rfl rfl (by omega) (by first | omega | (simp only [swp_size, Array.size_setIfInBounds]; omega))) (fun _ h => h.sb) ?_ d_stop
     refine d_end ?_
     refine f_blk ?_
     refine f_then ?_
     refine c_reg ?_
     refine sq (rd_move rfl) rfl ?_
     refine sq (rd_subn (j) (1) rfl rfl rfl rfl (by omega) (by omega)) rfl ?_
     refine sq (rd_assign rfl) rfl ?_
     refine s_end ?_
     refine f_again ((j - 1, Sort.swp dj j (j - 1))) (⟨by omega, by omega, by simpa using hdj, by rw [hq2]; exact ins_step (by omega) h30⟩) (by show j - 1 < j; omega) (by repeat constructor) (fun _ h => h.sb)
    refine de rfl rfl (ef_quiet (rd_ldr C3 (by first | exact .head _) rfl (arr_get1 (i := j) (by first | omega | (simp only [swp_size, Array.size_setIfInBounds]; omega)))) rfl) (fun _ h => h.sb) ?_ ?_
    ·refine de rfl rfl (ef_quiet (rd_ldr C3 (by first | exact .head _) rfl (arr_get1 (i := (j - 1)) (by first | omega | (simp only [swp_size, Array.size_setIfInBounds]; omega)))) rfl) (fun _ h => h.sb) ?_ d_stop
     refine dq rfl (rd_index S128 rfl rfl hA0 (by omega) (by omega)) rfl ?_
     refine de rfl rfl (ef_storei (j) Sz3 rfl rfl rfl (by omega) (by first | omega | (simp only [swp_size, Array.size_setIfInBounds]; omega))) (fun _ h => h.sb) ?_ d_stop
     refine dq rfl (rd_index S128 rfl rfl hA0 (by omega) (by omega)) rfl ?_
     refine de rfl rfl (ef_storei ((j - 1)) Sz3 rfl rfl rfl (by omega) (by first | omega | (simp only [swp_size, Array.size_setIfInBounds]; omega))) (fun _ h => h.sb) ?_ d_stop
     refine d_end ?_
     refine f_blk ?_
     refine f_then ?_
     refine c_reg ?_
     refine sq (rd_move rfl) rfl ?_
     refine sq (rd_subn (j) (1) rfl rfl rfl rfl (by omega) (by omega)) rfl ?_
     refine sq (rd_assign rfl) rfl ?_
     refine s_end ?_
     refine f_again ((j - 1, Sort.swp dj j (j - 1))) (⟨by omega, by omega, by simpa using hdj, by rw [hq2]; exact ins_step (by omega) h30⟩) (by show j - 1 < j; omega) (by repeat constructor) (fun _ h => h.sb)
    exact d_stop
   ·refine c_exit ?_
    refine f_then_x ?_
    refine f_then_x ?_
    refine f_blk_x ?_
    refine f_blk ?_
    refine f_then ?_
    refine c_reg ?_
    refine sq (rd_move rfl) rfl ?_
    refine sq (rd_addn (i) (1) rfl rfl rfl rfl (by omega)) rfl ?_
    refine sq (rd_assign rfl) rfl ?_
    refine s_end ?_
    have hend : Sort.insInner Sort.ltInt a i dk = dj := by rw [hq2]; exact ins_stop (fun _ => by simpa using h30)
    refine f_again ((i + 1, dj)) (⟨by omega, by omega, hdj, by rw [hq, Sort.insOuter, if_pos hib, hend]⟩) (by show b - (i + 1) < b - i; omega) (by repeat constructor) (fun _ h => h.sb)
  ·try have g19p := of_decide_eq_false g19
   refine dq0 rfl (fun a hA => wanted_no hA rfl rfl rfl g19 rfl) rfl ?_
   refine dq0 rfl (fun a hA => wanted_no hA rfl rfl rfl g19 rfl) rfl ?_
   refine dq0 rfl (fun a hA => wanted_no hA rfl rfl rfl g19 rfl) rfl ?_
   refine dq0 rfl (fun a hA => wanted_no hA rfl rfl rfl g19 rfl) rfl ?_
   refine dq0 rfl (fun a hA => wanted_no hA rfl rfl rfl g19 rfl) rfl ?_
   refine dq0 rfl (fun a hA => wanted_no hA rfl rfl rfl g19 rfl) rfl ?_
   refine dq0 rfl (fun a hA => wanted_no hA rfl rfl rfl g19 rfl) rfl ?_
   refine dq0 rfl (fun a hA => wanted_no hA rfl rfl rfl g19 rfl) rfl ?_
   refine dq0 rfl (fun a hA => wanted_no hA rfl rfl rfl g19 rfl) rfl ?_
   refine de0 rfl (fun a hA => wanted_no hA rfl rfl rfl g19 rfl) rfl (fun _ h => h.sb) ?_ d_stop
   refine dq rfl (rd_pick_ff rfl g19 rfl) rfl ?_
   refine d_end ?_
   refine f_then ?_
   refine c_lit_f rfl ?_
   refine c_exit ?_
   refine f_then_x ?_
   refine f_then_x ?_
   refine f_blk_x ?_
   refine f_blk ?_
   refine f_then ?_
   refine c_reg ?_
   refine sq (rd_move rfl) rfl ?_
   refine sq (rd_addn (i) (1) rfl rfl rfl rfl (by omega)) rfl ?_
   refine sq (rd_assign rfl) rfl ?_
   refine s_end ?_
   have hend : Sort.insInner Sort.ltInt a i dk = dj := by rw [hq2]; exact ins_stop (fun h => absurd h (by omega))
   refine f_again ((i + 1, dj)) (⟨by omega, by omega, hdj, by rw [hq, Sort.insOuter, if_pos hib, hend]⟩) (by show b - (i + 1) < b - i; omega) (by repeat constructor) (fun _ h => h.sb)
 ·refine c_exit ?_
  refine f_then_x ?_
  refine f_then_x ?_
  refine f_blk_x ?_
  refine f_end rfl .nil ?_
  exact fun w' hS => ⟨_, rfl, (), rfl, trivial, by rw [show Sort.insertionSort Sort.ltInt d a b = dk from by rw [Sort.insertionSort, hq, Sort.insOuter, if_neg (by omega)]]; exact hS⟩

end Go.Proofs.YtfccnoccfhgcbaaGreatDoor
namespace Go.Proofs.YtfccnoccfhgcbaaGreatDoor
open Go Go.RowKit
theorem c156 (w : World) (A : Option Addr) (cap n : Nat) (d : Array SN) (g : Nat) (cmp : SN → SN → Int) (hg : callTy Tryz.prog g) (hcmp : ∀ x y, Pu Tryz.prog g [.agg (SN.enc x).toArray, .agg (SN.enc y).toArray] (.int .i64 (cmp x y))) (hd : d.size = n) (hn : n ≤ 1000000) (lo hi first : Nat) (hlo : lo ≤ n) (hb : first + hi ≤ n) (hS : St w (fpOf [.row 64 4 A n cap (flat SN.enc d.toList)]) [.row 64 4 A n cap (flat SN.enc d.toList)] w) : Calls Tryz.prog 156 [.slice A n cap, .int .i64 (lo : Int), .int .i64 (hi : Int), .int .i64 (first : Int), .func (.func g) #[] #[]].toArray w (RtE fun v w' => ∃ x : Unit, v = (fun _ => .tuple #[]) x ∧ (fun _ => True) x ∧ St w (fpOf [.row 64 4 A n cap (flat SN.enc d.toList)]) ((fun _ => [.row 64 4 A n cap (flat SN.enc (Sort.siftDown (ltOf cmp) hi first lo d).toList)]) x) w') := by
 refine enter Tryz.func156 rfl Tryz.ntmps156 rfl hS ?_
 refine c_seq ?_
 have hA0 : 0 < n → plainA A := fun h => ((row_know (List.mem_cons_self ..) w hS).2.2.2 h).1
 refine c_reg ?_
 refine sq (rd_move rfl) rfl ?_
 refine sq (rd_assign rfl) rfl ?_
 refine s_end ?_
 refine f_then ?_
 refine c_block ?_
 refine c_keep (L' := [(0, _), (2, _), (3, _), (4, _), (10, _)]) (by repeat constructor) ?_
 refine c_for (α := Nat × Array SN) (fun ⟨root, dk⟩ => root ≤ n ∧ dk.size = n ∧ Sort.siftDown (ltOf cmp) hi first lo d = Sort.siftDown (ltOf cmp) hi first root dk) (fun ⟨root, dk⟩ => [.row 64 4 A n cap (flat SN.enc dk.toList)]) [] (fun ⟨root, dk⟩ => [(10, .int .i64 (root : Int))]) [(0, _), (2, _), (3, _), (4, _)] (fun ⟨root, dk⟩ => n - root) ((lo, d)) (⟨hlo, hd, rfl⟩) (by repeat constructor) (fun _ h => h) ?_
 rintro ⟨root, dk⟩ ⟨hr, hdk, hq⟩
 refine c_block ?_
 refine c_seq ?_
 refine c_reg ?_
 refine sq (rd_move rfl) rfl ?_
 refine sq (rd_muln (2) (root) rfl rfl rfl rfl (by omega)) rfl ?_
 refine sq (rd_addn ((2 * root)) (1) rfl rfl rfl rfl (by omega)) rfl ?_
 refine sq (rd_assign rfl) rfl ?_
 refine s_end ?_
 refine f_then ?_
 refine c_seq ?_
 refine c_seq ?_
 refine c_reg ?_
 refine sq (rd_move rfl) rfl ?_
 refine sq (rd_move rfl) rfl ?_
 refine sq (rd_geq rfl rfl) rfl ?_
 refine s_end ?_
 refine f_then ?_
 refine c_if rfl (fun h18 => ?_) (fun h18 => ?_)
 ·refine c_exit ?_
  refine f_then_x ?_
  refine f_blk_y rfl ?_
  refine f_then_x ?_
  refine f_blk_x ?_
  refine f_end rfl .nil ?_
  exact fun w' hS => ⟨_, rfl, (), rfl, trivial, by rw [show Sort.siftDown (ltOf cmp) hi first lo d = dk from by rw [hq]; exact sift_out (by omega)]; exact hS⟩
 ·have hlt : 2 * root + 1 < hi := by omega
  refine c_skip ?_
  refine f_then ?_
  refine c_meet2 (α := Nat) (fun c => c = if (decide (2 * root + 1 + 1 < hi) && (ltOf cmp) dk[first + (2 * root + 1)]! dk[first + (2 * root + 1) + 1]!) = true then 2 * root + 2 else 2 * root + 1) (fun c => []) [.row _ _ A n cap _] (fun c => [(11, .int .i64 (c : Int))]) [(10, _), (0, _), (2, _), (3, _), (4, _), (13, _), (14, _), (15, _), (16, _), (17, _), (18, _)] (by repeat constructor) [] (fun _ h => h) ?_ ?_
  ·refine c_seq ?_
   refine c_regd [.row _ _ A n cap _] (.q 0 (.q 1 (.q 2 (.q 3 (.q 4 (.q 5 (.q 6 (.q 7 (.q 8 (.q 9 (.q 10 (.q 11 (.q 12 (.q 13 (.q 14 (.q 15 (.q 16 (.q 17 (.q 18 (.alt 19 (.q 20 (.q 21 .done)) .stop)))))))))))))))))))) (by kernel_rfl) (by kernel_rfl) (by kernel_rfl) (by kernel_rfl) (fun _ h => h.sb) ?_
   refine dq rfl (rd_move rfl) rfl ?_
   refine dq rfl (rd_addn (((2 * root) + 1)) (1) rfl rfl rfl rfl (by omega)) rfl ?_
   refine dq rfl (rd_move rfl) rfl ?_
   refine dq rfl (rd_lss rfl rfl) rfl ?_
   refine dq rfl (rd_move rfl) rfl ?_
   refine d_split (d := 23) rfl (fun g23 => ?_) (fun g23 => ?_)
   ·try have g23p := of_decide_eq_true g23
    refine dq1 rfl (fun a hA => wanted_yes hA rfl rfl rfl g23) (rd_move rfl) rfl ?_
    refine dq1 rfl (fun a hA => wanted_yes hA rfl rfl rfl g23) (rd_move rfl) rfl ?_
    refine dq1 rfl (fun a hA => wanted_yes hA rfl rfl rfl g23) (rd_move rfl) rfl ?_
    refine dq1 rfl (fun a hA => wanted_yes hA rfl rfl rfl g23) (rd_move rfl) rfl ?_
    refine dq1 rfl (fun a hA => wanted_yes hA rfl rfl rfl g23) (rd_addn (first) (((2 * root) + 1)) rfl rfl rfl rfl (by omega)) rfl ?_
    refine dq1 rfl (fun a hA => wanted_yes hA rfl rfl rfl g23) (rd_index S62 rfl rfl hA0 (by omega) (by omega)) rfl ?_
    refine dq1 rfl (fun a hA => wanted_yes hA rfl rfl rfl g23) (rd_ldsr A64 (by first | exact .head _) rfl (arr_part (f := SN.enc) SN.enc_len (i := (first + ((2 * root) + 1))) (by first | omega | (simp only [swp_size, Array.size_setIfInBounds]; omega)))) rfl ?_
    refine dq1 rfl (fun a hA => wanted_yes hA rfl rfl rfl g23) (rd_move rfl) rfl ?_
    refine dq1 rfl (fun a hA => wanted_yes hA rfl rfl rfl g23) (rd_move rfl) rfl ?_
    refine dq1 rfl (fun a hA => wanted_yes hA rfl rfl rfl g23) (rd_move rfl) rfl ?_
    refine dq1 rfl (fun a hA => wanted_yes hA rfl rfl rfl g23) (rd_addn (first) (((2 * root) + 1)) rfl rfl rfl rfl (by omega)) rfl ?_
    refine dq1 rfl (fun a hA => wanted_yes hA rfl rfl rfl g23) (rd_addn ((first + ((2 * root) + 1))) (1) rfl rfl rfl rfl (by omega)) rfl ?_
    refine dq1 rfl (fun a hA => wanted_yes hA rfl rfl rfl g23) (rd_index S62 rfl rfl hA0 (by omega) (by omega)) rfl ?_
    refine dq1 rfl (fun a hA => wanted_yes hA rfl rfl rfl g23) (rd_ldsr A64 (by first | exact .head _) rfl (arr_part (f := SN.enc) SN.enc_len (i := ((first + ((2 * root) + 1)) + 1)) (by first | omega | (simp only [swp_size, Array.size_setIfInBounds]; omega)))) rfl ?_
    refine deg rfl (fun a hA => wanted_yes hA rfl rfl rfl g23) (ef_pure rfl rfl hg rfl (by exact hcmp _ _)) (fun _ h => h.sb) ?_ d_stop
    refine dq1 rfl (fun a hA => wanted_yes hA rfl rfl rfl g23) (rd_lss rfl rfl) rfl ?_
    refine dq rfl (rd_pick_tt rfl g23 rfl) rfl ?_
    refine d_end ?_
    refine f_then ?_
    refine c_cond rfl (fun h40 => ?_) (fun h40 => ?_)
    ·refine c_reg ?_
     refine sq (rd_move rfl) rfl ?_
     refine sq (rd_addn (((2 * root) + 1)) (1) rfl rfl rfl rfl (by omega)) rfl ?_
     refine sq (rd_assign rfl) rfl ?_
     refine s_end ?_
     refine f_cut (2 * root + 2) (by rw [if_pos (by simp [show _ = true from h40, show 2 * root + 1 + 1 < hi from by omega])]) (by repeat constructor) (fun _ h => h.sb)
    ·refine c_skip ?_
     refine f_cut (2 * root + 1) (by rw [if_neg (by simp [show _ = false from h40])]) (by repeat constructor) (fun _ h => h.sb)
   ·try have g23p := of_decide_eq_false g23
    refine dq0 rfl (fun a hA => wanted_no hA rfl rfl rfl g23 rfl) rfl ?_
    refine dq0 rfl (fun a hA => wanted_no hA rfl rfl rfl g23 rfl) rfl ?_
    refine dq0 rfl (fun a hA => wanted_no hA rfl rfl rfl g23 rfl) rfl ?_
    refine dq0 rfl (fun a hA => wanted_no hA rfl rfl rfl g23 rfl) rfl ?_
    refine dq0 rfl (fun a hA => wanted_no hA rfl rfl rfl g23 rfl) rfl ?_
    refine dq0 rfl (fun a hA => wanted_no hA rfl rfl rfl g23 rfl) rfl ?_
    refine dq0 rfl (fun a hA => wanted_no hA rfl rfl rfl g23 rfl) rfl ?_
    refine dq0 rfl (fun a hA => wanted_no hA rfl rfl rfl g23 rfl) rfl ?_
    refine dq0 rfl (fun a hA => wanted_no hA rfl rfl rfl g23 rfl) rfl ?_
    refine dq0 rfl (fun a hA => wanted_no hA rfl rfl rfl g23 rfl) rfl ?_
    refine dq0 rfl (fun a hA => wanted_no hA rfl rfl rfl g23 rfl) rfl ?_
    refine dq0 rfl (fun a hA => wanted_no hA rfl rfl rfl g23 rfl) rfl ?_
    refine dq0 rfl (fun a hA => wanted_no hA rfl rfl rfl g23 rfl) rfl ?_
    refine dq0 rfl (fun a hA => wanted_no hA rfl rfl rfl g23 rfl) rfl ?_
    refine de0 rfl (fun a hA => wanted_no hA rfl rfl rfl g23 rfl) rfl (fun _ h => h.sb) ?_ d_stop
    refine dq0 rfl (fun a hA => wanted_no hA rfl rfl rfl g23 rfl) rfl ?_
    refine dq rfl (rd_pick_ff rfl g23 rfl) rfl ?_
    refine d_end ?_
    refine f_then ?_
    refine c_lit_f rfl ?_
    refine c_skip ?_
    refine f_cut (2 * root + 1) (by rw [if_neg (by simp; omega)]) (by repeat constructor) (fun _ h => h.sb)
  ·rintro c hc
   have hcl := sift_lt hlt hc
   refine c_seq ?_
   refine c_seq ?_
   refine c_regd [.row _ _ A n cap _] (.q 0 (.q 1 (.q 2 (.q 3 (.q 4 (.q 5 (.q 6 (.q 7 (.q 8 (.q 9 (.q 10 (.q 11 (.q 12 (.alt 13 (.q 14 (.q 15 .done)) .stop)))))))))))))) (by kernel_rfl) (by kernel_rfl) (by kernel_rfl) (by kernel_rfl) (fun _ h => h.sb) ?_
   refine dq rfl (rd_move rfl) rfl ?_
   refine dq rfl (rd_move rfl) rfl ?_
   refine dq rfl (rd_move rfl) rfl ?_
   refine dq rfl (rd_move rfl) rfl ?_
   refine dq rfl (rd_addn (first) (root) rfl rfl rfl rfl (by omega)) rfl ?_
   refine dq rfl (rd_index S62 rfl rfl hA0 (by omega) (by omega)) rfl ?_
   refine dq rfl (rd_ldsr A64 (by first | exact .head _) rfl (arr_part (f := SN.enc) SN.enc_len (i := (first + root)) (by first | omega | (simp only [swp_size, Array.size_setIfInBounds]; omega)))) rfl ?_
   refine dq rfl (rd_move rfl) rfl ?_
   refine dq rfl (rd_move rfl) rfl ?_
   refine dq rfl (rd_move rfl) rfl ?_
   refine dq rfl (rd_addn (first) (c) rfl rfl rfl rfl (by omega)) rfl ?_
   refine dq rfl (rd_index S62 rfl rfl hA0 (by omega) (by omega)) rfl ?_
   refine dq rfl (rd_ldsr A64 (by first | exact .head _) rfl (arr_part (f := SN.enc) SN.enc_len (i := (first + c)) (by first | omega | (simp only [swp_size, Array.size_setIfInBounds]; omega)))) rfl ?_
   refine de rfl rfl (ef_pure rfl rfl hg rfl (by exact hcmp _ _)) (fun _ h => h.sb) ?_ d_stop
   refine dq rfl (rd_lss rfl rfl) rfl ?_
   refine dq rfl ((by first | exact rd_notd rfl | exact rd_not rfl)) rfl ?_
   refine d_end ?_
   refine f_then ?_
   refine c_cond rfl (fun h58 => ?_) (fun h58 => ?_)
   ·refine c_ret ?_
    refine f_then_r ?_
    refine f_blk_r ?_
    refine f_then_r ?_
    refine f_blk_r ?_
    refine f_ret rfl .nil ?_
    exact fun w' hS => ⟨_, rfl, (), rfl, trivial, by rw [show Sort.siftDown (ltOf cmp) hi first lo d = dk from by rw [hq]; exact sift_stop hlt hc (by first | simpa using h58 | simpa [Sort.ltInt] using h58)]; exact hS⟩
   ·refine c_skip ?_
    refine f_then ?_
    refine c_seq ?_
    refine c_regd [] (.q 0 (.q 1 (.q 2 (.q 3 (.q 4 (.q 5 (.q 6 (.q 7 (.q 8 (.q 9 (.q 10 (.q 11 (.q 12 (.q 14 (.q 15 (.q 16 (.q 17 (.q 18 (.alt 13 (.alt 19 (.q 20 (.alt 21 (.q 22 (.alt 23 .done .stop)) .stop)) .stop) (.alt 19 (.alt 13 (.q 20 (.alt 21 (.q 22 (.alt 23 .done .stop)) .stop)) .stop) .stop)))))))))))))))))))) (by kernel_rfl) (by kernel_rfl) (by kernel_rfl) (by kernel_rfl) (fun _ h => h.sb) ?_
    refine dq rfl (rd_move rfl) rfl ?_
    refine dq rfl (rd_move rfl) rfl ?_
    refine dq rfl (rd_move rfl) rfl ?_
    refine dq rfl (rd_addn (first) (root) rfl rfl rfl rfl (by omega)) rfl ?_
    refine dq rfl (rd_move rfl) rfl ?_
    refine dq rfl (rd_move rfl) rfl ?_
    refine dq rfl (rd_move rfl) rfl ?_
    refine dq rfl (rd_addn (first) (c) rfl rfl rfl rfl (by omega)) rfl ?_
    refine dq rfl (rd_move rfl) rfl ?_
    refine dq rfl (rd_move rfl) rfl ?_
    refine dq rfl (rd_move rfl) rfl ?_
    refine dq rfl (rd_addn (first) (c) rfl rfl rfl rfl (by omega)) rfl ?_
    refine dq rfl (rd_index S62 rfl rfl hA0 (by omega) (by omega)) rfl ?_
    refine dq rfl (rd_move rfl) rfl ?_
    refine dq rfl (rd_move rfl) rfl ?_
    refine dq rfl (rd_move rfl) rfl ?_
    refine dq rfl (rd_addn (first) (root) rfl rfl rfl rfl (by omega)) rfl ?_
    refine dq rfl (rd_index S62 rfl rfl hA0 (by omega) (by omega)) rfl ?_
    refine de rfl rfl (ef_quiet (rd_ldsr A64 (by first | exact .head _) rfl (arr_part (f := SN.enc) SN.enc_len (i := (first + c)) (by first | omega | (simp only [swp_size, Array.size_setIfInBounds]; omega)))) rfl) (fun _ h => h.sb) ?_ ?_
    ·refine de rfl rfl (ef_quiet (rd_ldsr A64 (by first | exact .head _) rfl (arr_part (f := SN.enc) SN.enc_len (i := (first + root)) (by first | omega | (simp only [swp_size, Array.size_setIfInBounds]; omega)))) rfl) (fun _ h => h.sb) ?_ d_stop
     refine dq rfl (rd_index S62 rfl rfl hA0 (by omega) (by omega)) rfl ?_
     refine de rfl rfl (ef_storea SN.enc ((first + root)) Sz64 rfl rfl rfl SN.enc_len SN.enc_cells (by decide) (by omega) (by first | omega | (simp only [swp_size, Array.size_setIfInBounds]; omega))) (fun _ h => h.sb) ?_ d_stop
     refine dq rfl (rd_index S62 rfl rfl hA0 (by omega) (by omega)) rfl ?_
     refine de rfl rfl (ef_storea SN.enc ((first + c)) Sz64 rfl rfl rfl SN.enc_len SN.enc_cells (by decide) (by omega) (by first | omega | (simp only [swp_size, Array.size_setIfInBounds]; omega))) (fun _ h => h.sb) ?_ d_stop
     refine d_end ?_
     refine f_then ?_
     refine c_reg ?_
     refine sq (rd_move rfl) rfl ?_
     refine sq (rd_assign rfl) rfl ?_
     refine s_end ?_
     refine f_blk ?_
     refine f_again ((c, Sort.swp dk (first + root) (first + c))) (⟨by omega, by simpa using hdk, by rw [hq]; exact sift_go hlt hc (by first | simpa using h58 | simpa [Sort.ltInt] using h58)⟩) (by show n - c < n - root; omega) (by repeat constructor) (fun _ h => h.sb)
    refine de rfl rfl (ef_quiet (rd_ldsr A64 (by first | exact .head _) rfl (arr_part (f := SN.enc) SN.enc_len (i := (first + root)) (by first | omega | (simp only [swp_size, Array.size_setIfInBounds]; omega)))) rfl) (fun _ h => h.sb) ?_ ?_
    ·refine de rfl rfl (ef_quiet (rd_ldsr A64 (by first | exact .head _) rfl (arr_part (f := SN.enc) SN.enc_len (i := (first + c)) (by first | omega | (simp only [swp_size, Array.size_setIfInBounds]; omega)))) rfl) (fun _ h => h.sb) ?_ d_stop
     refine dq rfl (rd_index S62 rfl rfl hA0 (by omega) (by omega)) rfl ?_
     refine de rfl rfl (ef_storea SN.enc ((first + root)) Sz64 rfl rfl rfl SN.enc_len SN.enc_cells (by decide) (by omega) (by first | omega | (simp only [swp_size, Array.size_setIfInBounds]; omega))) (fun _ h => h.sb) ?_ d_stop
     refine dq rfl (rd_index S62 rfl rfl hA0 (by omega) (by omega)) rfl ?_
     refine de rfl rfl (ef_storea SN.enc ((first + c)) Sz64 rfl rfl rfl SN.enc_len SN.enc_cells (by decide) (by omega) (by first | omega | (simp only [swp_size, Array.size_setIfInBounds]; omega))) (fun _ h => h.sb) ?_ d_stop
     refine d_end ?_
     refine f_then ?_
     refine c_reg ?_
     refine sq (rd_move rfl) rfl ?_
     refine sq (rd_assign rfl) rfl ?_
     refine s_end ?_
     refine f_blk ?_
     refine f_again ((c, Sort.swp dk (first + root) (first + c))) (⟨by omega, by simpa using hdk, by rw [hq]; exact sift_go hlt hc (by first | simpa using h58 | simpa [Sort.ltInt] using h58)⟩) (by show n - c < n - root; omega) (by repeat constructor) (fun _ h => h.sb)
    exact d_stop

theorem c176 (w : World) (A : Option Addr) (cap n : Nat) (d : Array Int) (hd : d.size = n) (hn : n ≤ 1000000) (lo hi first : Nat) (hlo : lo ≤ n) (hb : first + hi ≤ n) (hS : St w (fpOf [.row 3 1 A n cap (ints d.toList)]) [.row 3 1 A n cap (ints d.toList)] w) : Calls Tryz.prog 176 [.slice A n cap, .int .i64 (lo : Int), .int .i64 (hi : Int), .int .i64 (first : Int)].toArray w (RtE fun v w' => ∃ x : Unit, v = (fun _ => .tuple #[]) x ∧ (fun _ => True) x ∧ St w (fpOf [.row 3 1 A n cap (ints d.toList)]) ((fun _ => [.row 3 1 A n cap (ints (Sort.siftDown Sort.ltInt hi first lo d).toList)]) x) w') := by
 refine enter Tryz.func176 rfl Tryz.ntmps176 rfl hS ?_
 refine c_seq ?_
 have hA0 : 0 < n → plainA A := fun h => ((row_know (List.mem_cons_self ..) w hS).2.2.2 h).1
 refine c_reg ?_
 refine sq (rd_move rfl) rfl ?_
 refine sq (rd_assign rfl) rfl ?_
 refine s_end ?_
 refine f_then ?_
 refine c_block ?_
 refine c_keep (L' := [(0, _), (2, _), (3, _), (8, _)]) (by repeat constructor) ?_
 refine c_for (α := Nat × Array Int) (fun ⟨root, dk⟩ => root ≤ n ∧ dk.size = n ∧ Sort.siftDown Sort.ltInt hi first lo d = Sort.siftDown Sort.ltInt hi first root dk) (fun ⟨root, dk⟩ => [.row 3 1 A n cap (ints dk.toList)]) [] (fun ⟨root, dk⟩ => [(8, .int .i64 (root : Int))]) [(0, _), (2, _), (3, _)] (fun ⟨root, dk⟩ => n - root) ((lo, d)) (⟨hlo, hd, rfl⟩) (by repeat constructor) (fun _ h => h) ?_
 rintro ⟨root, dk⟩ ⟨hr, hdk, hq⟩
 refine c_block ?_
 refine c_seq ?_
 refine c_reg ?_
 refine sq (rd_move rfl) rfl ?_
 refine sq (rd_muln (2) (root) rfl rfl rfl rfl (by omega)) rfl ?_
 refine sq (rd_addn ((2 * root)) (1) rfl rfl rfl rfl (by omega)) rfl ?_
 refine sq (rd_assign rfl) rfl ?_
 refine s_end ?_
 refine f_then ?_
 refine c_seq ?_
 refine c_seq ?_
 refine c_reg ?_
 refine sq (rd_move rfl) rfl ?_
 refine sq (rd_move rfl) rfl ?_
 refine sq (rd_geq rfl rfl) rfl ?_
 refine s_end ?_
 refine f_then ?_
 refine c_if rfl (fun h16 => ?_) (fun h16 => ?_)
 ·refine c_exit ?_
  refine f_then_x ?_
  refine f_blk_y rfl ?_
  refine f_then_x ?_
  refine f_blk_x ?_
  refine f_end rfl .nil ?_
  exact fun w' hS => ⟨_, rfl, (), rfl, trivial, by rw [show Sort.siftDown Sort.ltInt hi first lo d = dk from by rw [hq]; exact sift_out (by omega)]; exact hS⟩
 ·have hlt : 2 * root + 1 < hi := by omega
  refine c_skip ?_
  refine f_then ?_
  refine c_meet2 (α := Nat) (fun c => c = if (decide (2 * root + 1 + 1 < hi) && Sort.ltInt dk[first + (2 * root + 1)]! dk[first + (2 * root + 1) + 1]!) = true then 2 * root + 2 else 2 * root + 1) (fun c => []) [.row _ _ A n cap _] (fun c => [(9, .int .i64 (c : Int))]) [(8, _), (0, _), (2, _), (3, _), (11, _), (12, _), (13, _), (14, _), (15, _), (16, _)] (by repeat constructor) [] (fun _ h => h) ?_ ?_
  ·refine c_seq ?_
   refine c_regd [.row _ _ A n cap _] (.q 0 (.q 1 (.q 2 (.q 3 (.q 4 (.q 5 (.q 6 (.q 7 (.q 8 (.q 9 (.q 10 (.q 11 (.q 12 (.q 13 (.q 14 (.q 15 (.q 16 (.q 17 (.alt 18 (.q 19 .done) .stop))))))))))))))))))) (by kernel_rfl) (by kernel_rfl) (by kernel_rfl) (by kernel_rfl) (fun _ h => h.sb) ?_
   refine dq rfl (rd_move rfl) rfl ?_
   refine dq rfl (rd_addn (((2 * root) + 1)) (1) rfl rfl rfl rfl (by omega)) rfl ?_
   refine dq rfl (rd_move rfl) rfl ?_
   refine dq rfl (rd_lss rfl rfl) rfl ?_
   refine dq rfl (rd_move rfl) rfl ?_
   refine d_split (d := 21) rfl (fun g21 => ?_) (fun g21 => ?_)
   ·try have g21p := of_decide_eq_true g21
    refine dq1 rfl (fun a hA => wanted_yes hA rfl rfl rfl g21) (rd_move rfl) rfl ?_
    refine dq1 rfl (fun a hA => wanted_yes hA rfl rfl rfl g21) (rd_move rfl) rfl ?_
    refine dq1 rfl (fun a hA => wanted_yes hA rfl rfl rfl g21) (rd_move rfl) rfl ?_
    refine dq1 rfl (fun a hA => wanted_yes hA rfl rfl rfl g21) (rd_addn (first) (((2 * root) + 1)) rfl rfl rfl rfl (by omega)) rfl ?_
    refine dq1 rfl (fun a hA => wanted_yes hA rfl rfl rfl g21) (rd_index S128 rfl rfl hA0 (by omega) (by omega)) rfl ?_
    refine dq1 rfl (fun a hA => wanted_yes hA rfl rfl rfl g21) (rd_ldr C3 (by first | exact .head _) rfl (arr_get1 (i := (first + ((2 * root) + 1))) (by first | omega | (simp only [swp_size, Array.size_setIfInBounds]; omega)))) rfl ?_
    refine dq1 rfl (fun a hA => wanted_yes hA rfl rfl rfl g21) (rd_move rfl) rfl ?_
    refine dq1 rfl (fun a hA => wanted_yes hA rfl rfl rfl g21) (rd_move rfl) rfl ?_
    refine dq1 rfl (fun a hA => wanted_yes hA rfl rfl rfl g21) (rd_move rfl) rfl ?_
    refine dq1 rfl (fun a hA => wanted_yes hA rfl rfl rfl g21) (rd_addn (first) (((2 * root) + 1)) rfl rfl rfl rfl (by omega)) rfl ?_
    refine dq1 rfl (fun a hA => wanted_yes hA rfl rfl rfl g21) (rd_addn ((first + ((2 * root) + 1))) (1) rfl rfl rfl rfl (by omega)) rfl ?_
    refine dq1 rfl (fun a hA => wanted_yes hA rfl rfl rfl g21) (rd_index S128 rfl rfl hA0 (by omega) (by omega)) rfl ?_
    refine dq1 rfl (fun a hA => wanted_yes hA rfl rfl rfl g21) (rd_ldr C3 (by first | exact .head _) rfl (arr_get1 (i := ((first + ((2 * root) + 1)) + 1)) (by first | omega | (simp only [swp_size, Array.size_setIfInBounds]; omega)))) rfl ?_
    refine deg rfl (fun a hA => wanted_yes hA rfl rfl rfl g21) (ef_pure rfl rfl K167 rfl (by exact c167 _ _)) (fun _ h => h.sb) ?_ d_stop
    refine dq rfl (rd_pick_tt rfl g21 rfl) rfl ?_
    refine d_end ?_
    refine f_then ?_
    refine c_cond rfl (fun h36 => ?_) (fun h36 => ?_)
    ·refine c_reg ?_
     refine sq (rd_move rfl) rfl ?_
     refine sq (rd_addn (((2 * root) + 1)) (1) rfl rfl rfl rfl (by omega)) rfl ?_
     refine sq (rd_assign rfl) rfl ?_
     refine s_end ?_
     refine f_cut (2 * root + 2) (by rw [if_pos (by simp [show _ = true from h36, show 2 * root + 1 + 1 < hi from by omega])]) (by repeat constructor) (fun _ h => h.sb)
    ·refine c_skip ?_
     refine f_cut (2 * root + 1) (by rw [if_neg (by simp [show _ = false from h36])]) (by repeat constructor) (fun _ h => h.sb)
   ·try have g21p := of_decide_eq_false g21
    refine dq0 rfl (fun a hA => wanted_no hA rfl rfl rfl g21 rfl) rfl ?_
    refine dq0 rfl (fun a hA => wanted_no hA rfl rfl rfl g21 rfl) rfl ?_
    refine dq0 rfl (fun a hA => wanted_no hA rfl rfl rfl g21 rfl) rfl ?_
    refine dq0 rfl (fun a hA => wanted_no hA rfl rfl rfl g21 rfl) rfl ?_
    refine dq0 rfl (fun a hA => wanted_no hA rfl rfl rfl g21 rfl) rfl ?_
    refine dq0 rfl (fun a hA => wanted_no hA rfl rfl rfl g21 rfl) rfl ?_
    refine dq0 rfl (fun a hA => wanted_no hA rfl rfl rfl g21 rfl) rfl ?_
    refine dq0 rfl (fun a hA => wanted_no hA rfl rfl rfl g21 rfl) rfl ?_
    refine dq0 rfl (fun a hA => wanted_no hA rfl rfl rfl g21 rfl) rfl ?_
    refine dq0 rfl (fun a hA => wanted_no hA rfl rfl rfl g21 rfl) rfl ?_
    refine dq0 rfl (fun a hA => wanted_no hA rfl rfl rfl g21 rfl) rfl ?_
    refine dq0 rfl (fun a hA => wanted_no hA rfl rfl rfl g21 rfl) rfl ?_
    refine dq0 rfl (fun a hA => wanted_no hA rfl rfl rfl g21 rfl) rfl ?_
    refine de0 rfl (fun a hA => wanted_no hA rfl rfl rfl g21 rfl) rfl (fun _ h => h.sb) ?_ d_stop
    refine dq rfl (rd_pick_ff rfl g21 rfl) rfl ?_
    refine d_end ?_
    refine f_then ?_
    refine c_lit_f rfl ?_
    refine c_skip ?_
    refine f_cut (2 * root + 1) (by rw [if_neg (by simp; omega)]) (by repeat constructor) (fun _ h => h.sb)
  ·rintro c hc
   have hcl := sift_lt hlt hc
   refine c_seq ?_
   refine c_seq ?_
   refine c_regd [.row _ _ A n cap _] (.q 0 (.q 1 (.q 2 (.q 3 (.q 4 (.q 5 (.q 6 (.q 7 (.q 8 (.q 9 (.q 10 (.q 11 (.alt 12 (.q 13 .done) .stop))))))))))))) (by kernel_rfl) (by kernel_rfl) (by kernel_rfl) (by kernel_rfl) (fun _ h => h.sb) ?_
   refine dq rfl (rd_move rfl) rfl ?_
   refine dq rfl (rd_move rfl) rfl ?_
   refine dq rfl (rd_move rfl) rfl ?_
   refine dq rfl (rd_addn (first) (root) rfl rfl rfl rfl (by omega)) rfl ?_
   refine dq rfl (rd_index S128 rfl rfl hA0 (by omega) (by omega)) rfl ?_
   refine dq rfl (rd_ldr C3 (by first | exact .head _) rfl (arr_get1 (i := (first + root)) (by first | omega | (simp only [swp_size, Array.size_setIfInBounds]; omega)))) rfl ?_
   refine dq rfl (rd_move rfl) rfl ?_
   refine dq rfl (rd_move rfl) rfl ?_
   refine dq rfl (rd_move rfl) rfl ?_
   refine dq rfl (rd_addn (first) (c) rfl rfl rfl rfl (by omega)) rfl ?_
   refine dq rfl (rd_index S128 rfl rfl hA0 (by omega) (by omega)) rfl ?_
   refine dq rfl (rd_ldr C3 (by first | exact .head _) rfl (arr_get1 (i := (first + c)) (by first | omega | (simp only [swp_size, Array.size_setIfInBounds]; omega)))) rfl ?_
   refine de rfl rfl (ef_pure rfl rfl K167 rfl (by exact c167 _ _)) (fun _ h => h.sb) ?_ d_stop
   refine dq rfl ((by first | exact rd_notd rfl | exact rd_not rfl)) rfl ?_
   refine d_end ?_
   refine f_then ?_
   refine c_cond rfl (fun h52 => ?_) (fun h52 => ?_)
   ·refine c_ret ?_
    refine f_then_r ?_
    refine f_blk_r ?_
    refine f_then_r ?_
    refine f_blk_r ?_
    refine f_ret rfl .nil ?_
    exact fun w' hS => ⟨_, rfl, (), rfl, trivial, by rw [show Sort.siftDown Sort.ltInt hi first lo d = dk from by rw [hq]; exact sift_stop hlt hc (by first | simpa using h52 | simpa [Sort.ltInt] using h52)]; exact hS⟩
   ·refine c_skip ?_
    refine f_then ?_
    refine c_seq ?_
    refine c_regd [] (.q 0 (.q 1 (.q 2 (.q 3 (.q 4 (.q 5 (.q 6 (.q 7 (.q 8 (.q 9 (.q 10 (.q 11 (.q 12 (.q 14 (.q 15 (.q 16 (.q 17 (.q 18 (.alt 13 (.alt 19 (.q 20 (.alt 21 (.q 22 (.alt 23 .done .stop)) .stop)) .stop) (.alt 19 (.alt 13 (.q 20 (.alt 21 (.q 22 (.alt 23 .done .stop)) .stop)) .stop) .stop)))))))))))))))))))) (by kernel_rfl) (by kernel_rfl) (by kernel_rfl) (by kernel_rfl) (fun _ h => h.sb) ?_
    refine dq rfl (rd_move rfl) rfl ?_
    refine dq rfl (rd_move rfl) rfl ?_
    refine dq rfl (rd_move rfl) rfl ?_
    refine dq rfl (rd_addn (first) (root) rfl rfl rfl rfl (by omega)) rfl ?_
    refine dq rfl (rd_move rfl) rfl ?_
    refine dq rfl (rd_move rfl) rfl ?_
    refine dq rfl (rd_move rfl) rfl ?_
    refine dq rfl (rd_addn (first) (c) rfl rfl rfl rfl (by omega)) rfl ?_
    refine dq rfl (rd_move rfl) rfl ?_
    refine dq rfl (rd_move rfl) rfl ?_
    refine dq rfl (rd_move rfl) rfl ?_
    refine dq rfl (rd_addn (first) (c) rfl rfl rfl rfl (by omega)) rfl ?_
    refine dq rfl (rd_index S128 rfl rfl hA0 (by omega) (by omega)) rfl ?_
    refine dq rfl (rd_move rfl) rfl ?_
    refine dq rfl (rd_move rfl) rfl ?_
    refine dq rfl (rd_move rfl) rfl ?_
    refine dq rfl (rd_addn (first) (root) rfl rfl rfl rfl (by omega)) rfl ?_
    refine dq rfl (rd_index S128 rfl rfl hA0 (by omega) (by omega)) rfl ?_
    refine de rfl rfl (ef_quiet (rd_ldr C3 (by first | exact .head _) rfl (arr_get1 (i := (first + c)) (by first | omega | (simp only [swp_size, Array.size_setIfInBounds]; omega)))) rfl) (fun _ h => h.sb) ?_ ?_
    ·refine de rfl rfl (ef_quiet (rd_ldr C3 (by first | exact .head _) rfl (arr_get1 (i := (first + root)) (by first | omega | (simp only [swp_size, Array.size_setIfInBounds]; omega)))) rfl) (fun _ h => h.sb) ?_ d_stop
     refine dq rfl (rd_index S128 rfl rfl hA0 (by omega) (by omega)) rfl ?_
     refine de rfl rfl (ef_storei ((first + root)) Sz3 rfl rfl rfl (by omega) (by first | omega | (simp only [swp_size, Array.size_setIfInBounds]; omega))) (fun _ h => h.sb) ?_ d_stop
     refine dq rfl (rd_index S128 rfl rfl hA0 (by omega) (by omega)) rfl ?_
     refine de rfl rfl (ef_storei ((first + c)) Sz3 rfl rfl rfl (by omega) (by first | omega | (simp only [swp_size, Array.size_setIfInBounds]; omega))) (fun _ h => h.sb) ?_ d_stop
     refine d_end ?_
     refine f_then ?_
     refine c_reg ?_
     refine sq (rd_move rfl) rfl ?_
     refine sq (rd_assign rfl) rfl ?_
     refine s_end ?_
     refine f_blk ?_
     refine f_again ((c, Sort.swp dk (first + root) (first + c))) (⟨by omega, by simpa using hdk, by rw [hq]; exact sift_go hlt hc (by first | simpa using h52 | simpa [Sort.ltInt] using h52)⟩) (by show n - c < n - root; omega) (by repeat constructor) (fun _ h => h.sb)
    refine de rfl rfl (ef_quiet (rd_ldr C3 (by first | exact .head _) rfl (arr_get1 (i := (first + root)) (by first | omega | (simp only [swp_size, Array.size_setIfInBounds]; omega)))) rfl) (fun _ h => h.sb) ?_ ?_
    ·refine de rfl rfl (ef_quiet (rd_ldr C3 (by first | exact .head _) rfl (arr_get1 (i := (first + c)) (by first | omega | (simp only [swp_size, Array.size_setIfInBounds]; omega)))) rfl) (fun _ h => h.sb) ?_ d_stop
     refine dq rfl (rd_index S128 rfl rfl hA0 (by omega) (by omega)) rfl ?_
     refine de rfl rfl (ef_storei ((first + root)) Sz3 rfl rfl rfl (by omega) (by first | omega | (simp only [swp_size, Array.size_setIfInBounds]; omega))) (fun _ h => h.sb) ?_ d_stop
     refine dq rfl (rd_index S128 rfl rfl hA0 (by omega) (by omega)) rfl ?_
     refine de rfl rfl (ef_storei ((first + c)) Sz3 rfl rfl rfl (by omega) (by first | omega | (simp only [swp_size, Array.size_setIfInBounds]; omega))) (fun _ h => h.sb) ?_ d_stop
     refine d_end ?_
     refine f_then ?_
     refine c_reg ?_
     refine sq (rd_move rfl) rfl ?_
     refine sq (rd_assign rfl) rfl ?_
     refine s_end ?_
     refine f_blk ?_
     refine f_again ((c, Sort.swp dk (first + root) (first + c))) (⟨by omega, by simpa using hdk, by rw [hq]; exact sift_go hlt hc (by first | simpa using h52 | simpa [Sort.ltInt] using h52)⟩) (by show n - c < n - root; omega) (by repeat constructor) (fun _ h => h.sb)
    exact d_stop

end Go.Proofs.YtfccnoccfhgcbaaGreatDoor
namespace Go.Proofs.YtfccnoccfhgcbaaGreatDoor
open Go Go.RowKit
theorem K156 : callTy Tryz.prog 156 := by unfold callTy; kernel_rfl
theorem K176 : callTy Tryz.prog 176 := by unfold callTy; kernel_rfl
theorem c126 (w : World) (A : Option Addr) (cap n : Nat) (d : Array SN) (g : Nat) (cmp : SN → SN → Int) (hg : callTy Tryz.prog g) (hcmp : ∀ x y, Pu Tryz.prog g [.agg (SN.enc x).toArray, .agg (SN.enc y).toArray] (.int .i64 (cmp x y))) (hd : d.size = n) (hn : n ≤ 1000000) (a b : Nat) (hab : a < b) (hb : b ≤ n) (hS : St w (fpOf [.row 64 4 A n cap (flat SN.enc d.toList)]) [.row 64 4 A n cap (flat SN.enc d.toList)] w) : Calls Tryz.prog 126 [.slice A n cap, .int .i64 (a : Int), .int .i64 (b : Int), .func (.func g) #[] #[]].toArray w (RtE fun v w' => ∃ x : Unit, v = (fun _ => .tuple #[]) x ∧ (fun _ => True) x ∧ St w (fpOf [.row 64 4 A n cap (flat SN.enc d.toList)]) ((fun _ => [.row 64 4 A n cap (flat SN.enc (Sort.heapSort (ltOf cmp) d a b).toList)]) x) w') := by
 refine enter Tryz.func126 rfl Tryz.ntmps126 rfl hS ?_
 refine c_seq ?_
 have hA0 : 0 < n → plainA A := fun h => ((row_know (List.mem_cons_self ..) w hS).2.2.2 h).1
 refine c_reg ?_
 refine sq (rd_move rfl) rfl ?_
 refine sq (rd_assign rfl) rfl ?_
 refine s_end ?_
 refine f_then ?_
 refine c_seq ?_
 refine c_reg ?_
 refine sq (rd_assign rfl) rfl ?_
 refine s_end ?_
 refine f_then ?_
 refine c_seq ?_
 refine c_reg ?_
 refine sq (rd_move rfl) rfl ?_
 refine sq (rd_move rfl) rfl ?_
 refine sq (rd_subn (b) (a) rfl rfl rfl rfl (by omega) (by omega)) rfl ?_
 refine sq (rd_assign rfl) rfl ?_
 refine s_end ?_
 refine f_then ?_
 refine c_seq ?_
 refine c_seq ?_
 refine c_reg ?_
 refine sq (rd_move rfl) rfl ?_
 refine sq (rd_subn ((b - a)) (1) rfl rfl rfl rfl (by omega) (by omega)) rfl ?_
 refine sq (rd_quon (((b - a) - 1)) (2) rfl rfl rfl rfl (by omega) (by omega)) rfl ?_
 refine sq (rd_assign rfl) rfl ?_
 refine s_end ?_
 refine f_then ?_
 refine c_block ?_
 refine c_keep (L' := [(0, _), (3, _), (8, _), (9, _), (10, _), (11, _)]) (by repeat constructor) ?_
 refine c_for (α := Nat × Array SN) (fun ⟨k, dk⟩ => k ≤ (b - a - 1) / 2 + 1 ∧ dk.size = n ∧ Sort.heapBuild (ltOf cmp) (b - a) a ((b - a - 1) / 2 + 1) d = Sort.heapBuild (ltOf cmp) (b - a) a k dk) (fun ⟨k, dk⟩ => [.row 64 4 A n cap (flat SN.enc dk.toList)]) [] (fun ⟨k, dk⟩ => [(11, .int .i64 ((k : Int) - 1))]) [(0, _), (3, _), (8, _), (9, _), (10, _)] (fun ⟨k, dk⟩ => k) (((b - a - 1) / 2 + 1, d)) (⟨Nat.le_refl _, hd, rfl⟩) (.cons ((congrArg some (int_eq (by omega)))) (by repeat constructor)) (fun _ h => h) ?_
 rintro ⟨k, dk⟩ ⟨hk, hdk, hq⟩
 refine c_seq ?_
 refine c_seq ?_
 refine c_reg ?_
 refine sq (rd_move rfl) rfl ?_
 refine sq (rd_geq rfl rfl) rfl ?_
 refine s_end ?_
 refine f_then ?_
 refine c_if rfl (fun h21 => ?_) (fun h21 => ?_)
 ·obtain ⟨k, rfl⟩ : ∃ m, k = m + 1 := ⟨k - 1, by omega⟩
  refine c_keep (L' := [(11, .int .i64 (k : Int)), (0, _), (3, _), (8, _), (9, _), (10, _), (20, _), (21, _)]) (.cons (congrArg some (int_eq (by omega))) (by repeat constructor)) ?_
  refine c_skip ?_
  refine f_then ?_
  refine c_seq ?_
  refine c_block ?_
  refine c_reg ?_
  refine sq (rd_move rfl) rfl ?_
  refine sq (rd_move rfl) rfl ?_
  refine sq (rd_move rfl) rfl ?_
  refine sq (rd_move rfl) rfl ?_
  refine sq (rd_move rfl) rfl ?_
  refine sx (ef_call rfl rfl K156 (fun _ e => by cases e; rfl) [.row _ _ A n cap _] _ (.refl _) _ _ _ (fun w hS => by exact c156 w A cap n dk g cmp hg hcmp hdk hn  k (b - a) a (by omega) (by omega) hS.own)) rfl ?_
  rintro _ _
  refine s_end ?_
  refine f_blk ?_
  refine f_then ?_
  refine c_reg ?_
  refine sq (rd_move rfl) rfl ?_
  refine sq (rd_sub rfl rfl (wrap_i64 (by omega))) rfl ?_
  refine sq (rd_assign rfl) rfl ?_
  refine s_end ?_
  refine f_again ((k, Sort.siftDown (ltOf cmp) (b - a) a k dk)) (⟨by omega, by rw [sift_size _ _ _ _ _ (Nat.le_refl _)]; exact hdk, by rw [hq, Sort.heapBuild]⟩) (by show k < k + 1; omega) (by repeat constructor) (fun _ h => h.sb)
 ·have hk0 : k = 0 := by omega
  subst hk0
  have hq0 : Sort.heapSort (ltOf cmp) d a b = Sort.heapPop (ltOf cmp) a (b - a) dk := by rw [Sort.heapSort, hq, Sort.heapBuild]
  clear hq
  refine c_exit ?_
  refine f_then_x ?_
  refine f_then_x ?_
  refine f_blk_x ?_
  refine f_then ?_
  refine c_seq ?_
  refine c_reg ?_
  refine sq (rd_move rfl) rfl ?_
  refine sq (rd_sub rfl rfl (wrap_i64 (by omega))) rfl ?_
  refine sq (rd_assign rfl) rfl ?_
  refine s_end ?_
  refine f_then ?_
  refine c_block ?_
  refine c_keep (L' := [(0, _), (3, _), (8, _), (9, _), (12, _)]) (by repeat constructor) ?_
  refine c_for (α := Nat × Array SN) (fun ⟨k, dk⟩ => k ≤ b - a ∧ dk.size = n ∧ Sort.heapSort (ltOf cmp) d a b = Sort.heapPop (ltOf cmp) a k dk) (fun ⟨k, dk⟩ => [.row 64 4 A n cap (flat SN.enc dk.toList)]) [] (fun ⟨k, dk⟩ => [(12, .int .i64 ((k : Int) - 1))]) [(0, _), (3, _), (8, _), (9, _)] (fun ⟨k, dk⟩ => k) ((b - a, dk)) (⟨Nat.le_refl _, hdk, hq0⟩) (.cons ((congrArg some (int_eq (by omega)))) (by repeat constructor)) (fun _ h => h) ?_
  rintro ⟨k, dk⟩ ⟨hk, hdk, hq⟩
  refine c_seq ?_
  refine c_seq ?_
  refine c_reg ?_
  refine sq (rd_move rfl) rfl ?_
  refine sq (rd_geq rfl rfl) rfl ?_
  refine s_end ?_
  refine f_then ?_
  refine c_if rfl (fun h33 => ?_) (fun h33 => ?_)
  ·obtain ⟨k, rfl⟩ : ∃ m, k = m + 1 := ⟨k - 1, by omega⟩
   refine c_keep (L' := [(12, .int .i64 (k : Int)), (0, _), (3, _), (8, _), (9, _), (32, _), (33, _)]) (.cons (congrArg some (int_eq (by omega))) (by repeat constructor)) ?_
   refine c_skip ?_
   refine f_then ?_
   refine c_seq ?_
   refine c_block ?_
   refine c_seq ?_
   refine c_regd [] (.q 0 (.q 1 (.q 2 (.q 3 (.q 4 (.q 5 (.q 6 (.q 7 (.q 8 (.q 9 (.q 10 (.q 12 (.q 13 (.q 14 (.alt 11 (.alt 15 (.q 16 (.alt 17 (.q 18 (.alt 19 .done .stop)) .stop)) .stop) (.alt 15 (.alt 11 (.q 16 (.alt 17 (.q 18 (.alt 19 .done .stop)) .stop)) .stop) .stop)))))))))))))))) (by kernel_rfl) (by kernel_rfl) (by kernel_rfl) (by kernel_rfl) (fun _ h => h.sb) ?_
   refine dq rfl (rd_move rfl) rfl ?_
   refine dq rfl (rd_move rfl) rfl ?_
   refine dq rfl (rd_move rfl) rfl ?_
   refine dq rfl (rd_move rfl) rfl ?_
   refine dq rfl (rd_move rfl) rfl ?_
   refine dq rfl (rd_addn (a) (k) rfl rfl rfl rfl (by omega)) rfl ?_
   refine dq rfl (rd_move rfl) rfl ?_
   refine dq rfl (rd_move rfl) rfl ?_
   refine dq rfl (rd_move rfl) rfl ?_
   refine dq rfl (rd_addn (a) (k) rfl rfl rfl rfl (by omega)) rfl ?_
   refine dq rfl (rd_index S62 rfl rfl hA0 (by omega) (by omega)) rfl ?_
   refine dq rfl (rd_move rfl) rfl ?_
   refine dq rfl (rd_move rfl) rfl ?_
   refine dq rfl (rd_index S62 rfl rfl hA0 (by omega) (by omega)) rfl ?_
   refine de rfl rfl (ef_quiet (rd_ldsr A64 (by first | exact .head _) rfl (arr_part (f := SN.enc) SN.enc_len (i := (a + k)) (by first | omega | (simp only [swp_size, Array.size_setIfInBounds]; omega)))) rfl) (fun _ h => h.sb) ?_ ?_
   ·refine de rfl rfl (ef_quiet (rd_ldsr A64 (by first | exact .head _) rfl (arr_part (f := SN.enc) SN.enc_len (i := a) (by first | omega | (simp only [swp_size, Array.size_setIfInBounds]; omega)))) rfl) (fun _ h => h.sb) ?_ d_stop
    refine dq rfl (rd_index S62 rfl rfl hA0 (by omega) (by omega)) rfl ?_
    refine de rfl rfl (ef_storea SN.enc (a) Sz64 rfl rfl rfl SN.enc_len SN.enc_cells (by decide) (by omega) (by first | omega | (simp only [swp_size, Array.size_setIfInBounds]; omega))) (fun _ h => h.sb) ?_ d_stop
    refine dq rfl (rd_index S62 rfl rfl hA0 (by omega) (by omega)) rfl ?_
    refine de rfl rfl (ef_storea SN.enc ((a + k)) Sz64 rfl rfl rfl SN.enc_len SN.enc_cells (by decide) (by omega) (by first | omega | (simp only [swp_size, Array.size_setIfInBounds]; omega))) (fun _ h => h.sb) ?_ d_stop
    refine d_end ?_
    refine f_then ?_
    refine c_reg ?_
    refine sq (rd_move rfl) rfl ?_
    refine sq (rd_move rfl) rfl ?_
    refine sq (rd_move rfl) rfl ?_
    refine sq (rd_move rfl) rfl ?_
    refine sq (rd_move rfl) rfl ?_
    refine sx (ef_call rfl rfl K156 (fun _ e => by cases e; rfl) [.row _ _ A n cap _] _ (.refl _) _ _ _ (fun w hS => by exact c156 w A cap n (Sort.swp dk a (a + k)) g cmp hg hcmp (by simpa using hdk) hn  0 k a (by omega) (by omega) hS.own)) rfl ?_
    rintro _ _
    refine s_end ?_
    refine f_blk ?_
    refine f_then ?_
    refine c_reg ?_
    refine sq (rd_move rfl) rfl ?_
    refine sq (rd_sub rfl rfl (wrap_i64 (by omega))) rfl ?_
    refine sq (rd_assign rfl) rfl ?_
    refine s_end ?_
    refine f_again ((k, Sort.siftDown (ltOf cmp) k a 0 (Sort.swp dk a (a + k)))) (⟨by omega, by rw [sift_size _ _ _ _ _ (Nat.le_refl _)]; simpa using hdk, by rw [hq, Sort.heapPop]⟩) (by show k < k + 1; omega) (by repeat constructor) (fun _ h => h.sb)
   refine de rfl rfl (ef_quiet (rd_ldsr A64 (by first | exact .head _) rfl (arr_part (f := SN.enc) SN.enc_len (i := a) (by first | omega | (simp only [swp_size, Array.size_setIfInBounds]; omega)))) rfl) (fun _ h => h.sb) ?_ ?_
   ·refine de rfl rfl (ef_quiet (rd_ldsr A64 (by first | exact .head _) rfl (arr_part (f := SN.enc) SN.enc_len (i := (a + k)) (by first | omega | (simp only [swp_size, Array.size_setIfInBounds]; omega)))) rfl) (fun _ h => h.sb) ?_ d_stop
    refine dq rfl (rd_index S62 rfl rfl hA0 (by omega) (by omega)) rfl ?_
    refine de rfl rfl (ef_storea SN.enc (a) Sz64 rfl rfl rfl SN.enc_len SN.enc_cells (by decide) (by omega) (by first | omega | (simp only [swp_size, Array.size_setIfInBounds]; omega))) (fun _ h => h.sb) ?_ d_stop
    refine dq rfl (rd_index S62 rfl rfl hA0 (by omega) (by omega)) rfl ?_
    refine de rfl rfl (ef_storea SN.enc ((a + k)) Sz64 rfl rfl rfl SN.enc_len SN.enc_cells (by decide) (by omega) (by first | omega | (simp only [swp_size, Array.size_setIfInBounds]; omega))) (fun _ h => h.sb) ?_ d_stop
    refine d_end ?_
    refine f_then ?_
    refine c_reg ?_
    refine sq (rd_move rfl) rfl ?_
    refine sq (rd_move rfl) rfl ?_
    refine sq (rd_move rfl) rfl ?_
    refine sq (rd_move rfl) rfl ?_
    refine sq (rd_move rfl) rfl ?_
    refine sx (ef_call rfl rfl K156 (fun _ e => by cases e; rfl) [.row _ _ A n cap _] _ (.refl _) _ _ _ (fun w hS => by exact c156 w A cap n (Sort.swp dk a (a + k)) g cmp hg hcmp (by simpa using hdk) hn  0 k a (by omega) (by omega) hS.own)) rfl ?_
    rintro _ _
    refine s_end ?_
    refine f_blk ?_
    refine f_then ?_
    refine c_reg ?_
    refine sq (rd_move rfl) rfl ?_
    refine sq (rd_sub rfl rfl (wrap_i64 (by omega))) rfl ?_
    refine sq (rd_assign rfl) rfl ?_
    refine s_end ?_
    refine f_again ((k, Sort.siftDown (ltOf cmp) k a 0 (Sort.swp dk a (a + k)))) (⟨by omega, by rw [sift_size _ _ _ _ _ (Nat.le_refl _)]; simpa using hdk, by rw [hq, Sort.heapPop]⟩) (by show k < k + 1; omega) (by repeat constructor) (fun _ h => h.sb)
   exact d_stop
  ·refine c_exit ?_
   refine f_then_x ?_
   refine f_then_x ?_
   refine f_blk_x ?_
   refine f_end rfl .nil ?_
   exact fun w' hS => ⟨_, rfl, (), rfl, trivial, by rw [show Sort.heapSort (ltOf cmp) d a b = dk from by rw [hq, show k = 0 from by omega, Sort.heapPop]]; exact hS⟩

theorem c129 (w : World) (A : Option Addr) (cap n : Nat) (d : Array SN) (g : Nat) (cmp : SN → SN → Int) (hg : callTy Tryz.prog g) (hcmp : ∀ x y, Pu Tryz.prog g [.agg (SN.enc x).toArray, .agg (SN.enc y).toArray] (.int .i64 (cmp x y))) (hd : d.size = n) (hn : n ≤ 1000000) (a b : Nat) (hab : a < b) (hb : b ≤ n) (hS : St w (fpOf [.row 64 4 A n cap (flat SN.enc d.toList)]) [.row 64 4 A n cap (flat SN.enc d.toList)] w) : Calls Tryz.prog 129 [.slice A n cap, .int .i64 (a : Int), .int .i64 (b : Int), .func (.func g) #[] #[]].toArray w (RtE fun v w' => ∃ x : Unit, v = (fun _ => .tuple #[]) x ∧ (fun _ => True) x ∧ St w (fpOf [.row 64 4 A n cap (flat SN.enc d.toList)]) ((fun _ => [.row 64 4 A n cap (flat SN.enc (Sort.reverseRange d a b).toList)]) x) w') := by
 refine enter Tryz.func129 rfl Tryz.ntmps129 rfl hS ?_
 refine c_seq ?_
 have hA0 : 0 < n → plainA A := fun h => ((row_know (List.mem_cons_self ..) w hS).2.2.2 h).1
 refine c_reg ?_
 refine sq (rd_move rfl) rfl ?_
 refine sq (rd_assign rfl) rfl ?_
 refine s_end ?_
 refine f_then ?_
 refine c_seq ?_
 refine c_reg ?_
 refine sq (rd_move rfl) rfl ?_
 refine sq (rd_subn (b) (1) rfl rfl rfl rfl (by omega) (by omega)) rfl ?_
 refine sq (rd_assign rfl) rfl ?_
 refine s_end ?_
 refine f_then ?_
 refine c_block ?_
 refine c_keep (L' := [(0, _), (8, _), (9, _)]) (by repeat constructor) ?_
 refine c_for (α := Nat × Nat × Array SN) (fun ⟨i, j, dk⟩ => j < n ∧ i ≤ n ∧ dk.size = n ∧ Sort.reverseLoop a (b - 1) d = Sort.reverseLoop i j dk) (fun ⟨i, j, dk⟩ => [.row 64 4 A n cap (flat SN.enc dk.toList)]) [] (fun ⟨i, j, dk⟩ => [(8, .int .i64 (i : Int)), (9, .int .i64 (j : Int))]) [(0, _)] (fun ⟨i, j, dk⟩ => j - i) ((a, b - 1, d)) (⟨by omega, by omega, hd, rfl⟩) (by repeat constructor) (fun _ h => h) ?_
 rintro ⟨i, j, dk⟩ ⟨hj, hi, hdk, hq⟩
 refine c_seq ?_
 refine c_seq ?_
 refine c_reg ?_
 refine sq (rd_move rfl) rfl ?_
 refine sq (rd_move rfl) rfl ?_
 refine sq (rd_lss rfl rfl) rfl ?_
 refine s_end ?_
 refine f_then ?_
 refine c_if rfl (fun h15 => ?_) (fun h15 => ?_)
 ·refine c_skip ?_
  refine f_then ?_
  refine c_block ?_
  refine c_seq ?_
  refine c_regd [] (.q 0 (.q 1 (.q 2 (.q 3 (.q 4 (.q 5 (.q 6 (.q 8 (.q 9 (.q 10 (.alt 7 (.alt 11 (.q 12 (.alt 13 (.q 14 (.alt 15 .done .stop)) .stop)) .stop) (.alt 11 (.alt 7 (.q 12 (.alt 13 (.q 14 (.alt 15 .done .stop)) .stop)) .stop) .stop)))))))))))) (by kernel_rfl) (by kernel_rfl) (by kernel_rfl) (by kernel_rfl) (fun _ h => h.sb) ?_
  refine dq rfl (rd_move rfl) rfl ?_
  refine dq rfl (rd_move rfl) rfl ?_
  refine dq rfl (rd_move rfl) rfl ?_
  refine dq rfl (rd_move rfl) rfl ?_
  refine dq rfl (rd_move rfl) rfl ?_
  refine dq rfl (rd_move rfl) rfl ?_
  refine dq rfl (rd_index S62 rfl rfl hA0 (by omega) (by omega)) rfl ?_
  refine dq rfl (rd_move rfl) rfl ?_
  refine dq rfl (rd_move rfl) rfl ?_
  refine dq rfl (rd_index S62 rfl rfl hA0 (by omega) (by omega)) rfl ?_
  refine de rfl rfl (ef_quiet (rd_ldsr A64 (by first | exact .head _) rfl (arr_part (f := SN.enc) SN.enc_len (i := j) (by first | omega | (simp only [swp_size, Array.size_setIfInBounds]; omega)))) rfl) (fun _ h => h.sb) ?_ ?_
  ·refine de rfl rfl (ef_quiet (rd_ldsr A64 (by first | exact .head _) rfl (arr_part (f := SN.enc) SN.enc_len (i := i) (by first | omega | (simp only [swp_size, Array.size_setIfInBounds]; omega)))) rfl) (fun _ h => h.sb) ?_ d_stop
   refine dq rfl (rd_index S62 rfl rfl hA0 (by omega) (by omega)) rfl ?_
   refine de rfl rfl (ef_storea SN.enc (i) Sz64 rfl rfl rfl SN.enc_len SN.enc_cells (by decide) (by omega) (by first | omega | (simp only [swp_size, Array.size_setIfInBounds]; omega))) (fun _ h => h.sb) ?_ d_stop
   refine dq rfl (rd_index S62 rfl rfl hA0 (by omega) (by omega)) rfl ?_
   refine de rfl rfl (ef_storea SN.enc (j) Sz64 rfl rfl rfl SN.enc_len SN.enc_cells (by decide) (by omega) (by first | omega | (simp only [swp_size, Array.size_setIfInBounds]; omega))) (fun _ h => h.sb) ?_ d_stop
   refine d_end ?_
   refine f_then ?_
   refine c_seq ?_
   refine c_reg ?_
   refine sq (rd_move rfl) rfl ?_
   refine sq (rd_addn (i) (1) rfl rfl rfl rfl (by omega)) rfl ?_
   refine sq (rd_assign rfl) rfl ?_
   refine s_end ?_
   refine f_then ?_
   refine c_reg ?_
   refine sq (rd_move rfl) rfl ?_
   refine sq (rd_subn (j) (1) rfl rfl rfl rfl (by omega) (by omega)) rfl ?_
   refine sq (rd_assign rfl) rfl ?_
   refine s_end ?_
   refine f_blk ?_
   refine f_again ((i + 1, j - 1, Sort.swp dk i j)) (⟨by omega, by omega, by simpa using hdk, by rw [hq, Sort.reverseLoop, if_pos (by omega)]⟩) (by show j - 1 - (i + 1) < j - i; omega) (by repeat constructor) (fun _ h => h.sb)
  refine de rfl rfl (ef_quiet (rd_ldsr A64 (by first | exact .head _) rfl (arr_part (f := SN.enc) SN.enc_len (i := i) (by first | omega | (simp only [swp_size, Array.size_setIfInBounds]; omega)))) rfl) (fun _ h => h.sb) ?_ ?_
  ·refine de rfl rfl (ef_quiet (rd_ldsr A64 (by first | exact .head _) rfl (arr_part (f := SN.enc) SN.enc_len (i := j) (by first | omega | (simp only [swp_size, Array.size_setIfInBounds]; omega)))) rfl) (fun _ h => h.sb) ?_ d_stop
   refine dq rfl (rd_index S62 rfl rfl hA0 (by omega) (by omega)) rfl ?_
   refine de rfl rfl (ef_storea SN.enc (i) Sz64 rfl rfl rfl SN.enc_len SN.enc_cells (by decide) (by omega) (by first | omega | (simp only [swp_size, Array.size_setIfInBounds]; omega))) (fun _ h => h.sb) ?_ d_stop
   refine dq rfl (rd_index S62 rfl rfl hA0 (by omega) (by omega)) rfl ?_
   refine de rfl rfl (ef_storea SN.enc (j) Sz64 rfl rfl rfl SN.enc_len SN.enc_cells (by decide) (by omega) (by first | omega | (simp only [swp_size, Array.size_setIfInBounds]; omega))) (fun _ h => h.sb) ?_ d_stop
   refine d_end ?_
   refine f_then ?_
   refine c_seq ?_
   refine c_reg ?_
   refine sq (rd_move rfl) rfl ?_
   refine sq (rd_addn (i) (1) rfl rfl rfl rfl (by omega)) rfl ?_
   refine sq (rd_assign rfl) rfl ?_
   refine s_end ?_
   refine f_then ?_
   refine c_reg ?_
   refine sq (rd_move rfl) rfl ?_
   refine sq (rd_subn (j) (1) rfl rfl rfl rfl (by omega) (by omega)) rfl ?_
   refine sq (rd_assign rfl) rfl ?_
   refine s_end ?_
   refine f_blk ?_
   refine f_again ((i + 1, j - 1, Sort.swp dk i j)) (⟨by omega, by omega, by simpa using hdk, by rw [hq, Sort.reverseLoop, if_pos (by omega)]⟩) (by show j - 1 - (i + 1) < j - i; omega) (by repeat constructor) (fun _ h => h.sb)
  exact d_stop
 ·refine c_exit ?_
  refine f_then_x ?_
  refine f_then_x ?_
  refine f_blk_x ?_
  refine f_end rfl .nil ?_
  exact fun w' hS => ⟨_, rfl, (), rfl, trivial, by rw [show Sort.reverseRange d a b = dk from by rw [Sort.reverseRange, hq, Sort.reverseLoop, if_neg (by omega)]]; exact hS⟩

theorem c162 (w : World) (A : Option Addr) (cap n : Nat) (d : Array Int) (hd : d.size = n) (hn : n ≤ 1000000) (a b : Nat) (hab : a < b) (hb : b ≤ n) (hS : St w (fpOf [.row 3 1 A n cap (ints d.toList)]) [.row 3 1 A n cap (ints d.toList)] w) : Calls Tryz.prog 162 [.slice A n cap, .int .i64 (a : Int), .int .i64 (b : Int)].toArray w (RtE fun v w' => ∃ x : Unit, v = (fun _ => .tuple #[]) x ∧ (fun _ => True) x ∧ St w (fpOf [.row 3 1 A n cap (ints d.toList)]) ((fun _ => [.row 3 1 A n cap (ints (Sort.heapSort Sort.ltInt d a b).toList)]) x) w') := by
 refine enter Tryz.func162 rfl Tryz.ntmps162 rfl hS ?_
 refine c_seq ?_
 have hA0 : 0 < n → plainA A := fun h => ((row_know (List.mem_cons_self ..) w hS).2.2.2 h).1
 refine c_reg ?_
 refine sq (rd_move rfl) rfl ?_
 refine sq (rd_assign rfl) rfl ?_
 refine s_end ?_
 refine f_then ?_
 refine c_seq ?_
 refine c_reg ?_
 refine sq (rd_assign rfl) rfl ?_
 refine s_end ?_
 refine f_then ?_
 refine c_seq ?_
 refine c_reg ?_
 refine sq (rd_move rfl) rfl ?_
 refine sq (rd_move rfl) rfl ?_
 refine sq (rd_subn (b) (a) rfl rfl rfl rfl (by omega) (by omega)) rfl ?_
 refine sq (rd_assign rfl) rfl ?_
 refine s_end ?_
 refine f_then ?_
 refine c_seq ?_
 refine c_seq ?_
 refine c_reg ?_
 refine sq (rd_move rfl) rfl ?_
 refine sq (rd_subn ((b - a)) (1) rfl rfl rfl rfl (by omega) (by omega)) rfl ?_
 refine sq (rd_quon (((b - a) - 1)) (2) rfl rfl rfl rfl (by omega) (by omega)) rfl ?_
 refine sq (rd_assign rfl) rfl ?_
 refine s_end ?_
 refine f_then ?_
 refine c_block ?_
 refine c_keep (L' := [(0, _), (6, _), (7, _), (8, _), (9, _)]) (by repeat constructor) ?_
 refine c_for (α := Nat × Array Int) (fun ⟨k, dk⟩ => k ≤ (b - a - 1) / 2 + 1 ∧ dk.size = n ∧ Sort.heapBuild Sort.ltInt (b - a) a ((b - a - 1) / 2 + 1) d = Sort.heapBuild Sort.ltInt (b - a) a k dk) (fun ⟨k, dk⟩ => [.row 3 1 A n cap (ints dk.toList)]) [] (fun ⟨k, dk⟩ => [(9, .int .i64 ((k : Int) - 1))]) [(0, _), (6, _), (7, _), (8, _)] (fun ⟨k, dk⟩ => k) (((b - a - 1) / 2 + 1, d)) (⟨Nat.le_refl _, hd, rfl⟩) (.cons ((congrArg some (int_eq (by omega)))) (by repeat constructor)) (fun _ h => h) ?_
 rintro ⟨k, dk⟩ ⟨hk, hdk, hq⟩
 refine c_seq ?_
 refine c_seq ?_
 refine c_reg ?_
 refine sq (rd_move rfl) rfl ?_
 refine sq (rd_geq rfl rfl) rfl ?_
 refine s_end ?_
 refine f_then ?_
 refine c_if rfl (fun h19 => ?_) (fun h19 => ?_)
 ·obtain ⟨k, rfl⟩ : ∃ m, k = m + 1 := ⟨k - 1, by omega⟩
  refine c_keep (L' := [(9, .int .i64 (k : Int)), (0, _), (6, _), (7, _), (8, _), (18, _), (19, _)]) (.cons (congrArg some (int_eq (by omega))) (by repeat constructor)) ?_
  refine c_skip ?_
  refine f_then ?_
  refine c_seq ?_
  refine c_block ?_
  refine c_reg ?_
  refine sq (rd_move rfl) rfl ?_
  refine sq (rd_move rfl) rfl ?_
  refine sq (rd_move rfl) rfl ?_
  refine sq (rd_move rfl) rfl ?_
  refine sx (ef_call rfl rfl K176 (fun _ e => by cases e; rfl) [.row _ _ A n cap _] _ (.refl _) _ _ _ (fun w hS => by exact c176 w A cap n dk hdk hn  k (b - a) a (by omega) (by omega) hS.own)) rfl ?_
  rintro _ _
  refine s_end ?_
  refine f_blk ?_
  refine f_then ?_
  refine c_reg ?_
  refine sq (rd_move rfl) rfl ?_
  refine sq (rd_sub rfl rfl (wrap_i64 (by omega))) rfl ?_
  refine sq (rd_assign rfl) rfl ?_
  refine s_end ?_
  refine f_again ((k, Sort.siftDown Sort.ltInt (b - a) a k dk)) (⟨by omega, by rw [sift_size _ _ _ _ _ (Nat.le_refl _)]; exact hdk, by rw [hq, Sort.heapBuild]⟩) (by show k < k + 1; omega) (by repeat constructor) (fun _ h => h.sb)
 ·have hk0 : k = 0 := by omega
  subst hk0
  have hq0 : Sort.heapSort Sort.ltInt d a b = Sort.heapPop Sort.ltInt a (b - a) dk := by rw [Sort.heapSort, hq, Sort.heapBuild]
  clear hq
  refine c_exit ?_
  refine f_then_x ?_
  refine f_then_x ?_
  refine f_blk_x ?_
  refine f_then ?_
  refine c_seq ?_
  refine c_reg ?_
  refine sq (rd_move rfl) rfl ?_
  refine sq (rd_sub rfl rfl (wrap_i64 (by omega))) rfl ?_
  refine sq (rd_assign rfl) rfl ?_
  refine s_end ?_
  refine f_then ?_
  refine c_block ?_
  refine c_keep (L' := [(0, _), (6, _), (7, _), (10, _)]) (by repeat constructor) ?_
  refine c_for (α := Nat × Array Int) (fun ⟨k, dk⟩ => k ≤ b - a ∧ dk.size = n ∧ Sort.heapSort Sort.ltInt d a b = Sort.heapPop Sort.ltInt a k dk) (fun ⟨k, dk⟩ => [.row 3 1 A n cap (ints dk.toList)]) [] (fun ⟨k, dk⟩ => [(10, .int .i64 ((k : Int) - 1))]) [(0, _), (6, _), (7, _)] (fun ⟨k, dk⟩ => k) ((b - a, dk)) (⟨Nat.le_refl _, hdk, hq0⟩) (.cons ((congrArg some (int_eq (by omega)))) (by repeat constructor)) (fun _ h => h) ?_
  rintro ⟨k, dk⟩ ⟨hk, hdk, hq⟩
  refine c_seq ?_
  refine c_seq ?_
  refine c_reg ?_
  refine sq (rd_move rfl) rfl ?_
  refine sq (rd_geq rfl rfl) rfl ?_
  refine s_end ?_
  refine f_then ?_
  refine c_if rfl (fun h30 => ?_) (fun h30 => ?_)
  ·obtain ⟨k, rfl⟩ : ∃ m, k = m + 1 := ⟨k - 1, by omega⟩
   refine c_keep (L' := [(10, .int .i64 (k : Int)), (0, _), (6, _), (7, _), (29, _), (30, _)]) (.cons (congrArg some (int_eq (by omega))) (by repeat constructor)) ?_
   refine c_skip ?_
   refine f_then ?_
   refine c_seq ?_
   refine c_block ?_
   refine c_seq ?_
   refine c_regd [] (.q 0 (.q 1 (.q 2 (.q 3 (.q 4 (.q 5 (.q 6 (.q 7 (.q 8 (.q 9 (.q 10 (.q 12 (.q 13 (.q 14 (.alt 11 (.alt 15 (.q 16 (.alt 17 (.q 18 (.alt 19 .done .stop)) .stop)) .stop) (.alt 15 (.alt 11 (.q 16 (.alt 17 (.q 18 (.alt 19 .done .stop)) .stop)) .stop) .stop)))))))))))))))) (by kernel_rfl) (by kernel_rfl) (by kernel_rfl) (by kernel_rfl) (fun _ h => h.sb) ?_
   refine dq rfl (rd_move rfl) rfl ?_
   refine dq rfl (rd_move rfl) rfl ?_
   refine dq rfl (rd_move rfl) rfl ?_
   refine dq rfl (rd_move rfl) rfl ?_
   refine dq rfl (rd_move rfl) rfl ?_
   refine dq rfl (rd_addn (a) (k) rfl rfl rfl rfl (by omega)) rfl ?_
   refine dq rfl (rd_move rfl) rfl ?_
   refine dq rfl (rd_move rfl) rfl ?_
   refine dq rfl (rd_move rfl) rfl ?_
   refine dq rfl (rd_addn (a) (k) rfl rfl rfl rfl (by omega)) rfl ?_
   refine dq rfl (rd_index S128 rfl rfl hA0 (by omega) (by omega)) rfl ?_
   refine dq rfl (rd_move rfl) rfl ?_
   refine dq rfl (rd_move rfl) rfl ?_
   refine dq rfl (rd_index S128 rfl rfl hA0 (by omega) (by omega)) rfl ?_
   refine de rfl rfl (ef_quiet (rd_ldr C3 (by first | exact .head _) rfl (arr_get1 (i := (a + k)) (by first | omega | (simp only [swp_size, Array.size_setIfInBounds]; omega)))) rfl) (fun _ h => h.sb) ?_ ?_
   ·refine de rfl rfl (ef_quiet (rd_ldr C3 (by first | exact .head _) rfl (arr_get1 (i := a) (by first | omega | (simp only [swp_size, Array.size_setIfInBounds]; omega)))) rfl) (fun _ h => h.sb) ?_ d_stop
    refine dq rfl (rd_index S128 rfl rfl hA0 (by omega) (by omega)) rfl ?_
    refine de rfl rfl (ef_storei (a) Sz3 rfl rfl rfl (by omega) (by first | omega | (simp only [swp_size, Array.size_setIfInBounds]; omega))) (fun _ h => h.sb) ?_ d_stop
    refine dq rfl (rd_index S128 rfl rfl hA0 (by omega) (by omega)) rfl ?_
    refine de rfl rfl (ef_storei ((a + k)) Sz3 rfl rfl rfl (by omega) (by first | omega | (simp only [swp_size, Array.size_setIfInBounds]; omega))) (fun _ h => h.sb) ?_ d_stop
    refine d_end ?_
    refine f_then ?_
    refine c_reg ?_
    refine sq (rd_move rfl) rfl ?_
    refine sq (rd_move rfl) rfl ?_
    refine sq (rd_move rfl) rfl ?_
    refine sq (rd_move rfl) rfl ?_
    refine sx (ef_call rfl rfl K176 (fun _ e => by cases e; rfl) [.row _ _ A n cap _] _ (.refl _) _ _ _ (fun w hS => by exact c176 w A cap n (Sort.swp dk a (a + k)) (by simpa using hdk) hn  0 k a (by omega) (by omega) hS.own)) rfl ?_
    rintro _ _
    refine s_end ?_
    refine f_blk ?_
    refine f_then ?_
    refine c_reg ?_
    refine sq (rd_move rfl) rfl ?_
    refine sq (rd_sub rfl rfl (wrap_i64 (by omega))) rfl ?_
    refine sq (rd_assign rfl) rfl ?_
    refine s_end ?_
    refine f_again ((k, Sort.siftDown Sort.ltInt k a 0 (Sort.swp dk a (a + k)))) (⟨by omega, by rw [sift_size _ _ _ _ _ (Nat.le_refl _)]; simpa using hdk, by rw [hq, Sort.heapPop]⟩) (by show k < k + 1; omega) (by repeat constructor) (fun _ h => h.sb)
   refine de rfl rfl (ef_quiet (rd_ldr C3 (by first | exact .head _) rfl (arr_get1 (i := a) (by first | omega | (simp only [swp_size, Array.size_setIfInBounds]; omega)))) rfl) (fun _ h => h.sb) ?_ ?_
   ·refine de rfl rfl (ef_quiet (rd_ldr C3 (by first | exact .head _) rfl (arr_get1 (i := (a + k)) (by first | omega | (simp only [swp_size, Array.size_setIfInBounds]; omega)))) rfl) (fun _ h => h.sb) ?_ d_stop
    refine dq rfl (rd_index S128 rfl rfl hA0 (by omega) (by omega)) rfl ?_
    refine de rfl rfl (ef_storei (a) Sz3 rfl rfl rfl (by omega) (by first | omega | (simp only [swp_size, Array.size_setIfInBounds]; omega))) (fun _ h => h.sb) ?_ d_stop
    refine dq rfl (rd_index S128 rfl rfl hA0 (by omega) (by omega)) rfl ?_
    refine de rfl rfl (ef_storei ((a + k)) Sz3 rfl rfl rfl (by omega) (by first | omega | (simp only [swp_size, Array.size_setIfInBounds]; omega))) (fun _ h => h.sb) ?_ d_stop
    refine d_end ?_
    refine f_then ?_
    refine c_reg ?_
    refine sq (rd_move rfl) rfl ?_
    refine sq (rd_move rfl) rfl ?_
    refine sq (rd_move rfl) rfl ?_
    refine sq (rd_move rfl) rfl ?_
    refine sx (ef_call rfl rfl K176 (fun _ e => by cases e; rfl) [.row _ _ A n cap _] _ (.refl _) _ _ _ (fun w hS => by exact c176 w A cap n (Sort.swp dk a (a + k)) (by simpa using hdk) hn  0 k a (by omega) (by omega) hS.own)) rfl ?_
    rintro _ _
    refine s_end ?_
    refine f_blk ?_
    refine f_then ?_
    refine c_reg ?_
    refine sq (rd_move rfl) rfl ?_
    refine sq (rd_sub rfl rfl (wrap_i64 (by omega))) rfl ?_
    refine sq (rd_assign rfl) rfl ?_
    refine s_end ?_
    refine f_again ((k, Sort.siftDown Sort.ltInt k a 0 (Sort.swp dk a (a + k)))) (⟨by omega, by rw [sift_size _ _ _ _ _ (Nat.le_refl _)]; simpa using hdk, by rw [hq, Sort.heapPop]⟩) (by show k < k + 1; omega) (by repeat constructor) (fun _ h => h.sb)
   exact d_stop
  ·refine c_exit ?_
   refine f_then_x ?_
   refine f_then_x ?_
   refine f_blk_x ?_
   refine f_end rfl .nil ?_
   exact fun w' hS => ⟨_, rfl, (), rfl, trivial, by rw [show Sort.heapSort Sort.ltInt d a b = dk from by rw [hq, show k = 0 from by omega, Sort.heapPop]]; exact hS⟩

theorem c165 (w : World) (A : Option Addr) (cap n : Nat) (d : Array Int) (hd : d.size = n) (hn : n ≤ 1000000) (a b : Nat) (hab : a < b) (hb : b ≤ n) (hS : St w (fpOf [.row 3 1 A n cap (ints d.toList)]) [.row 3 1 A n cap (ints d.toList)] w) : Calls Tryz.prog 165 [.slice A n cap, .int .i64 (a : Int), .int .i64 (b : Int)].toArray w (RtE fun v w' => ∃ x : Unit, v = (fun _ => .tuple #[]) x ∧ (fun _ => True) x ∧ St w (fpOf [.row 3 1 A n cap (ints d.toList)]) ((fun _ => [.row 3 1 A n cap (ints (Sort.reverseRange d a b).toList)]) x) w') := by
 refine enter Tryz.func165 rfl Tryz.ntmps165 rfl hS ?_
 refine c_seq ?_
 have hA0 : 0 < n → plainA A := fun h => ((row_know (List.mem_cons_self ..) w hS).2.2.2 h).1
 refine c_reg ?_
 refine sq (rd_move rfl) rfl ?_
 refine sq (rd_assign rfl) rfl ?_
 refine s_end ?_
 refine f_then ?_
 refine c_seq ?_
 refine c_reg ?_
 refine sq (rd_move rfl) rfl ?_
 refine sq (rd_subn (b) (1) rfl rfl rfl rfl (by omega) (by omega)) rfl ?_
 refine sq (rd_assign rfl) rfl ?_
 refine s_end ?_
 refine f_then ?_
 refine c_block ?_
 refine c_keep (L' := [(0, _), (6, _), (7, _)]) (by repeat constructor) ?_
 refine c_for (α := Nat × Nat × Array Int) (fun ⟨i, j, dk⟩ => j < n ∧ i ≤ n ∧ dk.size = n ∧ Sort.reverseLoop a (b - 1) d = Sort.reverseLoop i j dk) (fun ⟨i, j, dk⟩ => [.row 3 1 A n cap (ints dk.toList)]) [] (fun ⟨i, j, dk⟩ => [(6, .int .i64 (i : Int)), (7, .int .i64 (j : Int))]) [(0, _)] (fun ⟨i, j, dk⟩ => j - i) ((a, b - 1, d)) (⟨by omega, by omega, hd, rfl⟩) (by repeat constructor) (fun _ h => h) ?_
 rintro ⟨i, j, dk⟩ ⟨hj, hi, hdk, hq⟩
 refine c_seq ?_
 refine c_seq ?_
 refine c_reg ?_
 refine sq (rd_move rfl) rfl ?_
 refine sq (rd_move rfl) rfl ?_
 refine sq (rd_lss rfl rfl) rfl ?_
 refine s_end ?_
 refine f_then ?_
 refine c_if rfl (fun h13 => ?_) (fun h13 => ?_)
 ·refine c_skip ?_
  refine f_then ?_
  refine c_block ?_
  refine c_seq ?_
  refine c_regd [] (.q 0 (.q 1 (.q 2 (.q 3 (.q 4 (.q 5 (.q 6 (.q 8 (.q 9 (.q 10 (.alt 7 (.alt 11 (.q 12 (.alt 13 (.q 14 (.alt 15 .done .stop)) .stop)) .stop) (.alt 11 (.alt 7 (.q 12 (.alt 13 (.q 14 (.alt 15 .done .stop)) .stop)) .stop) .stop)))))))))))) (by kernel_rfl) (by kernel_rfl) (by kernel_rfl) (by kernel_rfl) (fun _ h => h.sb) ?_
  refine dq rfl (rd_move rfl) rfl ?_
  refine dq rfl (rd_move rfl) rfl ?_
  refine dq rfl (rd_move rfl) rfl ?_
  refine dq rfl (rd_move rfl) rfl ?_
  refine dq rfl (rd_move rfl) rfl ?_
  refine dq rfl (rd_move rfl) rfl ?_
  refine dq rfl (rd_index S128 rfl rfl hA0 (by omega) (by omega)) rfl ?_
  refine dq rfl (rd_move rfl) rfl ?_
  refine dq rfl (rd_move rfl) rfl ?_
  refine dq rfl (rd_index S128 rfl rfl hA0 (by omega) (by omega)) rfl ?_
  refine de rfl rfl (ef_quiet (rd_ldr C3 (by first | exact .head _) rfl (arr_get1 (i := j) (by first | omega | (simp only [swp_size, Array.size_setIfInBounds]; omega)))) rfl) (fun _ h => h.sb) ?_ ?_
  ·refine de rfl rfl (ef_quiet (rd_ldr C3 (by first | exact .head _) rfl (arr_get1 (i := i) (by first | omega | (simp only [swp_size, Array.size_setIfInBounds]; omega)))) rfl) (fun _ h => h.sb) ?_ d_stop
   refine dq rfl (rd_index S128 rfl rfl hA0 (by omega) (by omega)) rfl ?_
   refine de rfl rfl (ef_storei (i) Sz3 rfl rfl rfl (by omega) (by first | omega | (simp only [swp_size, Array.size_setIfInBounds]; omega))) (fun _ h => h.sb) ?_ d_stop
   refine dq rfl (rd_index S128 rfl rfl hA0 (by omega) (by omega)) rfl ?_
   refine de rfl rfl (ef_storei (j) Sz3 rfl rfl rfl (by omega) (by first | omega | (simp only [swp_size, Array.size_setIfInBounds]; omega))) (fun _ h => h.sb) ?_ d_stop
   refine d_end ?_
   refine f_then ?_
   refine c_seq ?_
   refine c_reg ?_
   refine sq (rd_move rfl) rfl ?_
   refine sq (rd_addn (i) (1) rfl rfl rfl rfl (by omega)) rfl ?_
   refine sq (rd_assign rfl) rfl ?_
   refine s_end ?_
   refine f_then ?_
   refine c_reg ?_
   refine sq (rd_move rfl) rfl ?_
   refine sq (rd_subn (j) (1) rfl rfl rfl rfl (by omega) (by omega)) rfl ?_
   refine sq (rd_assign rfl) rfl ?_
   refine s_end ?_
   refine f_blk ?_
   refine f_again ((i + 1, j - 1, Sort.swp dk i j)) (⟨by omega, by omega, by simpa using hdk, by rw [hq, Sort.reverseLoop, if_pos (by omega)]⟩) (by show j - 1 - (i + 1) < j - i; omega) (by repeat constructor) (fun _ h => h.sb)
  refine de rfl rfl (ef_quiet (rd_ldr C3 (by first | exact .head _) rfl (arr_get1 (i := i) (by first | omega | (simp only [swp_size, Array.size_setIfInBounds]; omega)))) rfl) (fun _ h => h.sb) ?_ ?_
  ·refine de rfl rfl (ef_quiet (rd_ldr C3 (by first | exact .head _) rfl (arr_get1 (i := j) (by first | omega | (simp only [swp_size, Array.size_setIfInBounds]; omega)))) rfl) (fun _ h => h.sb) ?_ d_stop
   refine dq rfl (rd_index S128 rfl rfl hA0 (by omega) (by omega)) rfl ?_
   refine de rfl rfl (ef_storei (i) Sz3 rfl rfl rfl (by omega) (by first | omega | (simp only [swp_size, Array.size_setIfInBounds]; omega))) (fun _ h => h.sb) ?_ d_stop
   refine dq rfl (rd_index S128 rfl rfl hA0 (by omega) (by omega)) rfl ?_
   refine de rfl rfl (ef_storei (j) Sz3 rfl rfl rfl (by omega) (by first | omega | (simp only [swp_size, Array.size_setIfInBounds]; omega))) (fun _ h => h.sb) ?_ d_stop
   refine d_end ?_
   refine f_then ?_
   refine c_seq ?_
   refine c_reg ?_
   refine sq (rd_move rfl) rfl ?_
   refine sq (rd_addn (i) (1) rfl rfl rfl rfl (by omega)) rfl ?_
   refine sq (rd_assign rfl) rfl ?_
   refine s_end ?_
   refine f_then ?_
   refine c_reg ?_
   refine sq (rd_move rfl) rfl ?_
   refine sq (rd_subn (j) (1) rfl rfl rfl rfl (by omega) (by omega)) rfl ?_
   refine sq (rd_assign rfl) rfl ?_
   refine s_end ?_
   refine f_blk ?_
   refine f_again ((i + 1, j - 1, Sort.swp dk i j)) (⟨by omega, by omega, by simpa using hdk, by rw [hq, Sort.reverseLoop, if_pos (by omega)]⟩) (by show j - 1 - (i + 1) < j - i; omega) (by repeat constructor) (fun _ h => h.sb)
  exact d_stop
 ·refine c_exit ?_
  refine f_then_x ?_
  refine f_then_x ?_
  refine f_blk_x ?_
  refine f_end rfl .nil ?_
  exact fun w' hS => ⟨_, rfl, (), rfl, trivial, by rw [show Sort.reverseRange d a b = dk from by rw [Sort.reverseRange, hq, Sort.reverseLoop, if_neg (by omega)]]; exact hS⟩

end Go.Proofs.YtfccnoccfhgcbaaGreatDoor
namespace Go.Proofs.YtfccnoccfhgcbaaGreatDoor
open Go

theorem not_false_ {r : Bool} (h : (!r) = false) : r = true := by cases r <;> simp_all
section
variable {α : Type} [Inhabited α] {p : α → Bool} {lt : α → α → Bool} {d d1 dk dd : Array α} {i j k a b i2 j2 pivot : Nat}
theorem up_go (h : i ≤ j) (hp : p d[i]! = true) : Sort.scanUp p d j i = Sort.scanUp p d j (i + 1) := by
 conv => lhs; rw [Sort.scanUp]
 rw [if_pos (by simp [h, hp])]
theorem up_stop (h : i ≤ j → p d[i]! = false) : Sort.scanUp p d j i = i := by
 rw [Sort.scanUp, if_neg]
 intro hc
 simp only [Bool.and_eq_true, decide_eq_true_eq] at hc
 rw [h hc.1] at hc
 exact Bool.noConfusion hc.2
theorem down_go (h : i ≤ j) (hj : 0 < j) (hp : p d[j]! = true) : Sort.scanDown p d i j = Sort.scanDown p d i (j - 1) := by
 obtain ⟨m, rfl⟩ : ∃ m, j = m + 1 := ⟨j - 1, by omega⟩
 conv => lhs; rw [Sort.scanDown]
 rw [if_pos (by simp [h, hp]), Nat.add_sub_cancel]
theorem down_stop (h : i ≤ j → p d[j]! = false) : Sort.scanDown p d i j = j := by
 cases j with
 | zero => rw [Sort.scanDown]
 | succ m =>
  rw [Sort.scanDown, if_neg]
  intro hc
  simp only [Bool.and_eq_true, decide_eq_true_eq] at hc
  rw [h hc.1] at hc
  exact Bool.noConfusion hc.2
theorem pl_done (h1 : Sort.scanUp (fun x => lt x dk[a]!) dk j i = i2) (h2 : Sort.scanDown (fun x => !lt x dk[a]!) dk i2 j = j2) (h : j2 < i2) : Sort.partLoop lt a i j dk = (j2, dk) := by
 rw [Sort.partLoop]
 simp only [h1, h2, h, gt_iff_lt, if_true]
theorem pl_go (h1 : Sort.scanUp (fun x => lt x dk[a]!) dk j i = i2) (h2 : Sort.scanDown (fun x => !lt x dk[a]!) dk i2 j = j2) (h : ¬ j2 < i2) (hg : (j2 - 1) + 1 - (i2 + 1) < j + 1 - i) : Sort.partLoop lt a i j dk = Sort.partLoop lt a (i2 + 1) (j2 - 1) (Sort.swp dk i2 j2) := by
 conv => lhs; rw [Sort.partLoop]
 simp only [h1, h2, h, gt_iff_lt, if_false, dif_pos hg]
theorem par_done (hd : d1 = Sort.swp d a pivot) (h1 : Sort.scanUp (fun x => lt x d1[a]!) d1 (b - 1) (a + 1) = i) (h2 : Sort.scanDown (fun x => !lt x d1[a]!) d1 i (b - 1) = j) (h : j < i) : Sort.partition lt d a b pivot = (j, true, Sort.swp d1 j a) := by
 subst hd
 rw [Sort.partition]
 simp only [h1, h2, h, gt_iff_lt, if_true]
theorem par_go (hd : d1 = Sort.swp d a pivot) (h1 : Sort.scanUp (fun x => lt x d1[a]!) d1 (b - 1) (a + 1) = i) (h2 : Sort.scanDown (fun x => !lt x d1[a]!) d1 i (b - 1) = j) (h : ¬ j < i) (hr : Sort.partLoop lt a (i + 1) (j - 1) (Sort.swp d1 i j) = (k, dd)) : Sort.partition lt d a b pivot = (k, false, Sort.swp dd k a) := by
 subst hd
 rw [Sort.partition]
 simp only [h1, h2, h, gt_iff_lt, if_false, hr]
theorem pe_done (h1 : Sort.scanUp (fun x => !lt dk[a]! x) dk j i = i2) (h2 : Sort.scanDown (fun x => lt dk[a]! x) dk i2 j = j2) (h : j2 < i2) : Sort.partEqLoop lt a i j dk = (i2, dk) := by
 rw [Sort.partEqLoop]
 simp only [h1, h2, h, gt_iff_lt, if_true]
theorem pe_go (h1 : Sort.scanUp (fun x => !lt dk[a]! x) dk j i = i2) (h2 : Sort.scanDown (fun x => lt dk[a]! x) dk i2 j = j2) (h : ¬ j2 < i2) (hg : (j2 - 1) + 1 - (i2 + 1) < j + 1 - i) : Sort.partEqLoop lt a i j dk = Sort.partEqLoop lt a (i2 + 1) (j2 - 1) (Sort.swp dk i2 j2) := by
 conv => lhs; rw [Sort.partEqLoop]
 simp only [h1, h2, h, gt_iff_lt, if_false, dif_pos hg]
theorem ss_go (h : i < b) (hl : lt d[i]! d[i - 1]! = false) : Sort.scanSorted lt d b i = Sort.scanSorted lt d b (i + 1) := by
 conv => lhs; rw [Sort.scanSorted]
 rw [if_pos (by simp [h, hl])]
theorem ss_stop (h : i < b → lt d[i]! d[i - 1]! = true) : Sort.scanSorted lt d b i = i := by
 rw [Sort.scanSorted, if_neg]
 intro hc
 simp only [Bool.and_eq_true, decide_eq_true_eq] at hc
 rw [h hc.1] at hc
 exact Bool.noConfusion hc.2
theorem sd_go (hj : 1 ≤ j) (hl : lt d[j]! d[j - 1]! = true) : Sort.shiftDown lt j d = Sort.shiftDown lt (j - 1) (Sort.swp d j (j - 1)) := by
 obtain ⟨m, rfl⟩ : ∃ m, j = m + 1 := ⟨j - 1, by omega⟩
 rw [Nat.add_sub_cancel] at hl ⊢
 conv => lhs; rw [Sort.shiftDown]
 rw [if_neg (by simp [hl])]
theorem sd_stop (hl : 1 ≤ j → lt d[j]! d[j - 1]! = false) : Sort.shiftDown lt j d = d := by
 cases j with
 | zero => rw [Sort.shiftDown]
 | succ m =>
  rw [Nat.add_sub_cancel] at hl
  rw [Sort.shiftDown, if_pos (by simp [hl (by omega)])]
theorem su_go (hj : j < b) (hl : lt d[j]! d[j - 1]! = true) : Sort.shiftUp lt b j d = Sort.shiftUp lt b (j + 1) (Sort.swp d j (j - 1)) := by
 conv => lhs; rw [Sort.shiftUp]
 rw [if_pos hj, if_neg (by simp [hl])]
theorem su_stop (hl : j < b → lt d[j]! d[j - 1]! = false) : Sort.shiftUp lt b j d = d := by
 rw [Sort.shiftUp]
 by_cases h : j < b
 ·rw [if_pos h, if_pos (by simp [hl h])]
 ·rw [if_neg h]
theorem pi_done {s : Nat} (h1 : Sort.scanSorted lt d b i = i2) (h : i2 = b) : Sort.partialIns lt a b (s + 1) i d = (d, true) := by
 rw [Sort.partialIns]
 simp only [h1, h, if_true]
theorem pi_short {s : Nat} (h1 : Sort.scanSorted lt d b i = i2) (h : i2 ≠ b) (h2 : b - a < 50) : Sort.partialIns lt a b (s + 1) i d = (d, false) := by
 rw [Sort.partialIns]
 simp only [h1, h, h2, if_true, if_false]
theorem pi_go {s : Nat} {d2 d3 : Array α} (h1 : Sort.scanSorted lt d b i = i2) (h : i2 ≠ b) (h2 : ¬ b - a < 50) (hd2 : d2 = if i2 - a ≥ 2 then Sort.shiftDown lt (i2 - 1) (Sort.swp d i2 (i2 - 1)) else Sort.swp d i2 (i2 - 1)) (hd3 : d3 = if b - i2 ≥ 2 then Sort.shiftUp lt b (i2 + 1) d2 else d2) : Sort.partialIns lt a b (s + 1) i d = Sort.partialIns lt a b s i2 d3 := by
 conv => lhs; rw [Sort.partialIns]
 simp only [h1, h, h2, if_false, ← hd2, ← hd3]
@[simp] theorem sd_size : ∀ (j : Nat) (d : Array α), (Sort.shiftDown lt j d).size = d.size := by
 intro j
 induction j with
 | zero => intro d; rw [Sort.shiftDown]
 | succ m ih =>
  intro d
  rw [Sort.shiftDown]
  split
  ·rfl
  ·rw [ih, swp_size]
theorem su_size : ∀ (k j : Nat) (d : Array α), b - j ≤ k → (Sort.shiftUp lt b j d).size = d.size := by
 intro k
 induction k with
 | zero => intro j d h; rw [su_stop (fun h2 => by omega)]
 | succ k ih =>
  intro j d h
  rw [Sort.shiftUp]
  split
  ·split
   ·rfl
   ·rw [ih _ _ (by omega), swp_size]
  ·rfl
end
/-- The sort's own loop: from [a, b) of 'd' it has come to [a2, b2) of 'dk'. -/
structure Mid {α : Type} [Inhabited α] (lt : α → α → Bool) (n a b : Nat) (d : Array α) (a2 b2 : Nat) (dk : Array α) : Prop where
 ha : a ≤ a2
 hab : a2 ≤ b2
 hb : b2 ≤ b
 hn : b ≤ n
 size : dk.size = n
 perm : Sort.PermIn a b d dk
 below : Sort.Below lt a2 b2 dk
 fin : ∀ R, Sort.PermIn a2 b2 dk R → Sort.SortedIn lt a2 b2 R → Sort.SortedIn lt a b R
section
variable {α : Type} [Inhabited α] {lt : α → α → Bool} {n a b a2 b2 pivot mid : Nat} {d dk d1 d4 : Array α}
theorem Mid.start (hd : d.size = n) (hab : a ≤ b) (hb : b ≤ n) (hB : Sort.Below lt a b d) : Mid lt n a b d a b d := ⟨Nat.le_refl _, hab, Nat.le_refl _, hb, hd, Sort.permIn_refl _ _ _, hB, fun _ _ h => h⟩
theorem Mid.turn (h : Mid lt n a b d a2 b2 dk) (hp : Sort.PermIn a2 b2 dk d1) : Mid lt n a b d a2 b2 d1 :=
 ⟨h.ha, h.hab, h.hb, h.hn, hp.1.trans h.size, Sort.permIn_trans _ _ _ a b h.perm (Sort.permIn_mono _ _ a2 b2 a b h.ha h.hb (by rw [h.size]; exact h.hn) hp), h.below.perm (by rw [h.size]; exact Nat.le_trans h.hb h.hn) hp, fun R h1 h2 => h.fin R (Sort.permIn_trans _ _ _ _ _ hp h1) h2⟩
theorem Mid.done (h : Mid lt n a b d a2 b2 dk) (hp : Sort.PermIn a2 b2 dk d1) (hs : Sort.SortedIn lt a2 b2 d1) : d1.size = n ∧ Sort.PermIn a b d d1 ∧ Sort.SortedIn lt a b d1 := ⟨(h.turn hp).size, (h.turn hp).perm, h.fin _ hp hs⟩
theorem Mid.eq (hO : Sort.SWO lt) (h : Mid lt n a b d a2 b2 dk) (h0 : 0 < a2) (hp1 : a2 ≤ pivot) (hp2 : pivot < b2) (hl : lt dk[a2 - 1]! dk[pivot]! = false) (hx : Sort.partitionEqual lt dk a2 b2 pivot = (mid, d4)) : a2 < mid ∧ mid ≤ b2 ∧ Mid lt n a b d mid b2 d4 := by
 have hbs : b2 ≤ dk.size := by rw [h.size]; exact Nat.le_trans h.hb h.hn
 obtain ⟨r1, r2, r3, r4, r5⟩ := Sort.round_eq hO (Sort.partitionEqual_holds lt) h0 hp1 hp2 hbs h.below hl hx
 have hge : ∀ i, a2 ≤ i → i < b2 → lt dk[i]! dk[pivot]! = false := fun i hi hi2 => by
  rcases h.below with h1 | h1
  ·omega
  ·exact hO.ntrans _ _ _ (h1 i hi hi2) hl
 have hpm := (Sort.partitionEqual_holds lt hO dk a2 b2 pivot hp1 hp2 hbs hge).2.2.1
 rw [hx] at hpm
 exact ⟨r1, r2, Nat.le_trans h.ha (Nat.le_of_lt r1), r2, h.hb, h.hn, r3.trans h.size, (h.turn hpm).perm, r4, fun R h1 h2 => h.fin R (r5 R h1 h2).1 (r5 R h1 h2).2⟩
theorem Mid.part {ap : Bool} (hO : Sort.SWO lt) (h : Mid lt n a b d a2 b2 dk) (hp1 : a2 ≤ pivot) (hp2 : pivot < b2) (hx : Sort.partition lt dk a2 b2 pivot = (mid, ap, d4)) :
  a2 ≤ mid ∧ mid < b2 ∧ d4.size = n ∧ Sort.Below lt a2 mid d4 ∧ Sort.Below lt (mid + 1) b2 d4 ∧ (∀ L, Sort.PermIn a2 mid d4 L → Sort.SortedIn lt a2 mid L → Mid lt n a b d (mid + 1) b2 L) ∧ (∀ L, Sort.PermIn (mid + 1) b2 d4 L → Sort.SortedIn lt (mid + 1) b2 L → Mid lt n a b d a2 mid L) := by
 have hbs : b2 ≤ dk.size := by rw [h.size]; exact Nat.le_trans h.hb h.hn
 obtain ⟨r1, r2, r3, r4, r5, r6, r7⟩ := Sort.round_part hO (Sort.partition_holds lt) hp1 hp2 hbs h.below hx
 have hpm := (Sort.partition_holds lt hO dk a2 b2 pivot hp1 hp2 hbs).2.2.1
 rw [hx] at hpm
 have hd4 : b2 ≤ d4.size := by rw [r3]; exact hbs
 refine ⟨r1, r2, r3.trans h.size, r4, r5, fun L h1 h2 => ?_, fun L h1 h2 => ?_⟩
 ·have hL := (h.turn hpm).turn (Sort.permIn_mono _ _ a2 mid a2 b2 (Nat.le_refl _) (Nat.le_of_lt r2) hd4 h1)
  have := h.ha
  exact ⟨by omega, by omega, h.hb, h.hn, hL.size, hL.perm, (r6 L h1 h2).1, fun R h3 h4 => h.fin R ((r6 L h1 h2).2 R h3 h4).1 ((r6 L h1 h2).2 R h3 h4).2⟩
 ·have hL := (h.turn hpm).turn (Sort.permIn_mono _ _ (mid + 1) b2 a2 b2 (by omega) (Nat.le_refl _) hd4 h1)
  have := h.hb
  exact ⟨h.ha, by omega, by omega, h.hn, hL.size, hL.perm, (r7 L h1 h2).1, fun R h3 h4 => h.fin R ((r7 L h1 h2).2 R h3 h4).1 ((r7 L h1 h2).2 R h3 h4).2⟩
end
end Go.Proofs.YtfccnoccfhgcbaaGreatDoor
namespace Go.Proofs.YtfccnoccfhgcbaaGreatDoor
open Go Go.RowKit
theorem c132 (w : World) (A : Option Addr) (cap n : Nat) (d : Array SN) (g : Nat) (cmp : SN → SN → Int) (hg : callTy Tryz.prog g) (hcmp : ∀ x y, Pu Tryz.prog g [.agg (SN.enc x).toArray, .agg (SN.enc y).toArray] (.int .i64 (cmp x y))) (hd : d.size = n) (hn : n ≤ 1000000) (a b pivot : Nat) (hap : a ≤ pivot) (hpb : pivot < b) (hb : b ≤ n) (hS : St w (fpOf [.row 64 4 A n cap (flat SN.enc d.toList)]) [.row 64 4 A n cap (flat SN.enc d.toList)] w) : Calls Tryz.prog 132 [.slice A n cap, .int .i64 (a : Int), .int .i64 (b : Int), .int .i64 (pivot : Int), .func (.func g) #[] #[]].toArray w (RtE fun v w' => ∃ x : Nat × Bool × Array SN, v = (fun x => .tuple #[.int .i64 (x.1 : Int), .bool x.2.1]) x ∧ (fun x => Sort.partition (ltOf cmp) d a b pivot = x) x ∧ St w (fpOf [.row 64 4 A n cap (flat SN.enc d.toList)]) ((fun x => [.row 64 4 A n cap (flat SN.enc x.2.2.toList)]) x) w') := by
 refine enter Tryz.func132 rfl Tryz.ntmps132 rfl hS ?_
 refine c_seq ?_
 have hA0 : 0 < n → plainA A := fun h => ((row_know (List.mem_cons_self ..) w hS).2.2.2 h).1
 refine c_reg ?_
 refine sq (rd_assign rfl) rfl ?_
 refine sq (rd_assign rfl) rfl ?_
 refine s_end ?_
 refine f_then ?_
 obtain ⟨d1, hde⟩ : ∃ d1, d1 = (Sort.swp d a pivot) := ⟨_, rfl⟩
 have hd1 : d1.size = n := by rw [hde]; simpa using hd
 refine c_meet2 (α := Unit) (fun x => True) (fun x => [.row 64 4 A n cap (flat SN.enc d1.toList)]) [] (fun x => []) [(0, _), (1, _), (2, _), (4, _), (10, _), (11, _)] (by repeat constructor) [.row _ _ A n cap _] (fun _ h => h) ?_ ?_
 ·refine c_regd [] (.q 0 (.q 1 (.q 2 (.q 3 (.q 4 (.q 5 (.q 6 (.q 8 (.q 9 (.q 10 (.alt 7 (.alt 11 (.q 12 (.alt 13 (.q 14 (.alt 15 .done .stop)) .stop)) .stop) (.alt 11 (.alt 7 (.q 12 (.alt 13 (.q 14 (.alt 15 .done .stop)) .stop)) .stop) .stop)))))))))))) (by kernel_rfl) (by kernel_rfl) (by kernel_rfl) (by kernel_rfl) (fun _ h => h.sb) ?_
  refine dq rfl (rd_move rfl) rfl ?_
  refine dq rfl (rd_move rfl) rfl ?_
  refine dq rfl (rd_move rfl) rfl ?_
  refine dq rfl (rd_move rfl) rfl ?_
  refine dq rfl (rd_move rfl) rfl ?_
  refine dq rfl (rd_move rfl) rfl ?_
  refine dq rfl (rd_index S62 rfl rfl hA0 (by omega) (by omega)) rfl ?_
  refine dq rfl (rd_move rfl) rfl ?_
  refine dq rfl (rd_move rfl) rfl ?_
  refine dq rfl (rd_index S62 rfl rfl hA0 (by omega) (by omega)) rfl ?_
  refine de rfl rfl (ef_quiet (rd_ldsr A64 (by first | exact .head _) rfl (arr_part (f := SN.enc) SN.enc_len (i := pivot) (by first | omega | (simp only [swp_size, Array.size_setIfInBounds]; omega)))) rfl) (fun _ h => h.sb) ?_ ?_
  ·refine de rfl rfl (ef_quiet (rd_ldsr A64 (by first | exact .head _) rfl (arr_part (f := SN.enc) SN.enc_len (i := a) (by first | omega | (simp only [swp_size, Array.size_setIfInBounds]; omega)))) rfl) (fun _ h => h.sb) ?_ d_stop
   refine dq rfl (rd_index S62 rfl rfl hA0 (by omega) (by omega)) rfl ?_
   refine de rfl rfl (ef_storea SN.enc (a) Sz64 rfl rfl rfl SN.enc_len SN.enc_cells (by decide) (by omega) (by first | omega | (simp only [swp_size, Array.size_setIfInBounds]; omega))) (fun _ h => h.sb) ?_ d_stop
   refine dq rfl (rd_index S62 rfl rfl hA0 (by omega) (by omega)) rfl ?_
   refine de rfl rfl (ef_storea SN.enc (pivot) Sz64 rfl rfl rfl SN.enc_len SN.enc_cells (by decide) (by omega) (by first | omega | (simp only [swp_size, Array.size_setIfInBounds]; omega))) (fun _ h => h.sb) ?_ d_stop
   refine d_end ?_
   subst hde
   refine f_cut (()) (trivial) (by repeat constructor) (fun _ h => h.sb)
  refine de rfl rfl (ef_quiet (rd_ldsr A64 (by first | exact .head _) rfl (arr_part (f := SN.enc) SN.enc_len (i := a) (by first | omega | (simp only [swp_size, Array.size_setIfInBounds]; omega)))) rfl) (fun _ h => h.sb) ?_ ?_
  ·refine de rfl rfl (ef_quiet (rd_ldsr A64 (by first | exact .head _) rfl (arr_part (f := SN.enc) SN.enc_len (i := pivot) (by first | omega | (simp only [swp_size, Array.size_setIfInBounds]; omega)))) rfl) (fun _ h => h.sb) ?_ d_stop
   refine dq rfl (rd_index S62 rfl rfl hA0 (by omega) (by omega)) rfl ?_
   refine de rfl rfl (ef_storea SN.enc (a) Sz64 rfl rfl rfl SN.enc_len SN.enc_cells (by decide) (by omega) (by first | omega | (simp only [swp_size, Array.size_setIfInBounds]; omega))) (fun _ h => h.sb) ?_ d_stop
   refine dq rfl (rd_index S62 rfl rfl hA0 (by omega) (by omega)) rfl ?_
   refine de rfl rfl (ef_storea SN.enc (pivot) Sz64 rfl rfl rfl SN.enc_len SN.enc_cells (by decide) (by omega) (by first | omega | (simp only [swp_size, Array.size_setIfInBounds]; omega))) (fun _ h => h.sb) ?_ d_stop
   refine d_end ?_
   subst hde
   refine f_cut (()) (trivial) (by repeat constructor) (fun _ h => h.sb)
  exact d_stop
 ·rintro _ _
  refine c_seq ?_
  refine c_reg ?_
  refine sq (rd_move rfl) rfl ?_
  refine sq (rd_addn (a) (1) rfl rfl rfl rfl (by omega)) rfl ?_
  refine sq (rd_move rfl) rfl ?_
  refine sq (rd_subn (b) (1) rfl rfl rfl rfl (by omega) (by omega)) rfl ?_
  refine sq (rd_assign rfl) rfl ?_
  refine sq (rd_assign rfl) rfl ?_
  refine s_end ?_
  refine f_then ?_
  refine c_meet2 (α := Nat) (fun u => a + 1 ≤ u ∧ u ≤ (b - 1) + 1 ∧ Sort.scanUp (fun x => (ltOf cmp) x d1[a]!) d1 (b - 1) (a + 1) = u ∧ (u ≤ (b - 1) → (fun x => (ltOf cmp) x d1[a]!) d1[u]! = false)) (fun u => []) [.row _ _ A n cap _] (fun u => [(12, .int .i64 (u : Int))]) [(0, _), (1, _), (4, _), (10, _), (11, _), (13, _)] (by repeat constructor) [] (fun _ h => h) ?_ ?_
  ·refine c_block ?_
   refine c_keep (L' := [(0, _), (1, _), (4, _), (10, _), (11, _), (12, _), (13, _)]) (by repeat constructor) ?_
   refine c_for (α := Nat) (fun u => a + 1 ≤ u ∧ u ≤ (b - 1) + 1 ∧ Sort.scanUp (fun x => (ltOf cmp) x d1[a]!) d1 (b - 1) (a + 1) = Sort.scanUp (fun x => (ltOf cmp) x d1[a]!) d1 (b - 1) u) (fun u => []) [.row _ _ A n cap _] (fun u => [(12, .int .i64 (u : Int))]) [(0, _), (1, _), (4, _), (10, _), (11, _), (13, _)] (fun u => (b - 1) + 1 - u) (a + 1) (⟨by omega, by omega, rfl⟩) (by repeat constructor) (fun _ h => h) ?_
   rintro u ⟨hs1, hs2, hsq⟩
   refine c_seq ?_
   refine c_seq ?_
   refine c_regd [.row _ _ A n cap _] (.q 0 (.q 1 (.q 2 (.q 3 (.q 4 (.q 5 (.q 6 (.q 7 (.q 8 (.q 9 (.q 10 (.q 11 (.q 12 (.alt 13 (.q 14 (.q 15 .done)) .stop)))))))))))))) (by kernel_rfl) (by kernel_rfl) (by kernel_rfl) (by kernel_rfl) (fun _ h => h.sb) ?_
   refine dq rfl (rd_move rfl) rfl ?_
   refine dq rfl (rd_move rfl) rfl ?_
   refine dq rfl (rd_leq rfl rfl) rfl ?_
   refine dq rfl (rd_move rfl) rfl ?_
   refine d_split (d := 35) rfl (fun g35 => ?_) (fun g35 => ?_)
   ·try have g35p := of_decide_eq_true g35
    refine dq1 rfl (fun a hA => wanted_yes hA rfl rfl rfl g35) (rd_move rfl) rfl ?_
    refine dq1 rfl (fun a hA => wanted_yes hA rfl rfl rfl g35) (rd_move rfl) rfl ?_
    refine dq1 rfl (fun a hA => wanted_yes hA rfl rfl rfl g35) (rd_move rfl) rfl ?_
    refine dq1 rfl (fun a hA => wanted_yes hA rfl rfl rfl g35) (rd_index S62 rfl rfl hA0 (by omega) (by omega)) rfl ?_
    refine dq1 rfl (fun a hA => wanted_yes hA rfl rfl rfl g35) (rd_ldsr A64 (by first | exact .head _) rfl (arr_part (f := SN.enc) SN.enc_len (i := u) (by first | omega | (simp only [swp_size, Array.size_setIfInBounds]; omega)))) rfl ?_
    refine dq1 rfl (fun a hA => wanted_yes hA rfl rfl rfl g35) (rd_move rfl) rfl ?_
    refine dq1 rfl (fun a hA => wanted_yes hA rfl rfl rfl g35) (rd_move rfl) rfl ?_
    refine dq1 rfl (fun a hA => wanted_yes hA rfl rfl rfl g35) (rd_index S62 rfl rfl hA0 (by omega) (by omega)) rfl ?_
    refine dq1 rfl (fun a hA => wanted_yes hA rfl rfl rfl g35) (rd_ldsr A64 (by first | exact .head _) rfl (arr_part (f := SN.enc) SN.enc_len (i := a) (by first | omega | (simp only [swp_size, Array.size_setIfInBounds]; omega)))) rfl ?_
    refine deg rfl (fun a hA => wanted_yes hA rfl rfl rfl g35) (ef_pure rfl rfl hg rfl (by exact hcmp _ _)) (fun _ h => h.sb) ?_ d_stop
    refine dq1 rfl (fun a hA => wanted_yes hA rfl rfl rfl g35) (rd_lss rfl rfl) rfl ?_
    refine dq rfl (rd_pick_tt rfl g35 rfl) rfl ?_
    refine d_end ?_
    refine f_then ?_
    refine c_cond rfl (fun h47 => ?_) (fun h47 => ?_)
    ·refine c_skip ?_
     refine f_then ?_
     refine c_block ?_
     refine c_reg ?_
     refine sq (rd_move rfl) rfl ?_
     refine sq (rd_addn (u) (1) rfl rfl rfl rfl (by omega)) rfl ?_
     refine sq (rd_assign rfl) rfl ?_
     refine s_end ?_
     refine f_blk ?_
     refine f_again (u + 1) (⟨by omega, by omega, by rw [hsq]; exact up_go (by omega) (by first | exact h47 | simpa using h47 | simpa [Sort.ltInt] using h47)⟩) (by omega) (by repeat constructor) (fun _ h => h.sb)
    ·refine c_exit ?_
     refine f_then_x ?_
     refine f_then_x ?_
     refine f_blk_x ?_
     have hst : u ≤ (b - 1) → (fun x => (ltOf cmp) x d1[a]!) d1[u]! = false := fun h => (by first | simpa using h47 | simpa [Sort.ltInt] using h47)
     refine f_cut (u) (⟨by omega, by omega, by rw [hsq]; exact up_stop hst, hst⟩) (by repeat constructor) (fun _ h => h.sb)
   ·try have g35p := of_decide_eq_false g35
    refine dq0 rfl (fun a hA => wanted_no hA rfl rfl rfl g35 rfl) rfl ?_
    refine dq0 rfl (fun a hA => wanted_no hA rfl rfl rfl g35 rfl) rfl ?_
    refine dq0 rfl (fun a hA => wanted_no hA rfl rfl rfl g35 rfl) rfl ?_
    refine dq0 rfl (fun a hA => wanted_no hA rfl rfl rfl g35 rfl) rfl ?_
    refine dq0 rfl (fun a hA => wanted_no hA rfl rfl rfl g35 rfl) rfl ?_
    refine dq0 rfl (fun a hA => wanted_no hA rfl rfl rfl g35 rfl) rfl ?_
    refine dq0 rfl (fun a hA => wanted_no hA rfl rfl rfl g35 rfl) rfl ?_
    refine dq0 rfl (fun a hA => wanted_no hA rfl rfl rfl g35 rfl) rfl ?_
    refine dq0 rfl (fun a hA => wanted_no hA rfl rfl rfl g35 rfl) rfl ?_
    refine de0 rfl (fun a hA => wanted_no hA rfl rfl rfl g35 rfl) rfl (fun _ h => h.sb) ?_ d_stop
    refine dq0 rfl (fun a hA => wanted_no hA rfl rfl rfl g35 rfl) rfl ?_
    refine dq rfl (rd_pick_ff rfl g35 rfl) rfl ?_
    refine d_end ?_
    refine f_then ?_
    refine c_lit_f rfl ?_
    refine c_exit ?_
    refine f_then_x ?_
    refine f_then_x ?_
    refine f_blk_x ?_
    have hst : u ≤ (b - 1) → (fun x => (ltOf cmp) x d1[a]!) d1[u]! = false := fun h => absurd h (by omega)
    refine f_cut (u) (⟨by omega, by omega, by rw [hsq]; exact up_stop hst, hst⟩) (by repeat constructor) (fun _ h => h.sb)
  ·rintro i1 ⟨hi11, hi12, hi1q, hi1s⟩
   refine c_meet2 (α := Nat) (fun v => i1 ≤ v + 1 ∧ v ≤ b - 1 ∧ Sort.scanDown (fun x => !(ltOf cmp) x d1[a]!) d1 i1 (b - 1) = v ∧ (i1 ≤ v → (fun x => !(ltOf cmp) x d1[a]!) d1[v]! = false)) (fun v => []) [.row _ _ A n cap _] (fun v => [(13, .int .i64 (v : Int))]) [(12, _), (0, _), (1, _), (4, _), (10, _), (11, _)] (by repeat constructor) [] (fun _ h => h) ?_ ?_
   ·refine c_block ?_
    refine c_keep (L' := [(12, _), (0, _), (1, _), (4, _), (10, _), (11, _), (13, _)]) (by repeat constructor) ?_
    refine c_for (α := Nat) (fun v => i1 ≤ v + 1 ∧ v ≤ b - 1 ∧ Sort.scanDown (fun x => !(ltOf cmp) x d1[a]!) d1 i1 (b - 1) = Sort.scanDown (fun x => !(ltOf cmp) x d1[a]!) d1 i1 v) (fun v => []) [.row _ _ A n cap _] (fun v => [(13, .int .i64 (v : Int))]) [(12, _), (0, _), (1, _), (4, _), (10, _), (11, _)] (fun v => v) (b - 1) (⟨by omega, by omega, rfl⟩) (by repeat constructor) (fun _ h => h) ?_
    rintro v ⟨hs1, hs2, hsq⟩
    refine c_seq ?_
    refine c_seq ?_
    refine c_regd [.row _ _ A n cap _] (.q 0 (.q 1 (.q 2 (.q 3 (.q 4 (.q 5 (.q 6 (.q 7 (.q 8 (.q 9 (.q 10 (.q 11 (.q 12 (.alt 13 (.q 14 (.q 15 (.q 16 .done))) .stop)))))))))))))) (by kernel_rfl) (by kernel_rfl) (by kernel_rfl) (by kernel_rfl) (fun _ h => h.sb) ?_
    refine dq rfl (rd_move rfl) rfl ?_
    refine dq rfl (rd_move rfl) rfl ?_
    refine dq rfl (rd_leq rfl rfl) rfl ?_
    refine dq rfl (rd_move rfl) rfl ?_
    refine d_split (d := 53) rfl (fun g53 => ?_) (fun g53 => ?_)
    ·try have g53p := of_decide_eq_true g53
     refine dq1 rfl (fun a hA => wanted_yes hA rfl rfl rfl g53) (rd_move rfl) rfl ?_
     refine dq1 rfl (fun a hA => wanted_yes hA rfl rfl rfl g53) (rd_move rfl) rfl ?_
     refine dq1 rfl (fun a hA => wanted_yes hA rfl rfl rfl g53) (rd_move rfl) rfl ?_
     refine dq1 rfl (fun a hA => wanted_yes hA rfl rfl rfl g53) (rd_index S62 rfl rfl hA0 (by omega) (by omega)) rfl ?_
     refine dq1 rfl (fun a hA => wanted_yes hA rfl rfl rfl g53) (rd_ldsr A64 (by first | exact .head _) rfl (arr_part (f := SN.enc) SN.enc_len (i := v) (by first | omega | (simp only [swp_size, Array.size_setIfInBounds]; omega)))) rfl ?_
     refine dq1 rfl (fun a hA => wanted_yes hA rfl rfl rfl g53) (rd_move rfl) rfl ?_
     refine dq1 rfl (fun a hA => wanted_yes hA rfl rfl rfl g53) (rd_move rfl) rfl ?_
     refine dq1 rfl (fun a hA => wanted_yes hA rfl rfl rfl g53) (rd_index S62 rfl rfl hA0 (by omega) (by omega)) rfl ?_
     refine dq1 rfl (fun a hA => wanted_yes hA rfl rfl rfl g53) (rd_ldsr A64 (by first | exact .head _) rfl (arr_part (f := SN.enc) SN.enc_len (i := a) (by first | omega | (simp only [swp_size, Array.size_setIfInBounds]; omega)))) rfl ?_
     refine deg rfl (fun a hA => wanted_yes hA rfl rfl rfl g53) (ef_pure rfl rfl hg rfl (by exact hcmp _ _)) (fun _ h => h.sb) ?_ d_stop
     refine dq1 rfl (fun a hA => wanted_yes hA rfl rfl rfl g53) (rd_lss rfl rfl) rfl ?_
     refine dq1 rfl (fun a hA => wanted_yes hA rfl rfl rfl g53) ((by first | exact rd_notd rfl | exact rd_not rfl)) rfl ?_
     refine dq rfl (rd_pick_tt rfl g53 rfl) rfl ?_
     refine d_end ?_
     refine f_then ?_
     refine c_cond rfl (fun h66 => ?_) (fun h66 => ?_)
     ·refine c_skip ?_
      refine f_then ?_
      refine c_block ?_
      refine c_reg ?_
      refine sq (rd_move rfl) rfl ?_
      refine sq (rd_subn (v) (1) rfl rfl rfl rfl (by omega) (by omega)) rfl ?_
      refine sq (rd_assign rfl) rfl ?_
      refine s_end ?_
      refine f_blk ?_
      refine f_again (v - 1) (⟨by omega, by omega, by rw [hsq]; exact down_go (by omega) (by omega) (by first | exact h66 | simpa using h66 | simpa [Sort.ltInt] using h66)⟩) (by omega) (by repeat constructor) (fun _ h => h.sb)
     ·refine c_exit ?_
      refine f_then_x ?_
      refine f_then_x ?_
      refine f_blk_x ?_
      have hst : i1 ≤ v → (fun x => !(ltOf cmp) x d1[a]!) d1[v]! = false := fun h => (by first | simpa using h66 | simpa [Sort.ltInt] using h66)
      refine f_cut (v) (⟨by omega, by omega, by rw [hsq]; exact down_stop hst, hst⟩) (by repeat constructor) (fun _ h => h.sb)
    ·try have g53p := of_decide_eq_false g53
     refine dq0 rfl (fun a hA => wanted_no hA rfl rfl rfl g53 rfl) rfl ?_
     refine dq0 rfl (fun a hA => wanted_no hA rfl rfl rfl g53 rfl) rfl ?_
     refine dq0 rfl (fun a hA => wanted_no hA rfl rfl rfl g53 rfl) rfl ?_
     refine dq0 rfl (fun a hA => wanted_no hA rfl rfl rfl g53 rfl) rfl ?_
     refine dq0 rfl (fun a hA => wanted_no hA rfl rfl rfl g53 rfl) rfl ?_
     refine dq0 rfl (fun a hA => wanted_no hA rfl rfl rfl g53 rfl) rfl ?_
     refine dq0 rfl (fun a hA => wanted_no hA rfl rfl rfl g53 rfl) rfl ?_
     refine dq0 rfl (fun a hA => wanted_no hA rfl rfl rfl g53 rfl) rfl ?_
     refine dq0 rfl (fun a hA => wanted_no hA rfl rfl rfl g53 rfl) rfl ?_
     refine de0 rfl (fun a hA => wanted_no hA rfl rfl rfl g53 rfl) rfl (fun _ h => h.sb) ?_ d_stop
     refine dq0 rfl (fun a hA => wanted_no hA rfl rfl rfl g53 rfl) rfl ?_
     refine dq0 rfl (fun a hA => wanted_no hA rfl rfl rfl g53 rfl) rfl ?_
     refine dq rfl (rd_pick_ff rfl g53 rfl) rfl ?_
     refine d_end ?_
     refine f_then ?_
     refine c_lit_f rfl ?_
     refine c_exit ?_
     refine f_then_x ?_
     refine f_then_x ?_
     refine f_blk_x ?_
     have hst : i1 ≤ v → (fun x => !(ltOf cmp) x d1[a]!) d1[v]! = false := fun h => absurd h (by omega)
     refine f_cut (v) (⟨by omega, by omega, by rw [hsq]; exact down_stop hst, hst⟩) (by repeat constructor) (fun _ h => h.sb)
   ·rintro j1 ⟨hj11, hj12, hj1q, hj1s⟩
    refine c_seq ?_
    refine c_seq ?_
    refine c_reg ?_
    refine sq (rd_move rfl) rfl ?_
    refine sq (rd_move rfl) rfl ?_
    refine sq (rd_gtr rfl rfl) rfl ?_
    refine s_end ?_
    refine f_then ?_
    refine c_if rfl (fun h71 => ?_) (fun h71 => ?_)
    ·refine c_meet2 (α := Unit) (fun x => True) (fun x => [.row 64 4 A n cap (flat SN.enc (Sort.swp d1 j1 a).toList)]) [] (fun x => []) [(13, _), (12, _), (0, _), (1, _), (4, _), (10, _), (11, _)] (by repeat constructor) [.row _ _ A n cap _] (fun _ h => h) ?_ ?_
     ·refine c_regd [] (.q 0 (.q 1 (.q 2 (.q 3 (.q 4 (.q 5 (.q 6 (.q 8 (.q 9 (.q 10 (.alt 7 (.alt 11 (.q 12 (.alt 13 (.q 14 (.alt 15 .done .stop)) .stop)) .stop) (.alt 11 (.alt 7 (.q 12 (.alt 13 (.q 14 (.alt 15 .done .stop)) .stop)) .stop) .stop)))))))))))) (by kernel_rfl) (by kernel_rfl) (by kernel_rfl) (by kernel_rfl) (fun _ h => h.sb) ?_
      refine dq rfl (rd_move rfl) rfl ?_
      refine dq rfl (rd_move rfl) rfl ?_
      refine dq rfl (rd_move rfl) rfl ?_
      refine dq rfl (rd_move rfl) rfl ?_
      refine dq rfl (rd_move rfl) rfl ?_
      refine dq rfl (rd_move rfl) rfl ?_
      refine dq rfl (rd_index S62 rfl rfl hA0 (by omega) (by omega)) rfl ?_
      refine dq rfl (rd_move rfl) rfl ?_
      refine dq rfl (rd_move rfl) rfl ?_
      refine dq rfl (rd_index S62 rfl rfl hA0 (by omega) (by omega)) rfl ?_
      refine de rfl rfl (ef_quiet (rd_ldsr A64 (by first | exact .head _) rfl (arr_part (f := SN.enc) SN.enc_len (i := a) (by first | omega | (simp only [swp_size, Array.size_setIfInBounds]; omega)))) rfl) (fun _ h => h.sb) ?_ ?_
      ·refine de rfl rfl (ef_quiet (rd_ldsr A64 (by first | exact .head _) rfl (arr_part (f := SN.enc) SN.enc_len (i := j1) (by first | omega | (simp only [swp_size, Array.size_setIfInBounds]; omega)))) rfl) (fun _ h => h.sb) ?_ d_stop
       refine dq rfl (rd_index S62 rfl rfl hA0 (by omega) (by omega)) rfl ?_
       refine de rfl rfl (ef_storea SN.enc (j1) Sz64 rfl rfl rfl SN.enc_len SN.enc_cells (by decide) (by omega) (by first | omega | (simp only [swp_size, Array.size_setIfInBounds]; omega))) (fun _ h => h.sb) ?_ d_stop
       refine dq rfl (rd_index S62 rfl rfl hA0 (by omega) (by omega)) rfl ?_
       refine de rfl rfl (ef_storea SN.enc (a) Sz64 rfl rfl rfl SN.enc_len SN.enc_cells (by decide) (by omega) (by first | omega | (simp only [swp_size, Array.size_setIfInBounds]; omega))) (fun _ h => h.sb) ?_ d_stop
       refine d_end ?_
       refine f_cut (()) (trivial) (by repeat constructor) (fun _ h => h.sb)
      refine de rfl rfl (ef_quiet (rd_ldsr A64 (by first | exact .head _) rfl (arr_part (f := SN.enc) SN.enc_len (i := j1) (by first | omega | (simp only [swp_size, Array.size_setIfInBounds]; omega)))) rfl) (fun _ h => h.sb) ?_ ?_
      ·refine de rfl rfl (ef_quiet (rd_ldsr A64 (by first | exact .head _) rfl (arr_part (f := SN.enc) SN.enc_len (i := a) (by first | omega | (simp only [swp_size, Array.size_setIfInBounds]; omega)))) rfl) (fun _ h => h.sb) ?_ d_stop
       refine dq rfl (rd_index S62 rfl rfl hA0 (by omega) (by omega)) rfl ?_
       refine de rfl rfl (ef_storea SN.enc (j1) Sz64 rfl rfl rfl SN.enc_len SN.enc_cells (by decide) (by omega) (by first | omega | (simp only [swp_size, Array.size_setIfInBounds]; omega))) (fun _ h => h.sb) ?_ d_stop
       refine dq rfl (rd_index S62 rfl rfl hA0 (by omega) (by omega)) rfl ?_
       refine de rfl rfl (ef_storea SN.enc (a) Sz64 rfl rfl rfl SN.enc_len SN.enc_cells (by decide) (by omega) (by first | omega | (simp only [swp_size, Array.size_setIfInBounds]; omega))) (fun _ h => h.sb) ?_ d_stop
       refine d_end ?_
       refine f_cut (()) (trivial) (by repeat constructor) (fun _ h => h.sb)
      exact d_stop
     ·rintro _ _
      refine c_seq ?_
      refine c_reg ?_
      refine sq (rd_move rfl) rfl ?_
      refine sq (rd_assign rfl) rfl ?_
      refine sq (rd_assign rfl) rfl ?_
      refine s_end ?_
      refine f_then ?_
      refine c_ret ?_
      refine f_then_r ?_
      refine f_ret rfl (.tmp rfl (.tmp rfl .nil)) ?_
      exact fun w' hS => ⟨_, rfl, (j1, true, Sort.swp d1 j1 a), rfl, par_done hde hi1q hj1q (by omega), hS⟩
    ·refine c_skip ?_
     refine f_then ?_
     have hlt : i1 < j1 := by
      rcases Nat.lt_or_ge i1 j1 with h | h
      ·exact h
      ·have e : i1 = j1 := by omega
       have e1 := hi1s (by omega)
       have e2 := hj1s (by omega)
       rw [e] at e1
       simp [e1] at e2
     refine c_meet2 (α := Unit) (fun x => True) (fun x => [.row 64 4 A n cap (flat SN.enc (Sort.swp d1 i1 j1).toList)]) [] (fun x => []) [(13, _), (12, _), (0, _), (1, _), (4, _), (10, _), (11, _)] (by repeat constructor) [.row _ _ A n cap _] (fun _ h => h) ?_ ?_
     ·refine c_regd [] (.q 0 (.q 1 (.q 2 (.q 3 (.q 4 (.q 5 (.q 6 (.q 8 (.q 9 (.q 10 (.alt 7 (.alt 11 (.q 12 (.alt 13 (.q 14 (.alt 15 .done .stop)) .stop)) .stop) (.alt 11 (.alt 7 (.q 12 (.alt 13 (.q 14 (.alt 15 .done .stop)) .stop)) .stop) .stop)))))))))))) (by kernel_rfl) (by kernel_rfl) (by kernel_rfl) (by kernel_rfl) (fun _ h => h.sb) ?_
      refine dq rfl (rd_move rfl) rfl ?_
      refine dq rfl (rd_move rfl) rfl ?_
      refine dq rfl (rd_move rfl) rfl ?_
      refine dq rfl (rd_move rfl) rfl ?_
      refine dq rfl (rd_move rfl) rfl ?_
      refine dq rfl (rd_move rfl) rfl ?_
      refine dq rfl (rd_index S62 rfl rfl hA0 (by omega) (by omega)) rfl ?_
      refine dq rfl (rd_move rfl) rfl ?_
      refine dq rfl (rd_move rfl) rfl ?_
      refine dq rfl (rd_index S62 rfl rfl hA0 (by omega) (by omega)) rfl ?_
      refine de rfl rfl (ef_quiet (rd_ldsr A64 (by first | exact .head _) rfl (arr_part (f := SN.enc) SN.enc_len (i := j1) (by first | omega | (simp only [swp_size, Array.size_setIfInBounds]; omega)))) rfl) (fun _ h => h.sb) ?_ ?_
      ·refine de rfl rfl (ef_quiet (rd_ldsr A64 (by first | exact .head _) rfl (arr_part (f := SN.enc) SN.enc_len (i := i1) (by first | omega | (simp only [swp_size, Array.size_setIfInBounds]; omega)))) rfl) (fun _ h => h.sb) ?_ d_stop
       refine dq rfl (rd_index S62 rfl rfl hA0 (by omega) (by omega)) rfl ?_
       refine de rfl rfl (ef_storea SN.enc (i1) Sz64 rfl rfl rfl SN.enc_len SN.enc_cells (by decide) (by omega) (by first | omega | (simp only [swp_size, Array.size_setIfInBounds]; omega))) (fun _ h => h.sb) ?_ d_stop
       refine dq rfl (rd_index S62 rfl rfl hA0 (by omega) (by omega)) rfl ?_
       refine de rfl rfl (ef_storea SN.enc (j1) Sz64 rfl rfl rfl SN.enc_len SN.enc_cells (by decide) (by omega) (by first | omega | (simp only [swp_size, Array.size_setIfInBounds]; omega))) (fun _ h => h.sb) ?_ d_stop
       refine d_end ?_
       refine f_cut (()) (trivial) (by repeat constructor) (fun _ h => h.sb)
      refine de rfl rfl (ef_quiet (rd_ldsr A64 (by first | exact .head _) rfl (arr_part (f := SN.enc) SN.enc_len (i := i1) (by first | omega | (simp only [swp_size, Array.size_setIfInBounds]; omega)))) rfl) (fun _ h => h.sb) ?_ ?_
      ·refine de rfl rfl (ef_quiet (rd_ldsr A64 (by first | exact .head _) rfl (arr_part (f := SN.enc) SN.enc_len (i := j1) (by first | omega | (simp only [swp_size, Array.size_setIfInBounds]; omega)))) rfl) (fun _ h => h.sb) ?_ d_stop
       refine dq rfl (rd_index S62 rfl rfl hA0 (by omega) (by omega)) rfl ?_
       refine de rfl rfl (ef_storea SN.enc (i1) Sz64 rfl rfl rfl SN.enc_len SN.enc_cells (by decide) (by omega) (by first | omega | (simp only [swp_size, Array.size_setIfInBounds]; omega))) (fun _ h => h.sb) ?_ d_stop
       refine dq rfl (rd_index S62 rfl rfl hA0 (by omega) (by omega)) rfl ?_
       refine de rfl rfl (ef_storea SN.enc (j1) Sz64 rfl rfl rfl SN.enc_len SN.enc_cells (by decide) (by omega) (by first | omega | (simp only [swp_size, Array.size_setIfInBounds]; omega))) (fun _ h => h.sb) ?_ d_stop
       refine d_end ?_
       refine f_cut (()) (trivial) (by repeat constructor) (fun _ h => h.sb)
      exact d_stop
     ·rintro _ _
      refine c_seq ?_
      refine c_reg ?_
      refine sq (rd_move rfl) rfl ?_
      refine sq (rd_addn (i1) (1) rfl rfl rfl rfl (by omega)) rfl ?_
      refine sq (rd_assign rfl) rfl ?_
      refine s_end ?_
      refine f_then ?_
      refine c_seq ?_
      refine c_reg ?_
      refine sq (rd_move rfl) rfl ?_
      refine sq (rd_subn (j1) (1) rfl rfl rfl rfl (by omega) (by omega)) rfl ?_
      refine sq (rd_assign rfl) rfl ?_
      refine s_end ?_
      refine f_then ?_
      refine c_seq ?_
      refine c_block ?_
      refine c_keep (L' := [(0, _), (1, _), (4, _), (10, _), (11, _), (12, _), (13, _)]) (by repeat constructor) ?_
      refine c_for (α := Nat × Nat × Array SN) (fun ⟨i, j, dk⟩ => a + 1 ≤ i ∧ i ≤ j + 1 ∧ j ≤ b - 1 ∧ dk.size = n ∧ Sort.partLoop (ltOf cmp) a (i1 + 1) (j1 - 1) (Sort.swp d1 i1 j1) = Sort.partLoop (ltOf cmp) a i j dk) (fun ⟨i, j, dk⟩ => [.row 64 4 A n cap (flat SN.enc dk.toList)]) [] (fun ⟨i, j, dk⟩ => [(12, .int .i64 (i : Int)), (13, .int .i64 (j : Int))]) [(0, _), (1, _), (4, _), (10, _), (11, _)] (fun ⟨i, j, dk⟩ => j + 1 - i) ((i1 + 1, j1 - 1, Sort.swp d1 i1 j1)) (⟨by omega, by omega, by omega, by simpa using hd1, rfl⟩) (by repeat constructor) (fun _ h => h) ?_
      rintro ⟨i, j, dk⟩ ⟨ho1, ho2, ho3, hdk, hoq⟩
      refine c_block ?_
      refine c_meet2 (α := Nat) (fun u => i ≤ u ∧ u ≤ j + 1 ∧ Sort.scanUp (fun x => (ltOf cmp) x dk[a]!) dk j (i) = u ∧ (u ≤ j → (fun x => (ltOf cmp) x dk[a]!) dk[u]! = false)) (fun u => []) [.row _ _ A n cap _] (fun u => [(12, .int .i64 (u : Int))]) [(13, _), (0, _), (1, _), (4, _), (10, _), (11, _)] (by repeat constructor) [] (fun _ h => h) ?_ ?_
      ·refine c_block ?_
       refine c_keep (L' := [(12, _), (13, _), (0, _), (1, _), (4, _), (10, _), (11, _)]) (by repeat constructor) ?_
       refine c_for (α := Nat) (fun u => i ≤ u ∧ u ≤ j + 1 ∧ Sort.scanUp (fun x => (ltOf cmp) x dk[a]!) dk j (i) = Sort.scanUp (fun x => (ltOf cmp) x dk[a]!) dk j u) (fun u => []) [.row _ _ A n cap _] (fun u => [(12, .int .i64 (u : Int))]) [(13, _), (0, _), (1, _), (4, _), (10, _), (11, _)] (fun u => j + 1 - u) (i) (⟨by omega, by omega, rfl⟩) (by repeat constructor) (fun _ h => h) ?_
       rintro u ⟨hs1, hs2, hsq⟩
       refine c_seq ?_
       refine c_seq ?_
       refine c_regd [.row _ _ A n cap _] (.q 0 (.q 1 (.q 2 (.q 3 (.q 4 (.q 5 (.q 6 (.q 7 (.q 8 (.q 9 (.q 10 (.q 11 (.q 12 (.alt 13 (.q 14 (.q 15 .done)) .stop)))))))))))))) (by kernel_rfl) (by kernel_rfl) (by kernel_rfl) (by kernel_rfl) (fun _ h => h.sb) ?_
       refine dq rfl (rd_move rfl) rfl ?_
       refine dq rfl (rd_move rfl) rfl ?_
       refine dq rfl (rd_leq rfl rfl) rfl ?_
       refine dq rfl (rd_move rfl) rfl ?_
       refine d_split (d := 108) rfl (fun g108 => ?_) (fun g108 => ?_)
       ·try have g108p := of_decide_eq_true g108
        refine dq1 rfl (fun a hA => wanted_yes hA rfl rfl rfl g108) (rd_move rfl) rfl ?_
        refine dq1 rfl (fun a hA => wanted_yes hA rfl rfl rfl g108) (rd_move rfl) rfl ?_
        refine dq1 rfl (fun a hA => wanted_yes hA rfl rfl rfl g108) (rd_move rfl) rfl ?_
        refine dq1 rfl (fun a hA => wanted_yes hA rfl rfl rfl g108) (rd_index S62 rfl rfl hA0 (by omega) (by omega)) rfl ?_
        refine dq1 rfl (fun a hA => wanted_yes hA rfl rfl rfl g108) (rd_ldsr A64 (by first | exact .head _) rfl (arr_part (f := SN.enc) SN.enc_len (i := u) (by first | omega | (simp only [swp_size, Array.size_setIfInBounds]; omega)))) rfl ?_
        refine dq1 rfl (fun a hA => wanted_yes hA rfl rfl rfl g108) (rd_move rfl) rfl ?_
        refine dq1 rfl (fun a hA => wanted_yes hA rfl rfl rfl g108) (rd_move rfl) rfl ?_
        refine dq1 rfl (fun a hA => wanted_yes hA rfl rfl rfl g108) (rd_index S62 rfl rfl hA0 (by omega) (by omega)) rfl ?_
        refine dq1 rfl (fun a hA => wanted_yes hA rfl rfl rfl g108) (rd_ldsr A64 (by first | exact .head _) rfl (arr_part (f := SN.enc) SN.enc_len (i := a) (by first | omega | (simp only [swp_size, Array.size_setIfInBounds]; omega)))) rfl ?_
        refine deg rfl (fun a hA => wanted_yes hA rfl rfl rfl g108) (ef_pure rfl rfl hg rfl (by exact hcmp _ _)) (fun _ h => h.sb) ?_ d_stop
        refine dq1 rfl (fun a hA => wanted_yes hA rfl rfl rfl g108) (rd_lss rfl rfl) rfl ?_
        refine dq rfl (rd_pick_tt rfl g108 rfl) rfl ?_
        refine d_end ?_
        refine f_then ?_
        refine c_cond rfl (fun h120 => ?_) (fun h120 => ?_)
        ·refine c_skip ?_
         refine f_then ?_
         refine c_block ?_
         refine c_reg ?_
         refine sq (rd_move rfl) rfl ?_
         refine sq (rd_addn (u) (1) rfl rfl rfl rfl (by omega)) rfl ?_
         refine sq (rd_assign rfl) rfl ?_
         refine s_end ?_
         refine f_blk ?_
         refine f_again (u + 1) (⟨by omega, by omega, by rw [hsq]; exact up_go (by omega) (by first | exact h120 | simpa using h120 | simpa [Sort.ltInt] using h120)⟩) (by omega) (by repeat constructor) (fun _ h => h.sb)
        ·refine c_exit ?_
         refine f_then_x ?_
         refine f_then_x ?_
         refine f_blk_x ?_
         have hst : u ≤ j → (fun x => (ltOf cmp) x dk[a]!) dk[u]! = false := fun h => (by first | simpa using h120 | simpa [Sort.ltInt] using h120)
         refine f_cut (u) (⟨by omega, by omega, by rw [hsq]; exact up_stop hst, hst⟩) (by repeat constructor) (fun _ h => h.sb)
       ·try have g108p := of_decide_eq_false g108
        refine dq0 rfl (fun a hA => wanted_no hA rfl rfl rfl g108 rfl) rfl ?_
        refine dq0 rfl (fun a hA => wanted_no hA rfl rfl rfl g108 rfl) rfl ?_
        refine dq0 rfl (fun a hA => wanted_no hA rfl rfl rfl g108 rfl) rfl ?_
        refine dq0 rfl (fun a hA => wanted_no hA rfl rfl rfl g108 rfl) rfl ?_
        refine dq0 rfl (fun a hA => wanted_no hA rfl rfl rfl g108 rfl) rfl ?_
        refine dq0 rfl (fun a hA => wanted_no hA rfl rfl rfl g108 rfl) rfl ?_
        refine dq0 rfl (fun a hA => wanted_no hA rfl rfl rfl g108 rfl) rfl ?_
        refine dq0 rfl (fun a hA => wanted_no hA rfl rfl rfl g108 rfl) rfl ?_
        refine dq0 rfl (fun a hA => wanted_no hA rfl rfl rfl g108 rfl) rfl ?_
        refine de0 rfl (fun a hA => wanted_no hA rfl rfl rfl g108 rfl) rfl (fun _ h => h.sb) ?_ d_stop
        refine dq0 rfl (fun a hA => wanted_no hA rfl rfl rfl g108 rfl) rfl ?_
        refine dq rfl (rd_pick_ff rfl g108 rfl) rfl ?_
        refine d_end ?_
        refine f_then ?_
        refine c_lit_f rfl ?_
        refine c_exit ?_
        refine f_then_x ?_
        refine f_then_x ?_
        refine f_blk_x ?_
        have hst : u ≤ j → (fun x => (ltOf cmp) x dk[a]!) dk[u]! = false := fun h => absurd h (by omega)
        refine f_cut (u) (⟨by omega, by omega, by rw [hsq]; exact up_stop hst, hst⟩) (by repeat constructor) (fun _ h => h.sb)
      ·rintro i2 ⟨hi21, hi22, hi2q, hi2s⟩
       refine c_meet2 (α := Nat) (fun v => i2 ≤ v + 1 ∧ v ≤ j ∧ Sort.scanDown (fun x => !(ltOf cmp) x dk[a]!) dk i2 (j) = v ∧ (i2 ≤ v → (fun x => !(ltOf cmp) x dk[a]!) dk[v]! = false)) (fun v => []) [.row _ _ A n cap _] (fun v => [(13, .int .i64 (v : Int))]) [(12, _), (0, _), (1, _), (4, _), (10, _), (11, _)] (by repeat constructor) [] (fun _ h => h) ?_ ?_
       ·refine c_block ?_
        refine c_keep (L' := [(12, _), (13, _), (0, _), (1, _), (4, _), (10, _), (11, _)]) (by repeat constructor) ?_
        refine c_for (α := Nat) (fun v => i2 ≤ v + 1 ∧ v ≤ j ∧ Sort.scanDown (fun x => !(ltOf cmp) x dk[a]!) dk i2 (j) = Sort.scanDown (fun x => !(ltOf cmp) x dk[a]!) dk i2 v) (fun v => []) [.row _ _ A n cap _] (fun v => [(13, .int .i64 (v : Int))]) [(12, _), (0, _), (1, _), (4, _), (10, _), (11, _)] (fun v => v) (j) (⟨by omega, by omega, rfl⟩) (by repeat constructor) (fun _ h => h) ?_
        rintro v ⟨hs1, hs2, hsq⟩
        refine c_seq ?_
        refine c_seq ?_
        refine c_regd [.row _ _ A n cap _] (.q 0 (.q 1 (.q 2 (.q 3 (.q 4 (.q 5 (.q 6 (.q 7 (.q 8 (.q 9 (.q 10 (.q 11 (.q 12 (.alt 13 (.q 14 (.q 15 (.q 16 .done))) .stop)))))))))))))) (by kernel_rfl) (by kernel_rfl) (by kernel_rfl) (by kernel_rfl) (fun _ h => h.sb) ?_
        refine dq rfl (rd_move rfl) rfl ?_
        refine dq rfl (rd_move rfl) rfl ?_
        refine dq rfl (rd_leq rfl rfl) rfl ?_
        refine dq rfl (rd_move rfl) rfl ?_
        refine d_split (d := 126) rfl (fun g126 => ?_) (fun g126 => ?_)
        ·try have g126p := of_decide_eq_true g126
         refine dq1 rfl (fun a hA => wanted_yes hA rfl rfl rfl g126) (rd_move rfl) rfl ?_
         refine dq1 rfl (fun a hA => wanted_yes hA rfl rfl rfl g126) (rd_move rfl) rfl ?_
         refine dq1 rfl (fun a hA => wanted_yes hA rfl rfl rfl g126) (rd_move rfl) rfl ?_
         refine dq1 rfl (fun a hA => wanted_yes hA rfl rfl rfl g126) (rd_index S62 rfl rfl hA0 (by omega) (by omega)) rfl ?_
         refine dq1 rfl (fun a hA => wanted_yes hA rfl rfl rfl g126) (rd_ldsr A64 (by first | exact .head _) rfl (arr_part (f := SN.enc) SN.enc_len (i := v) (by first | omega | (simp only [swp_size, Array.size_setIfInBounds]; omega)))) rfl ?_
         refine dq1 rfl (fun a hA => wanted_yes hA rfl rfl rfl g126) (rd_move rfl) rfl ?_
         refine dq1 rfl (fun a hA => wanted_yes hA rfl rfl rfl g126) (rd_move rfl) rfl ?_
         refine dq1 rfl (fun a hA => wanted_yes hA rfl rfl rfl g126) (rd_index S62 rfl rfl hA0 (by omega) (by omega)) rfl ?_
         refine dq1 rfl (fun a hA => wanted_yes hA rfl rfl rfl g126) (rd_ldsr A64 (by first | exact .head _) rfl (arr_part (f := SN.enc) SN.enc_len (i := a) (by first | omega | (simp only [swp_size, Array.size_setIfInBounds]; omega)))) rfl ?_
         refine deg rfl (fun a hA => wanted_yes hA rfl rfl rfl g126) (ef_pure rfl rfl hg rfl (by exact hcmp _ _)) (fun _ h => h.sb) ?_ d_stop
         refine dq1 rfl (fun a hA => wanted_yes hA rfl rfl rfl g126) (rd_lss rfl rfl) rfl ?_
         refine dq1 rfl (fun a hA => wanted_yes hA rfl rfl rfl g126) ((by first | exact rd_notd rfl | exact rd_not rfl)) rfl ?_
         refine dq rfl (rd_pick_tt rfl g126 rfl) rfl ?_
         refine d_end ?_
         refine f_then ?_
         refine c_cond rfl (fun h139 => ?_) (fun h139 => ?_)
         ·refine c_skip ?_
          refine f_then ?_
          refine c_block ?_
          refine c_reg ?_
          refine sq (rd_move rfl) rfl ?_
          refine sq (rd_subn (v) (1) rfl rfl rfl rfl (by omega) (by omega)) rfl ?_
          refine sq (rd_assign rfl) rfl ?_
          refine s_end ?_
          refine f_blk ?_
          refine f_again (v - 1) (⟨by omega, by omega, by rw [hsq]; exact down_go (by omega) (by omega) (by first | exact h139 | simpa using h139 | simpa [Sort.ltInt] using h139)⟩) (by omega) (by repeat constructor) (fun _ h => h.sb)
         ·refine c_exit ?_
          refine f_then_x ?_
          refine f_then_x ?_
          refine f_blk_x ?_
          have hst : i2 ≤ v → (fun x => !(ltOf cmp) x dk[a]!) dk[v]! = false := fun h => (by first | simpa using h139 | simpa [Sort.ltInt] using h139)
          refine f_cut (v) (⟨by omega, by omega, by rw [hsq]; exact down_stop hst, hst⟩) (by repeat constructor) (fun _ h => h.sb)
        ·try have g126p := of_decide_eq_false g126
         refine dq0 rfl (fun a hA => wanted_no hA rfl rfl rfl g126 rfl) rfl ?_
         refine dq0 rfl (fun a hA => wanted_no hA rfl rfl rfl g126 rfl) rfl ?_
         refine dq0 rfl (fun a hA => wanted_no hA rfl rfl rfl g126 rfl) rfl ?_
         refine dq0 rfl (fun a hA => wanted_no hA rfl rfl rfl g126 rfl) rfl ?_
         refine dq0 rfl (fun a hA => wanted_no hA rfl rfl rfl g126 rfl) rfl ?_
         refine dq0 rfl (fun a hA => wanted_no hA rfl rfl rfl g126 rfl) rfl ?_
         refine dq0 rfl (fun a hA => wanted_no hA rfl rfl rfl g126 rfl) rfl ?_
         refine dq0 rfl (fun a hA => wanted_no hA rfl rfl rfl g126 rfl) rfl ?_
         refine dq0 rfl (fun a hA => wanted_no hA rfl rfl rfl g126 rfl) rfl ?_
         refine de0 rfl (fun a hA => wanted_no hA rfl rfl rfl g126 rfl) rfl (fun _ h => h.sb) ?_ d_stop
         refine dq0 rfl (fun a hA => wanted_no hA rfl rfl rfl g126 rfl) rfl ?_
         refine dq0 rfl (fun a hA => wanted_no hA rfl rfl rfl g126 rfl) rfl ?_
         refine dq rfl (rd_pick_ff rfl g126 rfl) rfl ?_
         refine d_end ?_
         refine f_then ?_
         refine c_lit_f rfl ?_
         refine c_exit ?_
         refine f_then_x ?_
         refine f_then_x ?_
         refine f_blk_x ?_
         have hst : i2 ≤ v → (fun x => !(ltOf cmp) x dk[a]!) dk[v]! = false := fun h => absurd h (by omega)
         refine f_cut (v) (⟨by omega, by omega, by rw [hsq]; exact down_stop hst, hst⟩) (by repeat constructor) (fun _ h => h.sb)
       ·rintro j2 ⟨hj21, hj22, hj2q, hj2s⟩
        refine c_seq ?_
        refine c_seq ?_
        refine c_reg ?_
        refine sq (rd_move rfl) rfl ?_
        refine sq (rd_move rfl) rfl ?_
        refine sq (rd_gtr rfl rfl) rfl ?_
        refine s_end ?_
        refine f_then ?_
        refine c_if rfl (fun h144 => ?_) (fun h144 => ?_)
        ·refine c_exit ?_
         refine f_then_x ?_
         refine f_blk_y rfl ?_
         refine f_then_x ?_
         refine f_blk_x ?_
         refine f_then ?_
         refine c_meet2 (α := Unit) (fun x => True) (fun x => [.row 64 4 A n cap (flat SN.enc (Sort.swp dk j2 a).toList)]) [] (fun x => []) [(13, _), (10, _), (11, _)] (by repeat constructor) [.row _ _ A n cap _] (fun _ h => h) ?_ ?_
         ·refine c_regd [] (.q 0 (.q 1 (.q 2 (.q 3 (.q 4 (.q 5 (.q 6 (.q 8 (.q 9 (.q 10 (.alt 7 (.alt 11 (.q 12 (.alt 13 (.q 14 (.alt 15 .done .stop)) .stop)) .stop) (.alt 11 (.alt 7 (.q 12 (.alt 13 (.q 14 (.alt 15 .done .stop)) .stop)) .stop) .stop)))))))))))) (by kernel_rfl) (by kernel_rfl) (by kernel_rfl) (by kernel_rfl) (fun _ h => h.sb) ?_
          refine dq rfl (rd_move rfl) rfl ?_
          refine dq rfl (rd_move rfl) rfl ?_
          refine dq rfl (rd_move rfl) rfl ?_
          refine dq rfl (rd_move rfl) rfl ?_
          refine dq rfl (rd_move rfl) rfl ?_
          refine dq rfl (rd_move rfl) rfl ?_
          refine dq rfl (rd_index S62 rfl rfl hA0 (by omega) (by omega)) rfl ?_
          refine dq rfl (rd_move rfl) rfl ?_
          refine dq rfl (rd_move rfl) rfl ?_
          refine dq rfl (rd_index S62 rfl rfl hA0 (by omega) (by omega)) rfl ?_
          refine de rfl rfl (ef_quiet (rd_ldsr A64 (by first | exact .head _) rfl (arr_part (f := SN.enc) SN.enc_len (i := a) (by first | omega | (simp only [swp_size, Array.size_setIfInBounds]; omega)))) rfl) (fun _ h => h.sb) ?_ ?_
          ·refine de rfl rfl (ef_quiet (rd_ldsr A64 (by first | exact .head _) rfl (arr_part (f := SN.enc) SN.enc_len (i := j2) (by first | omega | (simp only [swp_size, Array.size_setIfInBounds]; omega)))) rfl) (fun _ h => h.sb) ?_ d_stop
           refine dq rfl (rd_index S62 rfl rfl hA0 (by omega) (by omega)) rfl ?_
           refine de rfl rfl (ef_storea SN.enc (j2) Sz64 rfl rfl rfl SN.enc_len SN.enc_cells (by decide) (by omega) (by first | omega | (simp only [swp_size, Array.size_setIfInBounds]; omega))) (fun _ h => h.sb) ?_ d_stop
           refine dq rfl (rd_index S62 rfl rfl hA0 (by omega) (by omega)) rfl ?_
           refine de rfl rfl (ef_storea SN.enc (a) Sz64 rfl rfl rfl SN.enc_len SN.enc_cells (by decide) (by omega) (by first | omega | (simp only [swp_size, Array.size_setIfInBounds]; omega))) (fun _ h => h.sb) ?_ d_stop
           refine d_end ?_
           refine f_cut (()) (trivial) (by repeat constructor) (fun _ h => h.sb)
          refine de rfl rfl (ef_quiet (rd_ldsr A64 (by first | exact .head _) rfl (arr_part (f := SN.enc) SN.enc_len (i := j2) (by first | omega | (simp only [swp_size, Array.size_setIfInBounds]; omega)))) rfl) (fun _ h => h.sb) ?_ ?_
          ·refine de rfl rfl (ef_quiet (rd_ldsr A64 (by first | exact .head _) rfl (arr_part (f := SN.enc) SN.enc_len (i := a) (by first | omega | (simp only [swp_size, Array.size_setIfInBounds]; omega)))) rfl) (fun _ h => h.sb) ?_ d_stop
           refine dq rfl (rd_index S62 rfl rfl hA0 (by omega) (by omega)) rfl ?_
           refine de rfl rfl (ef_storea SN.enc (j2) Sz64 rfl rfl rfl SN.enc_len SN.enc_cells (by decide) (by omega) (by first | omega | (simp only [swp_size, Array.size_setIfInBounds]; omega))) (fun _ h => h.sb) ?_ d_stop
           refine dq rfl (rd_index S62 rfl rfl hA0 (by omega) (by omega)) rfl ?_
           refine de rfl rfl (ef_storea SN.enc (a) Sz64 rfl rfl rfl SN.enc_len SN.enc_cells (by decide) (by omega) (by first | omega | (simp only [swp_size, Array.size_setIfInBounds]; omega))) (fun _ h => h.sb) ?_ d_stop
           refine d_end ?_
           refine f_cut (()) (trivial) (by repeat constructor) (fun _ h => h.sb)
          exact d_stop
         ·rintro _ _
          refine c_seq ?_
          refine c_reg ?_
          refine sq (rd_move rfl) rfl ?_
          refine sq (rd_assign rfl) rfl ?_
          refine sq (rd_assign rfl) rfl ?_
          refine s_end ?_
          refine f_then ?_
          refine c_ret ?_
          refine f_ret rfl (.tmp rfl (.tmp rfl .nil)) ?_
          exact fun w' hS => ⟨_, rfl, (j2, false, Sort.swp dk j2 a), rfl, par_go hde hi1q hj1q (by omega) (hoq.trans (pl_done hi2q hj2q (by omega))), hS⟩
        ·refine c_skip ?_
         refine f_then ?_
         have hlt : i2 < j2 := by
          rcases Nat.lt_or_ge i2 j2 with h | h
          ·exact h
          ·have e : i2 = j2 := by omega
           have e1 := hi2s (by omega)
           have e2 := hj2s (by omega)
           rw [e] at e1
           simp [e1] at e2
         refine c_meet2 (α := Unit) (fun x => True) (fun x => [.row 64 4 A n cap (flat SN.enc (Sort.swp dk i2 j2).toList)]) [] (fun x => []) [(13, _), (12, _), (0, _), (1, _), (4, _), (10, _), (11, _), (142, _), (143, _), (144, _)] (by repeat constructor) [.row _ _ A n cap _] (fun _ h => h) ?_ ?_
         ·refine c_regd [] (.q 0 (.q 1 (.q 2 (.q 3 (.q 4 (.q 5 (.q 6 (.q 8 (.q 9 (.q 10 (.alt 7 (.alt 11 (.q 12 (.alt 13 (.q 14 (.alt 15 .done .stop)) .stop)) .stop) (.alt 11 (.alt 7 (.q 12 (.alt 13 (.q 14 (.alt 15 .done .stop)) .stop)) .stop) .stop)))))))))))) (by kernel_rfl) (by kernel_rfl) (by kernel_rfl) (by kernel_rfl) (fun _ h => h.sb) ?_
          refine dq rfl (rd_move rfl) rfl ?_
          refine dq rfl (rd_move rfl) rfl ?_
          refine dq rfl (rd_move rfl) rfl ?_
          refine dq rfl (rd_move rfl) rfl ?_
          refine dq rfl (rd_move rfl) rfl ?_
          refine dq rfl (rd_move rfl) rfl ?_
          refine dq rfl (rd_index S62 rfl rfl hA0 (by omega) (by omega)) rfl ?_
          refine dq rfl (rd_move rfl) rfl ?_
          refine dq rfl (rd_move rfl) rfl ?_
          refine dq rfl (rd_index S62 rfl rfl hA0 (by omega) (by omega)) rfl ?_
          refine de rfl rfl (ef_quiet (rd_ldsr A64 (by first | exact .head _) rfl (arr_part (f := SN.enc) SN.enc_len (i := j2) (by first | omega | (simp only [swp_size, Array.size_setIfInBounds]; omega)))) rfl) (fun _ h => h.sb) ?_ ?_
          ·refine de rfl rfl (ef_quiet (rd_ldsr A64 (by first | exact .head _) rfl (arr_part (f := SN.enc) SN.enc_len (i := i2) (by first | omega | (simp only [swp_size, Array.size_setIfInBounds]; omega)))) rfl) (fun _ h => h.sb) ?_ d_stop
           refine dq rfl (rd_index S62 rfl rfl hA0 (by omega) (by omega)) rfl ?_
           refine de rfl rfl (ef_storea SN.enc (i2) Sz64 rfl rfl rfl SN.enc_len SN.enc_cells (by decide) (by omega) (by first | omega | (simp only [swp_size, Array.size_setIfInBounds]; omega))) (fun _ h => h.sb) ?_ d_stop
           refine dq rfl (rd_index S62 rfl rfl hA0 (by omega) (by omega)) rfl ?_
           refine de rfl rfl (ef_storea SN.enc (j2) Sz64 rfl rfl rfl SN.enc_len SN.enc_cells (by decide) (by omega) (by first | omega | (simp only [swp_size, Array.size_setIfInBounds]; omega))) (fun _ h => h.sb) ?_ d_stop
           refine d_end ?_
           refine f_cut (()) (trivial) (by repeat constructor) (fun _ h => h.sb)
          refine de rfl rfl (ef_quiet (rd_ldsr A64 (by first | exact .head _) rfl (arr_part (f := SN.enc) SN.enc_len (i := i2) (by first | omega | (simp only [swp_size, Array.size_setIfInBounds]; omega)))) rfl) (fun _ h => h.sb) ?_ ?_
          ·refine de rfl rfl (ef_quiet (rd_ldsr A64 (by first | exact .head _) rfl (arr_part (f := SN.enc) SN.enc_len (i := j2) (by first | omega | (simp only [swp_size, Array.size_setIfInBounds]; omega)))) rfl) (fun _ h => h.sb) ?_ d_stop
           refine dq rfl (rd_index S62 rfl rfl hA0 (by omega) (by omega)) rfl ?_
           refine de rfl rfl (ef_storea SN.enc (i2) Sz64 rfl rfl rfl SN.enc_len SN.enc_cells (by decide) (by omega) (by first | omega | (simp only [swp_size, Array.size_setIfInBounds]; omega))) (fun _ h => h.sb) ?_ d_stop
           refine dq rfl (rd_index S62 rfl rfl hA0 (by omega) (by omega)) rfl ?_
           refine de rfl rfl (ef_storea SN.enc (j2) Sz64 rfl rfl rfl SN.enc_len SN.enc_cells (by decide) (by omega) (by first | omega | (simp only [swp_size, Array.size_setIfInBounds]; omega))) (fun _ h => h.sb) ?_ d_stop
           refine d_end ?_
           refine f_cut (()) (trivial) (by repeat constructor) (fun _ h => h.sb)
          exact d_stop
         ·rintro _ _
          refine c_seq ?_
          refine c_reg ?_
          refine sq (rd_move rfl) rfl ?_
          refine sq (rd_addn (i2) (1) rfl rfl rfl rfl (by omega)) rfl ?_
          refine sq (rd_assign rfl) rfl ?_
          refine s_end ?_
          refine f_then ?_
          refine c_reg ?_
          refine sq (rd_move rfl) rfl ?_
          refine sq (rd_subn (j2) (1) rfl rfl rfl rfl (by omega) (by omega)) rfl ?_
          refine sq (rd_assign rfl) rfl ?_
          refine s_end ?_
          refine f_blk ?_
          refine f_again ((i2 + 1, j2 - 1, Sort.swp dk i2 j2)) (⟨by omega, by omega, by omega, by simpa using hdk, by rw [hoq]; exact pl_go hi2q hj2q (by omega) (by omega)⟩) (by show j2 - 1 + 1 - (i2 + 1) < j + 1 - i; omega) (by repeat constructor) (fun _ h => h.sb)

theorem c169 (w : World) (A : Option Addr) (cap n : Nat) (d : Array Int) (hd : d.size = n) (hn : n ≤ 1000000) (a b pivot : Nat) (hap : a ≤ pivot) (hpb : pivot < b) (hb : b ≤ n) (hS : St w (fpOf [.row 3 1 A n cap (ints d.toList)]) [.row 3 1 A n cap (ints d.toList)] w) : Calls Tryz.prog 169 [.slice A n cap, .int .i64 (a : Int), .int .i64 (b : Int), .int .i64 (pivot : Int)].toArray w (RtE fun v w' => ∃ x : Nat × Bool × Array Int, v = (fun x => .tuple #[.int .i64 (x.1 : Int), .bool x.2.1]) x ∧ (fun x => Sort.partition Sort.ltInt d a b pivot = x) x ∧ St w (fpOf [.row 3 1 A n cap (ints d.toList)]) ((fun x => [.row 3 1 A n cap (ints x.2.2.toList)]) x) w') := by
 refine enter Tryz.func169 rfl Tryz.ntmps169 rfl hS ?_
 refine c_seq ?_
 have hA0 : 0 < n → plainA A := fun h => ((row_know (List.mem_cons_self ..) w hS).2.2.2 h).1
 refine c_reg ?_
 refine sq (rd_assign rfl) rfl ?_
 refine sq (rd_assign rfl) rfl ?_
 refine s_end ?_
 refine f_then ?_
 obtain ⟨d1, hde⟩ : ∃ d1, d1 = (Sort.swp d a pivot) := ⟨_, rfl⟩
 have hd1 : d1.size = n := by rw [hde]; simpa using hd
 refine c_meet2 (α := Unit) (fun x => True) (fun x => [.row 3 1 A n cap (ints d1.toList)]) [] (fun x => []) [(0, _), (1, _), (2, _), (8, _), (9, _)] (by repeat constructor) [.row _ _ A n cap _] (fun _ h => h) ?_ ?_
 ·refine c_regd [] (.q 0 (.q 1 (.q 2 (.q 3 (.q 4 (.q 5 (.q 6 (.q 8 (.q 9 (.q 10 (.alt 7 (.alt 11 (.q 12 (.alt 13 (.q 14 (.alt 15 .done .stop)) .stop)) .stop) (.alt 11 (.alt 7 (.q 12 (.alt 13 (.q 14 (.alt 15 .done .stop)) .stop)) .stop) .stop)))))))))))) (by kernel_rfl) (by kernel_rfl) (by kernel_rfl) (by kernel_rfl) (fun _ h => h.sb) ?_
  refine dq rfl (rd_move rfl) rfl ?_
  refine dq rfl (rd_move rfl) rfl ?_
  refine dq rfl (rd_move rfl) rfl ?_
  refine dq rfl (rd_move rfl) rfl ?_
  refine dq rfl (rd_move rfl) rfl ?_
  refine dq rfl (rd_move rfl) rfl ?_
  refine dq rfl (rd_index S128 rfl rfl hA0 (by omega) (by omega)) rfl ?_
  refine dq rfl (rd_move rfl) rfl ?_
  refine dq rfl (rd_move rfl) rfl ?_
  refine dq rfl (rd_index S128 rfl rfl hA0 (by omega) (by omega)) rfl ?_
  refine de rfl rfl (ef_quiet (rd_ldr C3 (by first | exact .head _) rfl (arr_get1 (i := pivot) (by first | omega | (simp only [swp_size, Array.size_setIfInBounds]; omega)))) rfl) (fun _ h => h.sb) ?_ ?_
  ·refine de rfl rfl (ef_quiet (rd_ldr C3 (by first | exact .head _) rfl (arr_get1 (i := a) (by first | omega | (simp only [swp_size, Array.size_setIfInBounds]; omega)))) rfl) (fun _ h => h.sb) ?_ d_stop
   refine dq rfl (rd_index S128 rfl rfl hA0 (by omega) (by omega)) rfl ?_
   refine de rfl rfl (ef_storei (a) Sz3 rfl rfl rfl (by omega) (by first | omega | (simp only [swp_size, Array.size_setIfInBounds]; omega))) (fun _ h => h.sb) ?_ d_stop
   refine dq rfl (rd_index S128 rfl rfl hA0 (by omega) (by omega)) rfl ?_
   refine de rfl rfl (ef_storei (pivot) Sz3 rfl rfl rfl (by omega) (by first | omega | (simp only [swp_size, Array.size_setIfInBounds]; omega))) (fun _ h => h.sb) ?_ d_stop
   refine d_end ?_
   subst hde
   refine f_cut (()) (trivial) (by repeat constructor) (fun _ h => h.sb)
  refine de rfl rfl (ef_quiet (rd_ldr C3 (by first | exact .head _) rfl (arr_get1 (i := a) (by first | omega | (simp only [swp_size, Array.size_setIfInBounds]; omega)))) rfl) (fun _ h => h.sb) ?_ ?_
  ·refine de rfl rfl (ef_quiet (rd_ldr C3 (by first | exact .head _) rfl (arr_get1 (i := pivot) (by first | omega | (simp only [swp_size, Array.size_setIfInBounds]; omega)))) rfl) (fun _ h => h.sb) ?_ d_stop
   refine dq rfl (rd_index S128 rfl rfl hA0 (by omega) (by omega)) rfl ?_
   refine de rfl rfl (ef_storei (a) Sz3 rfl rfl rfl (by omega) (by first | omega | (simp only [swp_size, Array.size_setIfInBounds]; omega))) (fun _ h => h.sb) ?_ d_stop
   refine dq rfl (rd_index S128 rfl rfl hA0 (by omega) (by omega)) rfl ?_
   refine de rfl rfl (ef_storei (pivot) Sz3 rfl rfl rfl (by omega) (by first | omega | (simp only [swp_size, Array.size_setIfInBounds]; omega))) (fun _ h => h.sb) ?_ d_stop
   refine d_end ?_
   subst hde
   refine f_cut (()) (trivial) (by repeat constructor) (fun _ h => h.sb)
  exact d_stop
 ·rintro _ _
  refine c_seq ?_
  refine c_reg ?_
  refine sq (rd_move rfl) rfl ?_
  refine sq (rd_addn (a) (1) rfl rfl rfl rfl (by omega)) rfl ?_
  refine sq (rd_move rfl) rfl ?_
  refine sq (rd_subn (b) (1) rfl rfl rfl rfl (by omega) (by omega)) rfl ?_
  refine sq (rd_assign rfl) rfl ?_
  refine sq (rd_assign rfl) rfl ?_
  refine s_end ?_
  refine f_then ?_
  refine c_meet2 (α := Nat) (fun u => a + 1 ≤ u ∧ u ≤ (b - 1) + 1 ∧ Sort.scanUp (fun x => Sort.ltInt x d1[a]!) d1 (b - 1) (a + 1) = u ∧ (u ≤ (b - 1) → (fun x => Sort.ltInt x d1[a]!) d1[u]! = false)) (fun u => []) [.row _ _ A n cap _] (fun u => [(10, .int .i64 (u : Int))]) [(0, _), (1, _), (8, _), (9, _), (11, _)] (by repeat constructor) [] (fun _ h => h) ?_ ?_
  ·refine c_block ?_
   refine c_keep (L' := [(0, _), (1, _), (8, _), (9, _), (10, _), (11, _)]) (by repeat constructor) ?_
   refine c_for (α := Nat) (fun u => a + 1 ≤ u ∧ u ≤ (b - 1) + 1 ∧ Sort.scanUp (fun x => Sort.ltInt x d1[a]!) d1 (b - 1) (a + 1) = Sort.scanUp (fun x => Sort.ltInt x d1[a]!) d1 (b - 1) u) (fun u => []) [.row _ _ A n cap _] (fun u => [(10, .int .i64 (u : Int))]) [(0, _), (1, _), (8, _), (9, _), (11, _)] (fun u => (b - 1) + 1 - u) (a + 1) (⟨by omega, by omega, rfl⟩) (by repeat constructor) (fun _ h => h) ?_
   rintro u ⟨hs1, hs2, hsq⟩
   refine c_seq ?_
   refine c_seq ?_
   refine c_regd [.row _ _ A n cap _] (.q 0 (.q 1 (.q 2 (.q 3 (.q 4 (.q 5 (.q 6 (.q 7 (.q 8 (.q 9 (.q 10 (.q 11 (.alt 12 (.q 13 .done) .stop))))))))))))) (by kernel_rfl) (by kernel_rfl) (by kernel_rfl) (by kernel_rfl) (fun _ h => h.sb) ?_
   refine dq rfl (rd_move rfl) rfl ?_
   refine dq rfl (rd_move rfl) rfl ?_
   refine dq rfl (rd_leq rfl rfl) rfl ?_
   refine dq rfl (rd_move rfl) rfl ?_
   refine d_split (d := 33) rfl (fun g33 => ?_) (fun g33 => ?_)
   ·try have g33p := of_decide_eq_true g33
    refine dq1 rfl (fun a hA => wanted_yes hA rfl rfl rfl g33) (rd_move rfl) rfl ?_
    refine dq1 rfl (fun a hA => wanted_yes hA rfl rfl rfl g33) (rd_move rfl) rfl ?_
    refine dq1 rfl (fun a hA => wanted_yes hA rfl rfl rfl g33) (rd_index S128 rfl rfl hA0 (by omega) (by omega)) rfl ?_
    refine dq1 rfl (fun a hA => wanted_yes hA rfl rfl rfl g33) (rd_ldr C3 (by first | exact .head _) rfl (arr_get1 (i := u) (by first | omega | (simp only [swp_size, Array.size_setIfInBounds]; omega)))) rfl ?_
    refine dq1 rfl (fun a hA => wanted_yes hA rfl rfl rfl g33) (rd_move rfl) rfl ?_
    refine dq1 rfl (fun a hA => wanted_yes hA rfl rfl rfl g33) (rd_move rfl) rfl ?_
    refine dq1 rfl (fun a hA => wanted_yes hA rfl rfl rfl g33) (rd_index S128 rfl rfl hA0 (by omega) (by omega)) rfl ?_
    refine dq1 rfl (fun a hA => wanted_yes hA rfl rfl rfl g33) (rd_ldr C3 (by first | exact .head _) rfl (arr_get1 (i := a) (by first | omega | (simp only [swp_size, Array.size_setIfInBounds]; omega)))) rfl ?_
    refine deg rfl (fun a hA => wanted_yes hA rfl rfl rfl g33) (ef_pure rfl rfl K167 rfl (by exact c167 _ _)) (fun _ h => h.sb) ?_ d_stop
    refine dq rfl (rd_pick_tt rfl g33 rfl) rfl ?_
    refine d_end ?_
    refine f_then ?_
    refine c_cond rfl (fun h43 => ?_) (fun h43 => ?_)
    ·refine c_skip ?_
     refine f_then ?_
     refine c_block ?_
     refine c_reg ?_
     refine sq (rd_move rfl) rfl ?_
     refine sq (rd_addn (u) (1) rfl rfl rfl rfl (by omega)) rfl ?_
     refine sq (rd_assign rfl) rfl ?_
     refine s_end ?_
     refine f_blk ?_
     refine f_again (u + 1) (⟨by omega, by omega, by rw [hsq]; exact up_go (by omega) (by first | exact h43 | simpa using h43 | simpa [Sort.ltInt] using h43)⟩) (by omega) (by repeat constructor) (fun _ h => h.sb)
    ·refine c_exit ?_
     refine f_then_x ?_
     refine f_then_x ?_
     refine f_blk_x ?_
     have hst : u ≤ (b - 1) → (fun x => Sort.ltInt x d1[a]!) d1[u]! = false := fun h => (by first | simpa using h43 | simpa [Sort.ltInt] using h43)
     refine f_cut (u) (⟨by omega, by omega, by rw [hsq]; exact up_stop hst, hst⟩) (by repeat constructor) (fun _ h => h.sb)
   ·try have g33p := of_decide_eq_false g33
    refine dq0 rfl (fun a hA => wanted_no hA rfl rfl rfl g33 rfl) rfl ?_
    refine dq0 rfl (fun a hA => wanted_no hA rfl rfl rfl g33 rfl) rfl ?_
    refine dq0 rfl (fun a hA => wanted_no hA rfl rfl rfl g33 rfl) rfl ?_
    refine dq0 rfl (fun a hA => wanted_no hA rfl rfl rfl g33 rfl) rfl ?_
    refine dq0 rfl (fun a hA => wanted_no hA rfl rfl rfl g33 rfl) rfl ?_
    refine dq0 rfl (fun a hA => wanted_no hA rfl rfl rfl g33 rfl) rfl ?_
    refine dq0 rfl (fun a hA => wanted_no hA rfl rfl rfl g33 rfl) rfl ?_
    refine dq0 rfl (fun a hA => wanted_no hA rfl rfl rfl g33 rfl) rfl ?_
    refine de0 rfl (fun a hA => wanted_no hA rfl rfl rfl g33 rfl) rfl (fun _ h => h.sb) ?_ d_stop
    refine dq rfl (rd_pick_ff rfl g33 rfl) rfl ?_
    refine d_end ?_
    refine f_then ?_
    refine c_lit_f rfl ?_
    refine c_exit ?_
    refine f_then_x ?_
    refine f_then_x ?_
    refine f_blk_x ?_
    have hst : u ≤ (b - 1) → (fun x => Sort.ltInt x d1[a]!) d1[u]! = false := fun h => absurd h (by omega)
    refine f_cut (u) (⟨by omega, by omega, by rw [hsq]; exact up_stop hst, hst⟩) (by repeat constructor) (fun _ h => h.sb)
  ·rintro i1 ⟨hi11, hi12, hi1q, hi1s⟩
   refine c_meet2 (α := Nat) (fun v => i1 ≤ v + 1 ∧ v ≤ b - 1 ∧ Sort.scanDown (fun x => !Sort.ltInt x d1[a]!) d1 i1 (b - 1) = v ∧ (i1 ≤ v → (fun x => !Sort.ltInt x d1[a]!) d1[v]! = false)) (fun v => []) [.row _ _ A n cap _] (fun v => [(11, .int .i64 (v : Int))]) [(10, _), (0, _), (1, _), (8, _), (9, _)] (by repeat constructor) [] (fun _ h => h) ?_ ?_
   ·refine c_block ?_
    refine c_keep (L' := [(10, _), (0, _), (1, _), (8, _), (9, _), (11, _)]) (by repeat constructor) ?_
    refine c_for (α := Nat) (fun v => i1 ≤ v + 1 ∧ v ≤ b - 1 ∧ Sort.scanDown (fun x => !Sort.ltInt x d1[a]!) d1 i1 (b - 1) = Sort.scanDown (fun x => !Sort.ltInt x d1[a]!) d1 i1 v) (fun v => []) [.row _ _ A n cap _] (fun v => [(11, .int .i64 (v : Int))]) [(10, _), (0, _), (1, _), (8, _), (9, _)] (fun v => v) (b - 1) (⟨by omega, by omega, rfl⟩) (by repeat constructor) (fun _ h => h) ?_
    rintro v ⟨hs1, hs2, hsq⟩
    refine c_seq ?_
    refine c_seq ?_
    refine c_regd [.row _ _ A n cap _] (.q 0 (.q 1 (.q 2 (.q 3 (.q 4 (.q 5 (.q 6 (.q 7 (.q 8 (.q 9 (.q 10 (.q 11 (.alt 12 (.q 13 (.q 14 .done)) .stop))))))))))))) (by kernel_rfl) (by kernel_rfl) (by kernel_rfl) (by kernel_rfl) (fun _ h => h.sb) ?_
    refine dq rfl (rd_move rfl) rfl ?_
    refine dq rfl (rd_move rfl) rfl ?_
    refine dq rfl (rd_leq rfl rfl) rfl ?_
    refine dq rfl (rd_move rfl) rfl ?_
    refine d_split (d := 49) rfl (fun g49 => ?_) (fun g49 => ?_)
    ·try have g49p := of_decide_eq_true g49
     refine dq1 rfl (fun a hA => wanted_yes hA rfl rfl rfl g49) (rd_move rfl) rfl ?_
     refine dq1 rfl (fun a hA => wanted_yes hA rfl rfl rfl g49) (rd_move rfl) rfl ?_
     refine dq1 rfl (fun a hA => wanted_yes hA rfl rfl rfl g49) (rd_index S128 rfl rfl hA0 (by omega) (by omega)) rfl ?_
     refine dq1 rfl (fun a hA => wanted_yes hA rfl rfl rfl g49) (rd_ldr C3 (by first | exact .head _) rfl (arr_get1 (i := v) (by first | omega | (simp only [swp_size, Array.size_setIfInBounds]; omega)))) rfl ?_
     refine dq1 rfl (fun a hA => wanted_yes hA rfl rfl rfl g49) (rd_move rfl) rfl ?_
     refine dq1 rfl (fun a hA => wanted_yes hA rfl rfl rfl g49) (rd_move rfl) rfl ?_
     refine dq1 rfl (fun a hA => wanted_yes hA rfl rfl rfl g49) (rd_index S128 rfl rfl hA0 (by omega) (by omega)) rfl ?_
     refine dq1 rfl (fun a hA => wanted_yes hA rfl rfl rfl g49) (rd_ldr C3 (by first | exact .head _) rfl (arr_get1 (i := a) (by first | omega | (simp only [swp_size, Array.size_setIfInBounds]; omega)))) rfl ?_
     refine deg rfl (fun a hA => wanted_yes hA rfl rfl rfl g49) (ef_pure rfl rfl K167 rfl (by exact c167 _ _)) (fun _ h => h.sb) ?_ d_stop
     refine dq1 rfl (fun a hA => wanted_yes hA rfl rfl rfl g49) ((by first | exact rd_notd rfl | exact rd_not rfl)) rfl ?_
     refine dq rfl (rd_pick_tt rfl g49 rfl) rfl ?_
     refine d_end ?_
     refine f_then ?_
     refine c_cond rfl (fun h60 => ?_) (fun h60 => ?_)
     ·refine c_skip ?_
      refine f_then ?_
      refine c_block ?_
      refine c_reg ?_
      refine sq (rd_move rfl) rfl ?_
      refine sq (rd_subn (v) (1) rfl rfl rfl rfl (by omega) (by omega)) rfl ?_
      refine sq (rd_assign rfl) rfl ?_
      refine s_end ?_
      refine f_blk ?_
      refine f_again (v - 1) (⟨by omega, by omega, by rw [hsq]; exact down_go (by omega) (by omega) (by first | exact h60 | simpa using h60 | simpa [Sort.ltInt] using h60)⟩) (by omega) (by repeat constructor) (fun _ h => h.sb)
     ·refine c_exit ?_
      refine f_then_x ?_
      refine f_then_x ?_
      refine f_blk_x ?_
      have hst : i1 ≤ v → (fun x => !Sort.ltInt x d1[a]!) d1[v]! = false := fun h => (by first | simpa using h60 | simpa [Sort.ltInt] using h60)
      refine f_cut (v) (⟨by omega, by omega, by rw [hsq]; exact down_stop hst, hst⟩) (by repeat constructor) (fun _ h => h.sb)
    ·try have g49p := of_decide_eq_false g49
     refine dq0 rfl (fun a hA => wanted_no hA rfl rfl rfl g49 rfl) rfl ?_
     refine dq0 rfl (fun a hA => wanted_no hA rfl rfl rfl g49 rfl) rfl ?_
     refine dq0 rfl (fun a hA => wanted_no hA rfl rfl rfl g49 rfl) rfl ?_
     refine dq0 rfl (fun a hA => wanted_no hA rfl rfl rfl g49 rfl) rfl ?_
     refine dq0 rfl (fun a hA => wanted_no hA rfl rfl rfl g49 rfl) rfl ?_
     refine dq0 rfl (fun a hA => wanted_no hA rfl rfl rfl g49 rfl) rfl ?_
     refine dq0 rfl (fun a hA => wanted_no hA rfl rfl rfl g49 rfl) rfl ?_
     refine dq0 rfl (fun a hA => wanted_no hA rfl rfl rfl g49 rfl) rfl ?_
     refine de0 rfl (fun a hA => wanted_no hA rfl rfl rfl g49 rfl) rfl (fun _ h => h.sb) ?_ d_stop
     refine dq0 rfl (fun a hA => wanted_no hA rfl rfl rfl g49 rfl) rfl ?_
     refine dq rfl (rd_pick_ff rfl g49 rfl) rfl ?_
     refine d_end ?_
     refine f_then ?_
     refine c_lit_f rfl ?_
     refine c_exit ?_
     refine f_then_x ?_
     refine f_then_x ?_
     refine f_blk_x ?_
     have hst : i1 ≤ v → (fun x => !Sort.ltInt x d1[a]!) d1[v]! = false := fun h => absurd h (by omega)
     refine f_cut (v) (⟨by omega, by omega, by rw [hsq]; exact down_stop hst, hst⟩) (by repeat constructor) (fun _ h => h.sb)
   ·rintro j1 ⟨hj11, hj12, hj1q, hj1s⟩
    refine c_seq ?_
    refine c_seq ?_
    refine c_reg ?_
    refine sq (rd_move rfl) rfl ?_
    refine sq (rd_move rfl) rfl ?_
    refine sq (rd_gtr rfl rfl) rfl ?_
    refine s_end ?_
    refine f_then ?_
    refine c_if rfl (fun h65 => ?_) (fun h65 => ?_)
    ·refine c_meet2 (α := Unit) (fun x => True) (fun x => [.row 3 1 A n cap (ints (Sort.swp d1 j1 a).toList)]) [] (fun x => []) [(11, _), (10, _), (0, _), (1, _), (8, _), (9, _)] (by repeat constructor) [.row _ _ A n cap _] (fun _ h => h) ?_ ?_
     ·refine c_regd [] (.q 0 (.q 1 (.q 2 (.q 3 (.q 4 (.q 5 (.q 6 (.q 8 (.q 9 (.q 10 (.alt 7 (.alt 11 (.q 12 (.alt 13 (.q 14 (.alt 15 .done .stop)) .stop)) .stop) (.alt 11 (.alt 7 (.q 12 (.alt 13 (.q 14 (.alt 15 .done .stop)) .stop)) .stop) .stop)))))))))))) (by kernel_rfl) (by kernel_rfl) (by kernel_rfl) (by kernel_rfl) (fun _ h => h.sb) ?_
      refine dq rfl (rd_move rfl) rfl ?_
      refine dq rfl (rd_move rfl) rfl ?_
      refine dq rfl (rd_move rfl) rfl ?_
      refine dq rfl (rd_move rfl) rfl ?_
      refine dq rfl (rd_move rfl) rfl ?_
      refine dq rfl (rd_move rfl) rfl ?_
      refine dq rfl (rd_index S128 rfl rfl hA0 (by omega) (by omega)) rfl ?_
      refine dq rfl (rd_move rfl) rfl ?_
      refine dq rfl (rd_move rfl) rfl ?_
      refine dq rfl (rd_index S128 rfl rfl hA0 (by omega) (by omega)) rfl ?_
      refine de rfl rfl (ef_quiet (rd_ldr C3 (by first | exact .head _) rfl (arr_get1 (i := a) (by first | omega | (simp only [swp_size, Array.size_setIfInBounds]; omega)))) rfl) (fun _ h => h.sb) ?_ ?_
      ·refine de rfl rfl (ef_quiet (rd_ldr C3 (by first | exact .head _) rfl (arr_get1 (i := j1) (by first | omega | (simp only [swp_size, Array.size_setIfInBounds]; omega)))) rfl) (fun _ h => h.sb) ?_ d_stop
       refine dq rfl (rd_index S128 rfl rfl hA0 (by omega) (by omega)) rfl ?_
       refine de rfl rfl (ef_storei (j1) Sz3 rfl rfl rfl (by omega) (by first | omega | (simp only [swp_size, Array.size_setIfInBounds]; omega))) (fun _ h => h.sb) ?_ d_stop
       refine dq rfl (rd_index S128 rfl rfl hA0 (by omega) (by omega)) rfl ?_
       refine de rfl rfl (ef_storei (a) Sz3 rfl rfl rfl (by omega) (by first | omega | (simp only [swp_size, Array.size_setIfInBounds]; omega))) (fun _ h => h.sb) ?_ d_stop
       refine d_end ?_
       refine f_cut (()) (trivial) (by repeat constructor) (fun _ h => h.sb)
      refine de rfl rfl (ef_quiet (rd_ldr C3 (by first | exact .head _) rfl (arr_get1 (i := j1) (by first | omega | (simp only [swp_size, Array.size_setIfInBounds]; omega)))) rfl) (fun _ h => h.sb) ?_ ?_
      ·refine de rfl rfl (ef_quiet (rd_ldr C3 (by first | exact .head _) rfl (arr_get1 (i := a) (by first | omega | (simp only [swp_size, Array.size_setIfInBounds]; omega)))) rfl) (fun _ h => h.sb) ?_ d_stop
       refine dq rfl (rd_index S128 rfl rfl hA0 (by omega) (by omega)) rfl ?_
       refine de rfl rfl (ef_storei (j1) Sz3 rfl rfl rfl (by omega) (by first | omega | (simp only [swp_size, Array.size_setIfInBounds]; omega))) (fun _ h => h.sb) ?_ d_stop
       refine dq rfl (rd_index S128 rfl rfl hA0 (by omega) (by omega)) rfl ?_
       refine de rfl rfl (ef_storei (a) Sz3 rfl rfl rfl (by omega) (by first | omega | (simp only [swp_size, Array.size_setIfInBounds]; omega))) (fun _ h => h.sb) ?_ d_stop
       refine d_end ?_
       refine f_cut (()) (trivial) (by repeat constructor) (fun _ h => h.sb)
      exact d_stop
     ·rintro _ _
      refine c_seq ?_
      refine c_reg ?_
      refine sq (rd_move rfl) rfl ?_
      refine sq (rd_assign rfl) rfl ?_
      refine sq (rd_assign rfl) rfl ?_
      refine s_end ?_
      refine f_then ?_
      refine c_ret ?_
      refine f_then_r ?_
      refine f_ret rfl (.tmp rfl (.tmp rfl .nil)) ?_
      exact fun w' hS => ⟨_, rfl, (j1, true, Sort.swp d1 j1 a), rfl, par_done hde hi1q hj1q (by omega), hS⟩
    ·refine c_skip ?_
     refine f_then ?_
     have hlt : i1 < j1 := by
      rcases Nat.lt_or_ge i1 j1 with h | h
      ·exact h
      ·have e : i1 = j1 := by omega
       have e1 := hi1s (by omega)
       have e2 := hj1s (by omega)
       rw [e] at e1
       simp [e1] at e2
     refine c_meet2 (α := Unit) (fun x => True) (fun x => [.row 3 1 A n cap (ints (Sort.swp d1 i1 j1).toList)]) [] (fun x => []) [(11, _), (10, _), (0, _), (1, _), (8, _), (9, _)] (by repeat constructor) [.row _ _ A n cap _] (fun _ h => h) ?_ ?_
     ·refine c_regd [] (.q 0 (.q 1 (.q 2 (.q 3 (.q 4 (.q 5 (.q 6 (.q 8 (.q 9 (.q 10 (.alt 7 (.alt 11 (.q 12 (.alt 13 (.q 14 (.alt 15 .done .stop)) .stop)) .stop) (.alt 11 (.alt 7 (.q 12 (.alt 13 (.q 14 (.alt 15 .done .stop)) .stop)) .stop) .stop)))))))))))) (by kernel_rfl) (by kernel_rfl) (by kernel_rfl) (by kernel_rfl) (fun _ h => h.sb) ?_
      refine dq rfl (rd_move rfl) rfl ?_
      refine dq rfl (rd_move rfl) rfl ?_
      refine dq rfl (rd_move rfl) rfl ?_
      refine dq rfl (rd_move rfl) rfl ?_
      refine dq rfl (rd_move rfl) rfl ?_
      refine dq rfl (rd_move rfl) rfl ?_
      refine dq rfl (rd_index S128 rfl rfl hA0 (by omega) (by omega)) rfl ?_
      refine dq rfl (rd_move rfl) rfl ?_
      refine dq rfl (rd_move rfl) rfl ?_
      refine dq rfl (rd_index S128 rfl rfl hA0 (by omega) (by omega)) rfl ?_
      refine de rfl rfl (ef_quiet (rd_ldr C3 (by first | exact .head _) rfl (arr_get1 (i := j1) (by first | omega | (simp only [swp_size, Array.size_setIfInBounds]; omega)))) rfl) (fun _ h => h.sb) ?_ ?_
      ·refine de rfl rfl (ef_quiet (rd_ldr C3 (by first | exact .head _) rfl (arr_get1 (i := i1) (by first | omega | (simp only [swp_size, Array.size_setIfInBounds]; omega)))) rfl) (fun _ h => h.sb) ?_ d_stop
       refine dq rfl (rd_index S128 rfl rfl hA0 (by omega) (by omega)) rfl ?_
       refine de rfl rfl (ef_storei (i1) Sz3 rfl rfl rfl (by omega) (by first | omega | (simp only [swp_size, Array.size_setIfInBounds]; omega))) (fun _ h => h.sb) ?_ d_stop
       refine dq rfl (rd_index S128 rfl rfl hA0 (by omega) (by omega)) rfl ?_
       refine de rfl rfl (ef_storei (j1) Sz3 rfl rfl rfl (by omega) (by first | omega | (simp only [swp_size, Array.size_setIfInBounds]; omega))) (fun _ h => h.sb) ?_ d_stop
       refine d_end ?_
       refine f_cut (()) (trivial) (by repeat constructor) (fun _ h => h.sb)
      refine de rfl rfl (ef_quiet (rd_ldr C3 (by first | exact .head _) rfl (arr_get1 (i := i1) (by first | omega | (simp only [swp_size, Array.size_setIfInBounds]; omega)))) rfl) (fun _ h => h.sb) ?_ ?_
      ·refine de rfl rfl (ef_quiet (rd_ldr C3 (by first | exact .head _) rfl (arr_get1 (i := j1) (by first | omega | (simp only [swp_size, Array.size_setIfInBounds]; omega)))) rfl) (fun _ h => h.sb) ?_ d_stop
       refine dq rfl (rd_index S128 rfl rfl hA0 (by omega) (by omega)) rfl ?_
       refine de rfl rfl (ef_storei (i1) Sz3 rfl rfl rfl (by omega) (by first | omega | (simp only [swp_size, Array.size_setIfInBounds]; omega))) (fun _ h => h.sb) ?_ d_stop
       refine dq rfl (rd_index S128 rfl rfl hA0 (by omega) (by omega)) rfl ?_
       refine de rfl rfl (ef_storei (j1) Sz3 rfl rfl rfl (by omega) (by first | omega | (simp only [swp_size, Array.size_setIfInBounds]; omega))) (fun _ h => h.sb) ?_ d_stop
       refine d_end ?_
       refine f_cut (()) (trivial) (by repeat constructor) (fun _ h => h.sb)
      exact d_stop
     ·rintro _ _
      refine c_seq ?_
      refine c_reg ?_
      refine sq (rd_move rfl) rfl ?_
      refine sq (rd_addn (i1) (1) rfl rfl rfl rfl (by omega)) rfl ?_
      refine sq (rd_assign rfl) rfl ?_
      refine s_end ?_
      refine f_then ?_
      refine c_seq ?_
      refine c_reg ?_
      refine sq (rd_move rfl) rfl ?_
      refine sq (rd_subn (j1) (1) rfl rfl rfl rfl (by omega) (by omega)) rfl ?_
      refine sq (rd_assign rfl) rfl ?_
      refine s_end ?_
      refine f_then ?_
      refine c_seq ?_
      refine c_block ?_
      refine c_keep (L' := [(0, _), (1, _), (8, _), (9, _), (10, _), (11, _)]) (by repeat constructor) ?_
      refine c_for (α := Nat × Nat × Array Int) (fun ⟨i, j, dk⟩ => a + 1 ≤ i ∧ i ≤ j + 1 ∧ j ≤ b - 1 ∧ dk.size = n ∧ Sort.partLoop Sort.ltInt a (i1 + 1) (j1 - 1) (Sort.swp d1 i1 j1) = Sort.partLoop Sort.ltInt a i j dk) (fun ⟨i, j, dk⟩ => [.row 3 1 A n cap (ints dk.toList)]) [] (fun ⟨i, j, dk⟩ => [(10, .int .i64 (i : Int)), (11, .int .i64 (j : Int))]) [(0, _), (1, _), (8, _), (9, _)] (fun ⟨i, j, dk⟩ => j + 1 - i) ((i1 + 1, j1 - 1, Sort.swp d1 i1 j1)) (⟨by omega, by omega, by omega, by simpa using hd1, rfl⟩) (by repeat constructor) (fun _ h => h) ?_
      rintro ⟨i, j, dk⟩ ⟨ho1, ho2, ho3, hdk, hoq⟩
      refine c_block ?_
      refine c_meet2 (α := Nat) (fun u => i ≤ u ∧ u ≤ j + 1 ∧ Sort.scanUp (fun x => Sort.ltInt x dk[a]!) dk j (i) = u ∧ (u ≤ j → (fun x => Sort.ltInt x dk[a]!) dk[u]! = false)) (fun u => []) [.row _ _ A n cap _] (fun u => [(10, .int .i64 (u : Int))]) [(11, _), (0, _), (1, _), (8, _), (9, _)] (by repeat constructor) [] (fun _ h => h) ?_ ?_
      ·refine c_block ?_
       refine c_keep (L' := [(10, _), (11, _), (0, _), (1, _), (8, _), (9, _)]) (by repeat constructor) ?_
       refine c_for (α := Nat) (fun u => i ≤ u ∧ u ≤ j + 1 ∧ Sort.scanUp (fun x => Sort.ltInt x dk[a]!) dk j (i) = Sort.scanUp (fun x => Sort.ltInt x dk[a]!) dk j u) (fun u => []) [.row _ _ A n cap _] (fun u => [(10, .int .i64 (u : Int))]) [(11, _), (0, _), (1, _), (8, _), (9, _)] (fun u => j + 1 - u) (i) (⟨by omega, by omega, rfl⟩) (by repeat constructor) (fun _ h => h) ?_
       rintro u ⟨hs1, hs2, hsq⟩
       refine c_seq ?_
       refine c_seq ?_
       refine c_regd [.row _ _ A n cap _] (.q 0 (.q 1 (.q 2 (.q 3 (.q 4 (.q 5 (.q 6 (.q 7 (.q 8 (.q 9 (.q 10 (.q 11 (.alt 12 (.q 13 .done) .stop))))))))))))) (by kernel_rfl) (by kernel_rfl) (by kernel_rfl) (by kernel_rfl) (fun _ h => h.sb) ?_
       refine dq rfl (rd_move rfl) rfl ?_
       refine dq rfl (rd_move rfl) rfl ?_
       refine dq rfl (rd_leq rfl rfl) rfl ?_
       refine dq rfl (rd_move rfl) rfl ?_
       refine d_split (d := 102) rfl (fun g102 => ?_) (fun g102 => ?_)
       ·try have g102p := of_decide_eq_true g102
        refine dq1 rfl (fun a hA => wanted_yes hA rfl rfl rfl g102) (rd_move rfl) rfl ?_
        refine dq1 rfl (fun a hA => wanted_yes hA rfl rfl rfl g102) (rd_move rfl) rfl ?_
        refine dq1 rfl (fun a hA => wanted_yes hA rfl rfl rfl g102) (rd_index S128 rfl rfl hA0 (by omega) (by omega)) rfl ?_
        refine dq1 rfl (fun a hA => wanted_yes hA rfl rfl rfl g102) (rd_ldr C3 (by first | exact .head _) rfl (arr_get1 (i := u) (by first | omega | (simp only [swp_size, Array.size_setIfInBounds]; omega)))) rfl ?_
        refine dq1 rfl (fun a hA => wanted_yes hA rfl rfl rfl g102) (rd_move rfl) rfl ?_
        refine dq1 rfl (fun a hA => wanted_yes hA rfl rfl rfl g102) (rd_move rfl) rfl ?_
        refine dq1 rfl (fun a hA => wanted_yes hA rfl rfl rfl g102) (rd_index S128 rfl rfl hA0 (by omega) (by omega)) rfl ?_
        refine dq1 rfl (fun a hA => wanted_yes hA rfl rfl rfl g102) (rd_ldr C3 (by first | exact .head _) rfl (arr_get1 (i := a) (by first | omega | (simp only [swp_size, Array.size_setIfInBounds]; omega)))) rfl ?_
        refine deg rfl (fun a hA => wanted_yes hA rfl rfl rfl g102) (ef_pure rfl rfl K167 rfl (by exact c167 _ _)) (fun _ h => h.sb) ?_ d_stop
        refine dq rfl (rd_pick_tt rfl g102 rfl) rfl ?_
        refine d_end ?_
        refine f_then ?_
        refine c_cond rfl (fun h112 => ?_) (fun h112 => ?_)
        ·refine c_skip ?_
         refine f_then ?_
         refine c_block ?_
         refine c_reg ?_
         refine sq (rd_move rfl) rfl ?_
         refine sq (rd_addn (u) (1) rfl rfl rfl rfl (by omega)) rfl ?_
         refine sq (rd_assign rfl) rfl ?_
         refine s_end ?_
         refine f_blk ?_
         refine f_again (u + 1) (⟨by omega, by omega, by rw [hsq]; exact up_go (by omega) (by first | exact h112 | simpa using h112 | simpa [Sort.ltInt] using h112)⟩) (by omega) (by repeat constructor) (fun _ h => h.sb)
        ·refine c_exit ?_
         refine f_then_x ?_
         refine f_then_x ?_
         refine f_blk_x ?_
         have hst : u ≤ j → (fun x => Sort.ltInt x dk[a]!) dk[u]! = false := fun h => (by first | simpa using h112 | simpa [Sort.ltInt] using h112)
         refine f_cut (u) (⟨by omega, by omega, by rw [hsq]; exact up_stop hst, hst⟩) (by repeat constructor) (fun _ h => h.sb)
       ·try have g102p := of_decide_eq_false g102
        refine dq0 rfl (fun a hA => wanted_no hA rfl rfl rfl g102 rfl) rfl ?_
        refine dq0 rfl (fun a hA => wanted_no hA rfl rfl rfl g102 rfl) rfl ?_
        refine dq0 rfl (fun a hA => wanted_no hA rfl rfl rfl g102 rfl) rfl ?_
        refine dq0 rfl (fun a hA => wanted_no hA rfl rfl rfl g102 rfl) rfl ?_
        refine dq0 rfl (fun a hA => wanted_no hA rfl rfl rfl g102 rfl) rfl ?_
        refine dq0 rfl (fun a hA => wanted_no hA rfl rfl rfl g102 rfl) rfl ?_
        refine dq0 rfl (fun a hA => wanted_no hA rfl rfl rfl g102 rfl) rfl ?_
        refine dq0 rfl (fun a hA => wanted_no hA rfl rfl rfl g102 rfl) rfl ?_
        refine de0 rfl (fun a hA => wanted_no hA rfl rfl rfl g102 rfl) rfl (fun _ h => h.sb) ?_ d_stop
        refine dq rfl (rd_pick_ff rfl g102 rfl) rfl ?_
        refine d_end ?_
        refine f_then ?_
        refine c_lit_f rfl ?_
        refine c_exit ?_
        refine f_then_x ?_
        refine f_then_x ?_
        refine f_blk_x ?_
        have hst : u ≤ j → (fun x => Sort.ltInt x dk[a]!) dk[u]! = false := fun h => absurd h (by omega)
        refine f_cut (u) (⟨by omega, by omega, by rw [hsq]; exact up_stop hst, hst⟩) (by repeat constructor) (fun _ h => h.sb)
      ·rintro i2 ⟨hi21, hi22, hi2q, hi2s⟩
       refine c_meet2 (α := Nat) (fun v => i2 ≤ v + 1 ∧ v ≤ j ∧ Sort.scanDown (fun x => !Sort.ltInt x dk[a]!) dk i2 (j) = v ∧ (i2 ≤ v → (fun x => !Sort.ltInt x dk[a]!) dk[v]! = false)) (fun v => []) [.row _ _ A n cap _] (fun v => [(11, .int .i64 (v : Int))]) [(10, _), (0, _), (1, _), (8, _), (9, _)] (by repeat constructor) [] (fun _ h => h) ?_ ?_
       ·refine c_block ?_
        refine c_keep (L' := [(10, _), (11, _), (0, _), (1, _), (8, _), (9, _)]) (by repeat constructor) ?_
        refine c_for (α := Nat) (fun v => i2 ≤ v + 1 ∧ v ≤ j ∧ Sort.scanDown (fun x => !Sort.ltInt x dk[a]!) dk i2 (j) = Sort.scanDown (fun x => !Sort.ltInt x dk[a]!) dk i2 v) (fun v => []) [.row _ _ A n cap _] (fun v => [(11, .int .i64 (v : Int))]) [(10, _), (0, _), (1, _), (8, _), (9, _)] (fun v => v) (j) (⟨by omega, by omega, rfl⟩) (by repeat constructor) (fun _ h => h) ?_
        rintro v ⟨hs1, hs2, hsq⟩
        refine c_seq ?_
        refine c_seq ?_
        refine c_regd [.row _ _ A n cap _] (.q 0 (.q 1 (.q 2 (.q 3 (.q 4 (.q 5 (.q 6 (.q 7 (.q 8 (.q 9 (.q 10 (.q 11 (.alt 12 (.q 13 (.q 14 .done)) .stop))))))))))))) (by kernel_rfl) (by kernel_rfl) (by kernel_rfl) (by kernel_rfl) (fun _ h => h.sb) ?_
        refine dq rfl (rd_move rfl) rfl ?_
        refine dq rfl (rd_move rfl) rfl ?_
        refine dq rfl (rd_leq rfl rfl) rfl ?_
        refine dq rfl (rd_move rfl) rfl ?_
        refine d_split (d := 118) rfl (fun g118 => ?_) (fun g118 => ?_)
        ·try have g118p := of_decide_eq_true g118
         refine dq1 rfl (fun a hA => wanted_yes hA rfl rfl rfl g118) (rd_move rfl) rfl ?_
         refine dq1 rfl (fun a hA => wanted_yes hA rfl rfl rfl g118) (rd_move rfl) rfl ?_
         refine dq1 rfl (fun a hA => wanted_yes hA rfl rfl rfl g118) (rd_index S128 rfl rfl hA0 (by omega) (by omega)) rfl ?_
         refine dq1 rfl (fun a hA => wanted_yes hA rfl rfl rfl g118) (rd_ldr C3 (by first | exact .head _) rfl (arr_get1 (i := v) (by first | omega | (simp only [swp_size, Array.size_setIfInBounds]; omega)))) rfl ?_
         refine dq1 rfl (fun a hA => wanted_yes hA rfl rfl rfl g118) (rd_move rfl) rfl ?_
         refine dq1 rfl (fun a hA => wanted_yes hA rfl rfl rfl g118) (rd_move rfl) rfl ?_
         refine dq1 rfl (fun a hA => wanted_yes hA rfl rfl rfl g118) (rd_index S128 rfl rfl hA0 (by omega) (by omega)) rfl ?_
         refine dq1 rfl (fun a hA => wanted_yes hA rfl rfl rfl g118) (rd_ldr C3 (by first | exact .head _) rfl (arr_get1 (i := a) (by first | omega | (simp only [swp_size, Array.size_setIfInBounds]; omega)))) rfl ?_
         refine deg rfl (fun a hA => wanted_yes hA rfl rfl rfl g118) (ef_pure rfl rfl K167 rfl (by exact c167 _ _)) (fun _ h => h.sb) ?_ d_stop
         refine dq1 rfl (fun a hA => wanted_yes hA rfl rfl rfl g118) ((by first | exact rd_notd rfl | exact rd_not rfl)) rfl ?_
         refine dq rfl (rd_pick_tt rfl g118 rfl) rfl ?_
         refine d_end ?_
         refine f_then ?_
         refine c_cond rfl (fun h129 => ?_) (fun h129 => ?_)
         ·refine c_skip ?_
          refine f_then ?_
          refine c_block ?_
          refine c_reg ?_
          refine sq (rd_move rfl) rfl ?_
          refine sq (rd_subn (v) (1) rfl rfl rfl rfl (by omega) (by omega)) rfl ?_
          refine sq (rd_assign rfl) rfl ?_
          refine s_end ?_
          refine f_blk ?_
          refine f_again (v - 1) (⟨by omega, by omega, by rw [hsq]; exact down_go (by omega) (by omega) (by first | exact h129 | simpa using h129 | simpa [Sort.ltInt] using h129)⟩) (by omega) (by repeat constructor) (fun _ h => h.sb)
         ·refine c_exit ?_
          refine f_then_x ?_
          refine f_then_x ?_
          refine f_blk_x ?_
          have hst : i2 ≤ v → (fun x => !Sort.ltInt x dk[a]!) dk[v]! = false := fun h => (by first | simpa using h129 | simpa [Sort.ltInt] using h129)
          refine f_cut (v) (⟨by omega, by omega, by rw [hsq]; exact down_stop hst, hst⟩) (by repeat constructor) (fun _ h => h.sb)
        ·try have g118p := of_decide_eq_false g118
         refine dq0 rfl (fun a hA => wanted_no hA rfl rfl rfl g118 rfl) rfl ?_
         refine dq0 rfl (fun a hA => wanted_no hA rfl rfl rfl g118 rfl) rfl ?_
         refine dq0 rfl (fun a hA => wanted_no hA rfl rfl rfl g118 rfl) rfl ?_
         refine dq0 rfl (fun a hA => wanted_no hA rfl rfl rfl g118 rfl) rfl ?_
         refine dq0 rfl (fun a hA => wanted_no hA rfl rfl rfl g118 rfl) rfl ?_
         refine dq0 rfl (fun a hA => wanted_no hA rfl rfl rfl g118 rfl) rfl ?_
         refine dq0 rfl (fun a hA => wanted_no hA rfl rfl rfl g118 rfl) rfl ?_
         refine dq0 rfl (fun a hA => wanted_no hA rfl rfl rfl g118 rfl) rfl ?_
         refine de0 rfl (fun a hA => wanted_no hA rfl rfl rfl g118 rfl) rfl (fun _ h => h.sb) ?_ d_stop
         refine dq0 rfl (fun a hA => wanted_no hA rfl rfl rfl g118 rfl) rfl ?_
         refine dq rfl (rd_pick_ff rfl g118 rfl) rfl ?_
         refine d_end ?_
         refine f_then ?_
         refine c_lit_f rfl ?_
         refine c_exit ?_
         refine f_then_x ?_
         refine f_then_x ?_
         refine f_blk_x ?_
         have hst : i2 ≤ v → (fun x => !Sort.ltInt x dk[a]!) dk[v]! = false := fun h => absurd h (by omega)
         refine f_cut (v) (⟨by omega, by omega, by rw [hsq]; exact down_stop hst, hst⟩) (by repeat constructor) (fun _ h => h.sb)
       ·rintro j2 ⟨hj21, hj22, hj2q, hj2s⟩
        refine c_seq ?_
        refine c_seq ?_
        refine c_reg ?_
        refine sq (rd_move rfl) rfl ?_
        refine sq (rd_move rfl) rfl ?_
        refine sq (rd_gtr rfl rfl) rfl ?_
        refine s_end ?_
        refine f_then ?_
        refine c_if rfl (fun h134 => ?_) (fun h134 => ?_)
        ·refine c_exit ?_
         refine f_then_x ?_
         refine f_blk_y rfl ?_
         refine f_then_x ?_
         refine f_blk_x ?_
         refine f_then ?_
         refine c_meet2 (α := Unit) (fun x => True) (fun x => [.row 3 1 A n cap (ints (Sort.swp dk j2 a).toList)]) [] (fun x => []) [(11, _), (8, _), (9, _)] (by repeat constructor) [.row _ _ A n cap _] (fun _ h => h) ?_ ?_
         ·refine c_regd [] (.q 0 (.q 1 (.q 2 (.q 3 (.q 4 (.q 5 (.q 6 (.q 8 (.q 9 (.q 10 (.alt 7 (.alt 11 (.q 12 (.alt 13 (.q 14 (.alt 15 .done .stop)) .stop)) .stop) (.alt 11 (.alt 7 (.q 12 (.alt 13 (.q 14 (.alt 15 .done .stop)) .stop)) .stop) .stop)))))))))))) (by kernel_rfl) (by kernel_rfl) (by kernel_rfl) (by kernel_rfl) (fun _ h => h.sb) ?_
          refine dq rfl (rd_move rfl) rfl ?_
          refine dq rfl (rd_move rfl) rfl ?_
          refine dq rfl (rd_move rfl) rfl ?_
          refine dq rfl (rd_move rfl) rfl ?_
          refine dq rfl (rd_move rfl) rfl ?_
          refine dq rfl (rd_move rfl) rfl ?_
          refine dq rfl (rd_index S128 rfl rfl hA0 (by omega) (by omega)) rfl ?_
          refine dq rfl (rd_move rfl) rfl ?_
          refine dq rfl (rd_move rfl) rfl ?_
          refine dq rfl (rd_index S128 rfl rfl hA0 (by omega) (by omega)) rfl ?_
          refine de rfl rfl (ef_quiet (rd_ldr C3 (by first | exact .head _) rfl (arr_get1 (i := a) (by first | omega | (simp only [swp_size, Array.size_setIfInBounds]; omega)))) rfl) (fun _ h => h.sb) ?_ ?_
          ·refine de rfl rfl (ef_quiet (rd_ldr C3 (by first | exact .head _) rfl (arr_get1 (i := j2) (by first | omega | (simp only [swp_size, Array.size_setIfInBounds]; omega)))) rfl) (fun _ h => h.sb) ?_ d_stop
           refine dq rfl (rd_index S128 rfl rfl hA0 (by omega) (by omega)) rfl ?_
           refine de rfl rfl (ef_storei (j2) Sz3 rfl rfl rfl (by omega) (by first | omega | (simp only [swp_size, Array.size_setIfInBounds]; omega))) (fun _ h => h.sb) ?_ d_stop
           refine dq rfl (rd_index S128 rfl rfl hA0 (by omega) (by omega)) rfl ?_
           refine de rfl rfl (ef_storei (a) Sz3 rfl rfl rfl (by omega) (by first | omega | (simp only [swp_size, Array.size_setIfInBounds]; omega))) (fun _ h => h.sb) ?_ d_stop
           refine d_end ?_
           refine f_cut (()) (trivial) (by repeat constructor) (fun _ h => h.sb)
          refine de rfl rfl (ef_quiet (rd_ldr C3 (by first | exact .head _) rfl (arr_get1 (i := j2) (by first | omega | (simp only [swp_size, Array.size_setIfInBounds]; omega)))) rfl) (fun _ h => h.sb) ?_ ?_
          ·refine de rfl rfl (ef_quiet (rd_ldr C3 (by first | exact .head _) rfl (arr_get1 (i := a) (by first | omega | (simp only [swp_size, Array.size_setIfInBounds]; omega)))) rfl) (fun _ h => h.sb) ?_ d_stop
           refine dq rfl (rd_index S128 rfl rfl hA0 (by omega) (by omega)) rfl ?_
           refine de rfl rfl (ef_storei (j2) Sz3 rfl rfl rfl (by omega) (by first | omega | (simp only [swp_size, Array.size_setIfInBounds]; omega))) (fun _ h => h.sb) ?_ d_stop
           refine dq rfl (rd_index S128 rfl rfl hA0 (by omega) (by omega)) rfl ?_
           refine de rfl rfl (ef_storei (a) Sz3 rfl rfl rfl (by omega) (by first | omega | (simp only [swp_size, Array.size_setIfInBounds]; omega))) (fun _ h => h.sb) ?_ d_stop
           refine d_end ?_
           refine f_cut (()) (trivial) (by repeat constructor) (fun _ h => h.sb)
          exact d_stop
         ·rintro _ _
          refine c_seq ?_
          refine c_reg ?_
          refine sq (rd_move rfl) rfl ?_
          refine sq (rd_assign rfl) rfl ?_
          refine sq (rd_assign rfl) rfl ?_
          refine s_end ?_
          refine f_then ?_
          refine c_ret ?_
          refine f_ret rfl (.tmp rfl (.tmp rfl .nil)) ?_
          exact fun w' hS => ⟨_, rfl, (j2, false, Sort.swp dk j2 a), rfl, par_go hde hi1q hj1q (by omega) (hoq.trans (pl_done hi2q hj2q (by omega))), hS⟩
        ·refine c_skip ?_
         refine f_then ?_
         have hlt : i2 < j2 := by
          rcases Nat.lt_or_ge i2 j2 with h | h
          ·exact h
          ·have e : i2 = j2 := by omega
           have e1 := hi2s (by omega)
           have e2 := hj2s (by omega)
           rw [e] at e1
           simp [e1] at e2
         refine c_meet2 (α := Unit) (fun x => True) (fun x => [.row 3 1 A n cap (ints (Sort.swp dk i2 j2).toList)]) [] (fun x => []) [(11, _), (10, _), (0, _), (1, _), (8, _), (9, _), (132, _), (133, _), (134, _)] (by repeat constructor) [.row _ _ A n cap _] (fun _ h => h) ?_ ?_
         ·refine c_regd [] (.q 0 (.q 1 (.q 2 (.q 3 (.q 4 (.q 5 (.q 6 (.q 8 (.q 9 (.q 10 (.alt 7 (.alt 11 (.q 12 (.alt 13 (.q 14 (.alt 15 .done .stop)) .stop)) .stop) (.alt 11 (.alt 7 (.q 12 (.alt 13 (.q 14 (.alt 15 .done .stop)) .stop)) .stop) .stop)))))))))))) (by kernel_rfl) (by kernel_rfl) (by kernel_rfl) (by kernel_rfl) (fun _ h => h.sb) ?_
          refine dq rfl (rd_move rfl) rfl ?_
          refine dq rfl (rd_move rfl) rfl ?_
          refine dq rfl (rd_move rfl) rfl ?_
          refine dq rfl (rd_move rfl) rfl ?_
          refine dq rfl (rd_move rfl) rfl ?_
          refine dq rfl (rd_move rfl) rfl ?_
          refine dq rfl (rd_index S128 rfl rfl hA0 (by omega) (by omega)) rfl ?_
          refine dq rfl (rd_move rfl) rfl ?_
          refine dq rfl (rd_move rfl) rfl ?_
          refine dq rfl (rd_index S128 rfl rfl hA0 (by omega) (by omega)) rfl ?_
          refine de rfl rfl (ef_quiet (rd_ldr C3 (by first | exact .head _) rfl (arr_get1 (i := j2) (by first | omega | (simp only [swp_size, Array.size_setIfInBounds]; omega)))) rfl) (fun _ h => h.sb) ?_ ?_
          ·refine de rfl rfl (ef_quiet (rd_ldr C3 (by first | exact .head _) rfl (arr_get1 (i := i2) (by first | omega | (simp only [swp_size, Array.size_setIfInBounds]; omega)))) rfl) (fun _ h => h.sb) ?_ d_stop
           refine dq rfl (rd_index S128 rfl rfl hA0 (by omega) (by omega)) rfl ?_
           refine de rfl rfl (ef_storei (i2) Sz3 rfl rfl rfl (by omega) (by first | omega | (simp only [swp_size, Array.size_setIfInBounds]; omega))) (fun _ h => h.sb) ?_ d_stop
           refine dq rfl (rd_index S128 rfl rfl hA0 (by omega) (by omega)) rfl ?_
           refine de rfl rfl (ef_storei (j2) Sz3 rfl rfl rfl (by omega) (by first | omega | (simp only [swp_size, Array.size_setIfInBounds]; omega))) (fun _ h => h.sb) ?_ d_stop
           refine d_end ?_
           refine f_cut (()) (trivial) (by repeat constructor) (fun _ h => h.sb)
          refine de rfl rfl (ef_quiet (rd_ldr C3 (by first | exact .head _) rfl (arr_get1 (i := i2) (by first | omega | (simp only [swp_size, Array.size_setIfInBounds]; omega)))) rfl) (fun _ h => h.sb) ?_ ?_
          ·refine de rfl rfl (ef_quiet (rd_ldr C3 (by first | exact .head _) rfl (arr_get1 (i := j2) (by first | omega | (simp only [swp_size, Array.size_setIfInBounds]; omega)))) rfl) (fun _ h => h.sb) ?_ d_stop
           refine dq rfl (rd_index S128 rfl rfl hA0 (by omega) (by omega)) rfl ?_
           refine de rfl rfl (ef_storei (i2) Sz3 rfl rfl rfl (by omega) (by first | omega | (simp only [swp_size, Array.size_setIfInBounds]; omega))) (fun _ h => h.sb) ?_ d_stop
           refine dq rfl (rd_index S128 rfl rfl hA0 (by omega) (by omega)) rfl ?_
           refine de rfl rfl (ef_storei (j2) Sz3 rfl rfl rfl (by omega) (by first | omega | (simp only [swp_size, Array.size_setIfInBounds]; omega))) (fun _ h => h.sb) ?_ d_stop
           refine d_end ?_
           refine f_cut (()) (trivial) (by repeat constructor) (fun _ h => h.sb)
          exact d_stop
         ·rintro _ _
          refine c_seq ?_
          refine c_reg ?_
          refine sq (rd_move rfl) rfl ?_
          refine sq (rd_addn (i2) (1) rfl rfl rfl rfl (by omega)) rfl ?_
          refine sq (rd_assign rfl) rfl ?_
          refine s_end ?_
          refine f_then ?_
          refine c_reg ?_
          refine sq (rd_move rfl) rfl ?_
          refine sq (rd_subn (j2) (1) rfl rfl rfl rfl (by omega) (by omega)) rfl ?_
          refine sq (rd_assign rfl) rfl ?_
          refine s_end ?_
          refine f_blk ?_
          refine f_again ((i2 + 1, j2 - 1, Sort.swp dk i2 j2)) (⟨by omega, by omega, by omega, by simpa using hdk, by rw [hoq]; exact pl_go hi2q hj2q (by omega) (by omega)⟩) (by show j2 - 1 + 1 - (i2 + 1) < j + 1 - i; omega) (by repeat constructor) (fun _ h => h.sb)

end Go.Proofs.YtfccnoccfhgcbaaGreatDoor
