/- What the laws on views share: each function of the program that they reach, what it computes; no conditions beyond those that each theorem states. -/
import Derived.Test.YtfccnoccfhgcbaaGreatDoorPkC
import Derived.Test.YtfccnoccfhgcbaaGreatDoorProg
import Derived.RangeFuncRecord
import Derived.RangeFuncSeq
import Derived.Lib.SliceRun
import Derived.Laws.MakeOwn
set_option linter.unusedVariables false
set_option linter.unusedSimpArgs false
set_option maxRecDepth 20000
set_option maxHeartbeats 400000
namespace Go.Proofs.YtfccnoccfhgcbaaGreatDoor
open Go Go.RowKit
theorem K155 : callTy Tryz.prog 155 := by unfold callTy; kernel_rfl
theorem K125 : callTy Tryz.prog 125 := by unfold callTy; kernel_rfl
theorem c125 : ∀ (mm : Nat) (w : World) (A : Option Addr) (cap n : Nat) (d : Array SN) (g : Nat) (cmp : SN → SN → Int) (hg : callTy Tryz.prog g) (hcmp : ∀ x y, Pu Tryz.prog g [.agg (SN.enc x).toArray, .agg (SN.enc y).toArray] (.int .i64 (cmp x y))) (hd : d.size = n) (hn : n ≤ 1000000) (lq : SN → SN → Bool) (hO : Sort.SWO lq) (a m b : Nat) (ham : a < m) (hmb : m < b) (hb : b ≤ n) (hs1 : Sort.SortedIn lq a m d) (hs2 : Sort.SortedIn lq m b d) (hX : ∀ i j, a ≤ i → i < m → m ≤ j → j < b → ltOf cmp d[j]! d[i]! = lq d[j]! d[i]!) (hmm : b - a < mm) (hS : St w (fpOf [.row 64 4 A n cap (flat SN.enc d.toList)]) [.row 64 4 A n cap (flat SN.enc d.toList)] w), Calls Tryz.prog 125 [.slice A n cap, .int .i64 (a : Int), .int .i64 (m : Int), .int .i64 (b : Int), .func (.func g) #[] #[]].toArray w (RtE fun v w' => ∃ x : Array SN, v = (fun _ => .tuple #[]) x ∧ (fun x => x.size = n ∧ Sort.PermIn a b d x ∧ Sort.SortedIn lq a b x) x ∧ St w (fpOf [.row 64 4 A n cap (flat SN.enc d.toList)]) ((fun x => [.row 64 4 A n cap (flat SN.enc x.toList)]) x) w') := by
 intro mm
 induction mm with
 | zero =>
  intro w A cap n d g cmp hg hcmp hd hn lq hO a m b ham hmb hb hs1 hs2 hX hmm hS
  exact absurd hmm (Nat.not_lt_zero _)
 | succ mm ih =>
  intro w A cap n d g cmp hg hcmp hd hn lq hO a m b ham hmb hb hs1 hs2 hX hmm hS
  refine enter Tryz.func125 rfl Tryz.ntmps125 rfl hS ?_
  refine c_seq ?_
  refine c_seq ?_
  have hA0 : 0 < n → plainA A := fun h => ((row_know (List.mem_cons_self ..) w hS).2.2.2 h).1
  refine c_reg ?_
  refine sq (rd_move rfl) rfl ?_
  refine sq (rd_move rfl) rfl ?_
  refine sq (rd_subn (m) (a) rfl rfl rfl rfl (by omega) (by omega)) rfl ?_
  refine sq (rd_eql rfl rfl) rfl ?_
  refine s_end ?_
  refine f_then ?_
  refine c_if rfl (fun h28 => ?_) (fun h28 => ?_)
  ·refine c_seq ?_
   refine c_reg ?_
   refine sq (rd_move rfl) rfl ?_
   refine sq (rd_assign rfl) rfl ?_
   refine s_end ?_
   refine f_then ?_
   refine c_seq ?_
   refine c_reg ?_
   refine sq (rd_move rfl) rfl ?_
   refine sq (rd_assign rfl) rfl ?_
   refine s_end ?_
   refine f_then ?_
   refine c_seq ?_
   refine c_block ?_
   refine c_keep (L' := [(0, _), (1, _), (2, _), (3, _), (4, _), (10, _), (11, _)]) (by repeat constructor) ?_
   refine c_for (α := Nat × Nat) (fun ⟨i, j⟩ => m ≤ i ∧ i ≤ j ∧ j ≤ b ∧ (∀ t, m ≤ t → t < i → lq d[t]! d[a]! = true) ∧ (∀ t, j ≤ t → t < b → lq d[t]! d[a]! = false)) (fun ⟨i, j⟩ => []) [.row _ _ A n cap _] (fun ⟨i, j⟩ => [(10, .int .i64 (i : Int)), (11, .int .i64 (j : Int))]) [(0, _), (1, _), (2, _), (3, _), (4, _)] (fun ⟨i, j⟩ => j - i) ((m, b)) (⟨Nat.le_refl _, by omega, Nat.le_refl _, fun t _ _ => by omega, fun t _ _ => by omega⟩) (by repeat constructor) (fun _ h => h) ?_
   rintro ⟨i, j⟩ ⟨hi1, hij, hj1, hlo, hhi⟩
   refine c_seq ?_
   refine c_seq ?_
   refine c_reg ?_
   refine sq (rd_move rfl) rfl ?_
   refine sq (rd_move rfl) rfl ?_
   refine sq (rd_lss rfl rfl) rfl ?_
   refine s_end ?_
   refine f_then ?_
   refine c_if rfl (fun h33 => ?_) (fun h33 => ?_)
   ·refine c_skip ?_
    refine f_then ?_
    refine c_block ?_
    refine c_seq ?_
    refine c_reg ?_
    refine sq (rd_move rfl) rfl ?_
    refine sq (rd_move rfl) rfl ?_
    refine sq (rd_addn (i) (j) rfl rfl rfl rfl (by omega)) rfl ?_
    refine sq (rd_conv ⟨_, I3⟩ I133 rfl (by first | exact wrap_u64 (by omega) | exact rfl)) rfl ?_
    refine sq (rd_shr rfl rfl (by omega) (shr1 ((i + j)))) rfl ?_
    refine sq (rd_conv ⟨_, I133⟩ I3 rfl (by first | exact wrap_i64 (by omega) | exact rfl)) rfl ?_
    refine sq (rd_assign rfl) rfl ?_
    refine s_end ?_
    refine f_then ?_
    refine c_seq ?_
    refine c_regd [.row _ _ A n cap _] (.q 0 (.q 1 (.q 2 (.q 3 (.q 4 (.q 5 (.q 6 (.q 7 (.q 8 (.alt 9 (.q 10 .done) .stop)))))))))) (by kernel_rfl) (by kernel_rfl) (by kernel_rfl) (by kernel_rfl) (fun _ h => h.sb) ?_
    refine dq rfl (rd_move rfl) rfl ?_
    refine dq rfl (rd_move rfl) rfl ?_
    refine dq rfl (rd_move rfl) rfl ?_
    refine dq rfl (rd_index S62 rfl rfl hA0 (by omega) (by omega)) rfl ?_
    refine dq rfl (rd_ldsr A64 (by first | exact .head _) rfl (arr_part (f := SN.enc) SN.enc_len (i := ((i + j) / 2)) (by first | omega | (simp only [swp_size, Array.size_setIfInBounds]; omega)))) rfl ?_
    refine dq rfl (rd_move rfl) rfl ?_
    refine dq rfl (rd_move rfl) rfl ?_
    refine dq rfl (rd_index S62 rfl rfl hA0 (by omega) (by omega)) rfl ?_
    refine dq rfl (rd_ldsr A64 (by first | exact .head _) rfl (arr_part (f := SN.enc) SN.enc_len (i := a) (by first | omega | (simp only [swp_size, Array.size_setIfInBounds]; omega)))) rfl ?_
    refine de rfl rfl (ef_pure rfl rfl hg rfl (by exact hcmp _ _)) (fun _ h => h.sb) ?_ d_stop
    refine dq rfl (rd_lss rfl rfl) rfl ?_
    refine d_end ?_
    refine f_then ?_
    refine c_cond rfl (fun h50 => ?_) (fun h50 => ?_)
    ·refine c_reg ?_
     refine sq (rd_move rfl) rfl ?_
     refine sq (rd_addn (((i + j) / 2)) (1) rfl rfl rfl rfl (by omega)) rfl ?_
     refine sq (rd_assign rfl) rfl ?_
     refine s_end ?_
     refine f_blk ?_
     have hc : lq d[((i + j) / 2)]! d[a]! = true := (hX a ((i + j) / 2) (by omega) (by omega) (by omega) (by omega)).symm.trans h50
     refine f_again ((((i + j) / 2) + 1, j)) (⟨by omega, by omega, by omega, fun t h1 h2 => ahead_lt hO hs2 (by omega) (by omega) hc t h1 (by omega), hhi⟩) (by show j - (((i + j) / 2) + 1) < j - i; omega) (by repeat constructor) (fun _ h => h.sb)
    ·refine c_reg ?_
     refine sq (rd_move rfl) rfl ?_
     refine sq (rd_assign rfl) rfl ?_
     refine s_end ?_
     refine f_blk ?_
     have hc : lq d[((i + j) / 2)]! d[a]! = false := (hX a ((i + j) / 2) (by omega) (by omega) (by omega) (by omega)).symm.trans h50
     refine f_again ((i, ((i + j) / 2))) (⟨by omega, by omega, by omega, hlo, fun t h1 h2 => behind_ge hO hs2 (by omega) hc t h1 h2⟩) (by show ((i + j) / 2) - i < j - i; omega) (by repeat constructor) (fun _ h => h.sb)
   ·refine c_exit ?_
    refine f_then_x ?_
    refine f_then_x ?_
    refine f_blk_x ?_
    refine f_then ?_
    refine c_seq ?_
    refine c_seq ?_
    refine c_reg ?_
    refine sq (rd_move rfl) rfl ?_
    refine sq (rd_assign rfl) rfl ?_
    refine s_end ?_
    refine f_then ?_
    refine c_block ?_
    refine c_keep (L' := [(10, _), (0, _), (1, _), (2, _), (3, _), (4, _), (13, _)]) (by repeat constructor) ?_
    refine c_for (α := Nat × Array SN) (fun ⟨k, dk⟩ => a ≤ k ∧ k + 1 ≤ i ∧ dk.size = n ∧ Sort.PermIn a b d dk ∧ ∀ t, dk[t]! = rotv d a (a + 1) (k + 1) t) (fun ⟨k, dk⟩ => [.row 64 4 A n cap (flat SN.enc dk.toList)]) [] (fun ⟨k, dk⟩ => [(13, .int .i64 (k : Int))]) [(10, _), (0, _), (1, _), (2, _), (3, _), (4, _)] (fun ⟨k, dk⟩ => i - k) ((a, d)) (⟨Nat.le_refl _, by omega, hd, Sort.permIn_refl _ _ _, rot_none (.inr rfl)⟩) (by repeat constructor) (fun _ h => h) ?_
    rintro ⟨k, dk⟩ ⟨hk1, hk2, hdk, hp, hv⟩
    refine c_seq ?_
    refine c_seq ?_
    refine c_reg ?_
    refine sq (rd_move rfl) rfl ?_
    refine sq (rd_move rfl) rfl ?_
    refine sq (rd_subn (i) (1) rfl rfl rfl rfl (by omega) (by omega)) rfl ?_
    refine sq (rd_lss rfl rfl) rfl ?_
    refine s_end ?_
    refine f_then ?_
    refine c_if rfl (fun h58 => ?_) (fun h58 => ?_)
    ·refine c_skip ?_
     refine f_then ?_
     refine c_seq ?_
     refine c_block ?_
     refine c_regd [] (.q 0 (.q 1 (.q 2 (.q 3 (.q 4 (.q 5 (.q 6 (.q 7 (.q 8 (.q 10 (.q 11 (.q 12 (.alt 9 (.alt 13 (.q 14 (.alt 15 (.q 16 (.alt 17 .done .stop)) .stop)) .stop) (.alt 13 (.alt 9 (.q 14 (.alt 15 (.q 16 (.alt 17 .done .stop)) .stop)) .stop) .stop)))))))))))))) (by kernel_rfl) (by kernel_rfl) (by kernel_rfl) (by kernel_rfl) (fun _ h => h.sb) ?_
     refine dq rfl (rd_move rfl) rfl ?_
     refine dq rfl (rd_move rfl) rfl ?_
     refine dq rfl (rd_move rfl) rfl ?_
     refine dq rfl (rd_move rfl) rfl ?_
     refine dq rfl (rd_addn (k) (1) rfl rfl rfl rfl (by omega)) rfl ?_
     refine dq rfl (rd_move rfl) rfl ?_
     refine dq rfl (rd_move rfl) rfl ?_
     refine dq rfl (rd_addn (k) (1) rfl rfl rfl rfl (by omega)) rfl ?_
     refine dq rfl (rd_index S62 rfl rfl hA0 (by omega) (by omega)) rfl ?_
     refine dq rfl (rd_move rfl) rfl ?_
     refine dq rfl (rd_move rfl) rfl ?_
     refine dq rfl (rd_index S62 rfl rfl hA0 (by omega) (by omega)) rfl ?_
     refine de rfl rfl (ef_quiet (rd_ldsr A64 (by first | exact .head _) rfl (arr_part (f := SN.enc) SN.enc_len (i := (k + 1)) (by first | omega | (simp only [swp_size, Array.size_setIfInBounds]; omega)))) rfl) (fun _ h => h.sb) ?_ ?_
     ·refine de rfl rfl (ef_quiet (rd_ldsr A64 (by first | exact .head _) rfl (arr_part (f := SN.enc) SN.enc_len (i := k) (by first | omega | (simp only [swp_size, Array.size_setIfInBounds]; omega)))) rfl) (fun _ h => h.sb) ?_ d_stop
      refine dq rfl (rd_index S62 rfl rfl hA0 (by omega) (by omega)) rfl ?_
      refine de rfl rfl (ef_storea SN.enc (k) Sz64 rfl rfl rfl SN.enc_len SN.enc_cells (by decide) (by omega) (by first | omega | (simp only [swp_size, Array.size_setIfInBounds]; omega))) (fun _ h => h.sb) ?_ d_stop
      refine dq rfl (rd_index S62 rfl rfl hA0 (by omega) (by omega)) rfl ?_
      refine de rfl rfl (ef_storea SN.enc ((k + 1)) Sz64 rfl rfl rfl SN.enc_len SN.enc_cells (by decide) (by omega) (by first | omega | (simp only [swp_size, Array.size_setIfInBounds]; omega))) (fun _ h => h.sb) ?_ d_stop
      refine d_end ?_
      refine f_blk ?_
      refine f_then ?_
      refine c_reg ?_
      refine sq (rd_move rfl) rfl ?_
      refine sq (rd_addn (k) (1) rfl rfl rfl rfl (by omega)) rfl ?_
      refine sq (rd_assign rfl) rfl ?_
      refine s_end ?_
      refine f_again ((k + 1, Sort.swp dk k (k + 1))) (⟨by omega, by omega, by simpa using hdk, Sort.permIn_trans _ _ _ _ _ hp (Sort.swp_permIn _ _ _ _ _ (by omega) (by omega) (by omega) (by omega) (by omega)), rot_left hv (by omega) (by omega)⟩) (by show i - (k + 1) < i - k; omega) (by repeat constructor) (fun _ h => h.sb)
     refine de rfl rfl (ef_quiet (rd_ldsr A64 (by first | exact .head _) rfl (arr_part (f := SN.enc) SN.enc_len (i := k) (by first | omega | (simp only [swp_size, Array.size_setIfInBounds]; omega)))) rfl) (fun _ h => h.sb) ?_ ?_
     ·refine de rfl rfl (ef_quiet (rd_ldsr A64 (by first | exact .head _) rfl (arr_part (f := SN.enc) SN.enc_len (i := (k + 1)) (by first | omega | (simp only [swp_size, Array.size_setIfInBounds]; omega)))) rfl) (fun _ h => h.sb) ?_ d_stop
      refine dq rfl (rd_index S62 rfl rfl hA0 (by omega) (by omega)) rfl ?_
      refine de rfl rfl (ef_storea SN.enc (k) Sz64 rfl rfl rfl SN.enc_len SN.enc_cells (by decide) (by omega) (by first | omega | (simp only [swp_size, Array.size_setIfInBounds]; omega))) (fun _ h => h.sb) ?_ d_stop
      refine dq rfl (rd_index S62 rfl rfl hA0 (by omega) (by omega)) rfl ?_
      refine de rfl rfl (ef_storea SN.enc ((k + 1)) Sz64 rfl rfl rfl SN.enc_len SN.enc_cells (by decide) (by omega) (by first | omega | (simp only [swp_size, Array.size_setIfInBounds]; omega))) (fun _ h => h.sb) ?_ d_stop
      refine d_end ?_
      refine f_blk ?_
      refine f_then ?_
      refine c_reg ?_
      refine sq (rd_move rfl) rfl ?_
      refine sq (rd_addn (k) (1) rfl rfl rfl rfl (by omega)) rfl ?_
      refine sq (rd_assign rfl) rfl ?_
      refine s_end ?_
      refine f_again ((k + 1, Sort.swp dk k (k + 1))) (⟨by omega, by omega, by simpa using hdk, Sort.permIn_trans _ _ _ _ _ hp (Sort.swp_permIn _ _ _ _ _ (by omega) (by omega) (by omega) (by omega) (by omega)), rot_left hv (by omega) (by omega)⟩) (by show i - (k + 1) < i - k; omega) (by repeat constructor) (fun _ h => h.sb)
     exact d_stop
    ·refine c_exit ?_
     refine f_then_x ?_
     refine f_then_x ?_
     refine f_blk_x ?_
     refine f_then ?_
     refine c_ret ?_
     refine f_then_r ?_
     refine f_ret rfl .nil ?_
     have hm1 : m = a + 1 := by omega
     have hk3 : k + 1 = i := by omega
     have hsort : Sort.SortedIn lq a b dk := case_one hO hm1 hi1 (by omega) hs2 hlo (fun t h1 h2 => hhi t (by omega) h2) (fun t => by rw [hm1, ← hk3]; exact hv t)
     exact fun w' hS => ⟨_, rfl, dk, rfl, ⟨hdk, hp, hsort⟩, hS⟩
  ·refine c_skip ?_
   refine f_then ?_
   refine c_seq ?_
   refine c_seq ?_
   refine c_reg ?_
   refine sq (rd_move rfl) rfl ?_
   refine sq (rd_move rfl) rfl ?_
   refine sq (rd_subn (b) (m) rfl rfl rfl rfl (by omega) (by omega)) rfl ?_
   refine sq (rd_eql rfl rfl) rfl ?_
   refine s_end ?_
   refine f_then ?_
   refine c_if rfl (fun h80 => ?_) (fun h80 => ?_)
   ·refine c_seq ?_
    refine c_reg ?_
    refine sq (rd_move rfl) rfl ?_
    refine sq (rd_assign rfl) rfl ?_
    refine s_end ?_
    refine f_then ?_
    refine c_seq ?_
    refine c_reg ?_
    refine sq (rd_move rfl) rfl ?_
    refine sq (rd_assign rfl) rfl ?_
    refine s_end ?_
    refine f_then ?_
    refine c_seq ?_
    refine c_block ?_
    refine c_keep (L' := [(0, _), (1, _), (2, _), (3, _), (4, _), (14, _), (15, _)]) (by repeat constructor) ?_
    refine c_for (α := Nat × Nat) (fun ⟨i, j⟩ => a ≤ i ∧ i ≤ j ∧ j ≤ m ∧ (∀ t, a ≤ t → t < i → lq d[m]! d[t]! = false) ∧ (∀ t, j ≤ t → t < m → lq d[m]! d[t]! = true)) (fun ⟨i, j⟩ => []) [.row _ _ A n cap _] (fun ⟨i, j⟩ => [(14, .int .i64 (i : Int)), (15, .int .i64 (j : Int))]) [(0, _), (1, _), (2, _), (3, _), (4, _)] (fun ⟨i, j⟩ => j - i) ((a, m)) (⟨Nat.le_refl _, by omega, Nat.le_refl _, fun t _ _ => by omega, fun t _ _ => by omega⟩) (by repeat constructor) (fun _ h => h) ?_
    rintro ⟨i, j⟩ ⟨hi1, hij, hj1, hlo, hhi⟩
    refine c_seq ?_
    refine c_seq ?_
    refine c_reg ?_
    refine sq (rd_move rfl) rfl ?_
    refine sq (rd_move rfl) rfl ?_
    refine sq (rd_lss rfl rfl) rfl ?_
    refine s_end ?_
    refine f_then ?_
    refine c_if rfl (fun h85 => ?_) (fun h85 => ?_)
    ·refine c_skip ?_
     refine f_then ?_
     refine c_block ?_
     refine c_seq ?_
     refine c_reg ?_
     refine sq (rd_move rfl) rfl ?_
     refine sq (rd_move rfl) rfl ?_
     refine sq (rd_addn (i) (j) rfl rfl rfl rfl (by omega)) rfl ?_
     refine sq (rd_conv ⟨_, I3⟩ I133 rfl (by first | exact wrap_u64 (by omega) | exact rfl)) rfl ?_
     refine sq (rd_shr rfl rfl (by omega) (shr1 ((i + j)))) rfl ?_
     refine sq (rd_conv ⟨_, I133⟩ I3 rfl (by first | exact wrap_i64 (by omega) | exact rfl)) rfl ?_
     refine sq (rd_assign rfl) rfl ?_
     refine s_end ?_
     refine f_then ?_
     refine c_seq ?_
     refine c_regd [.row _ _ A n cap _] (.q 0 (.q 1 (.q 2 (.q 3 (.q 4 (.q 5 (.q 6 (.q 7 (.q 8 (.alt 9 (.q 10 (.q 11 .done)) .stop)))))))))) (by kernel_rfl) (by kernel_rfl) (by kernel_rfl) (by kernel_rfl) (fun _ h => h.sb) ?_
     refine dq rfl (rd_move rfl) rfl ?_
     refine dq rfl (rd_move rfl) rfl ?_
     refine dq rfl (rd_move rfl) rfl ?_
     refine dq rfl (rd_index S62 rfl rfl hA0 (by omega) (by omega)) rfl ?_
     refine dq rfl (rd_ldsr A64 (by first | exact .head _) rfl (arr_part (f := SN.enc) SN.enc_len (i := m) (by first | omega | (simp only [swp_size, Array.size_setIfInBounds]; omega)))) rfl ?_
     refine dq rfl (rd_move rfl) rfl ?_
     refine dq rfl (rd_move rfl) rfl ?_
     refine dq rfl (rd_index S62 rfl rfl hA0 (by omega) (by omega)) rfl ?_
     refine dq rfl (rd_ldsr A64 (by first | exact .head _) rfl (arr_part (f := SN.enc) SN.enc_len (i := ((i + j) / 2)) (by first | omega | (simp only [swp_size, Array.size_setIfInBounds]; omega)))) rfl ?_
     refine de rfl rfl (ef_pure rfl rfl hg rfl (by exact hcmp _ _)) (fun _ h => h.sb) ?_ d_stop
     refine dq rfl (rd_lss rfl rfl) rfl ?_
     refine dq rfl ((by first | exact rd_notd rfl | exact rd_not rfl)) rfl ?_
     refine d_end ?_
     refine f_then ?_
     refine c_cond rfl (fun h103 => ?_) (fun h103 => ?_)
     ·refine c_reg ?_
      refine sq (rd_move rfl) rfl ?_
      refine sq (rd_addn (((i + j) / 2)) (1) rfl rfl rfl rfl (by omega)) rfl ?_
      refine sq (rd_assign rfl) rfl ?_
      refine s_end ?_
      refine f_blk ?_
      have hc : lq d[m]! d[((i + j) / 2)]! = false := (hX ((i + j) / 2) m (by omega) (by omega) (by omega) (by omega)).symm.trans (by first | simpa using h103 | simpa [Sort.ltInt] using h103)
      refine f_again ((((i + j) / 2) + 1, j)) (⟨by omega, by omega, by omega, fun t h1 h2 => ahead_ge hO hs1 (by omega) hc t h1 (by omega), hhi⟩) (by show j - (((i + j) / 2) + 1) < j - i; omega) (by repeat constructor) (fun _ h => h.sb)
     ·refine c_reg ?_
      refine sq (rd_move rfl) rfl ?_
      refine sq (rd_assign rfl) rfl ?_
      refine s_end ?_
      refine f_blk ?_
      have hc : lq d[m]! d[((i + j) / 2)]! = true := (hX ((i + j) / 2) m (by omega) (by omega) (by omega) (by omega)).symm.trans (by first | simpa using h103 | simpa [Sort.ltInt] using h103)
      refine f_again ((i, ((i + j) / 2))) (⟨by omega, by omega, by omega, hlo, fun t h1 h2 => behind_lt hO hs1 (by omega) hc t h1 h2⟩) (by show ((i + j) / 2) - i < j - i; omega) (by repeat constructor) (fun _ h => h.sb)
    ·refine c_exit ?_
     refine f_then_x ?_
     refine f_then_x ?_
     refine f_blk_x ?_
     refine f_then ?_
     refine c_seq ?_
     refine c_seq ?_
     refine c_reg ?_
     refine sq (rd_move rfl) rfl ?_
     refine sq (rd_assign rfl) rfl ?_
     refine s_end ?_
     refine f_then ?_
     refine c_block ?_
     refine c_keep (L' := [(14, _), (0, _), (1, _), (2, _), (3, _), (4, _), (17, _)]) (by repeat constructor) ?_
     refine c_for (α := Nat × Array SN) (fun ⟨k, dk⟩ => i ≤ k ∧ k ≤ m ∧ dk.size = n ∧ Sort.PermIn a b d dk ∧ ∀ t, dk[t]! = rotv d k m (m + 1) t) (fun ⟨k, dk⟩ => [.row 64 4 A n cap (flat SN.enc dk.toList)]) [] (fun ⟨k, dk⟩ => [(17, .int .i64 (k : Int))]) [(14, _), (0, _), (1, _), (2, _), (3, _), (4, _)] (fun ⟨k, dk⟩ => k) ((m, d)) (⟨by omega, Nat.le_refl _, hd, Sort.permIn_refl _ _ _, rot_none (.inl rfl)⟩) (by repeat constructor) (fun _ h => h) ?_
     rintro ⟨k, dk⟩ ⟨hk1, hk2, hdk, hp, hv⟩
     refine c_seq ?_
     refine c_seq ?_
     refine c_reg ?_
     refine sq (rd_move rfl) rfl ?_
     refine sq (rd_move rfl) rfl ?_
     refine sq (rd_gtr rfl rfl) rfl ?_
     refine s_end ?_
     refine f_then ?_
     refine c_if rfl (fun h110 => ?_) (fun h110 => ?_)
     ·refine c_skip ?_
      refine f_then ?_
      refine c_seq ?_
      refine c_block ?_
      refine c_regd [] (.q 0 (.q 1 (.q 2 (.q 3 (.q 4 (.q 5 (.q 6 (.q 7 (.q 8 (.q 10 (.q 11 (.q 12 (.alt 9 (.alt 13 (.q 14 (.alt 15 (.q 16 (.alt 17 .done .stop)) .stop)) .stop) (.alt 13 (.alt 9 (.q 14 (.alt 15 (.q 16 (.alt 17 .done .stop)) .stop)) .stop) .stop)))))))))))))) (by kernel_rfl) (by kernel_rfl) (by kernel_rfl) (by kernel_rfl) (fun _ h => h.sb) ?_
      refine dq rfl (rd_move rfl) rfl ?_
      refine dq rfl (rd_move rfl) rfl ?_
      refine dq rfl (rd_move rfl) rfl ?_
      refine dq rfl (rd_move rfl) rfl ?_
      refine dq rfl (rd_subn (k) (1) rfl rfl rfl rfl (by omega) (by omega)) rfl ?_
      refine dq rfl (rd_move rfl) rfl ?_
      refine dq rfl (rd_move rfl) rfl ?_
      refine dq rfl (rd_subn (k) (1) rfl rfl rfl rfl (by omega) (by omega)) rfl ?_
      refine dq rfl (rd_index S62 rfl rfl hA0 (by omega) (by omega)) rfl ?_
      refine dq rfl (rd_move rfl) rfl ?_
      refine dq rfl (rd_move rfl) rfl ?_
      refine dq rfl (rd_index S62 rfl rfl hA0 (by omega) (by omega)) rfl ?_
      refine de rfl rfl (ef_quiet (rd_ldsr A64 (by first | exact .head _) rfl (arr_part (f := SN.enc) SN.enc_len (i := (k - 1)) (by first | omega | (simp only [swp_size, Array.size_setIfInBounds]; omega)))) rfl) (fun _ h => h.sb) ?_ ?_
      ·refine de rfl rfl (ef_quiet (rd_ldsr A64 (by first | exact .head _) rfl (arr_part (f := SN.enc) SN.enc_len (i := k) (by first | omega | (simp only [swp_size, Array.size_setIfInBounds]; omega)))) rfl) (fun _ h => h.sb) ?_ d_stop
       refine dq rfl (rd_index S62 rfl rfl hA0 (by omega) (by omega)) rfl ?_
       refine de rfl rfl (ef_storea SN.enc (k) Sz64 rfl rfl rfl SN.enc_len SN.enc_cells (by decide) (by omega) (by first | omega | (simp only [swp_size, Array.size_setIfInBounds]; omega))) (fun _ h => h.sb) ?_ d_stop
       refine dq rfl (rd_index S62 rfl rfl hA0 (by omega) (by omega)) rfl ?_
       refine de rfl rfl (ef_storea SN.enc ((k - 1)) Sz64 rfl rfl rfl SN.enc_len SN.enc_cells (by decide) (by omega) (by first | omega | (simp only [swp_size, Array.size_setIfInBounds]; omega))) (fun _ h => h.sb) ?_ d_stop
       refine d_end ?_
       refine f_blk ?_
       refine f_then ?_
       refine c_reg ?_
       refine sq (rd_move rfl) rfl ?_
       refine sq (rd_subn (k) (1) rfl rfl rfl rfl (by omega) (by omega)) rfl ?_
       refine sq (rd_assign rfl) rfl ?_
       refine s_end ?_
       refine f_again ((k - 1, Sort.swp dk k (k - 1))) (⟨by omega, by omega, by simpa using hdk, Sort.permIn_trans _ _ _ _ _ hp (Sort.swp_permIn _ _ _ _ _ (by omega) (by omega) (by omega) (by omega) (by omega)), rot_right hv (by omega) (by omega) (by omega)⟩) (by show k - 1 < k; omega) (by repeat constructor) (fun _ h => h.sb)
      refine de rfl rfl (ef_quiet (rd_ldsr A64 (by first | exact .head _) rfl (arr_part (f := SN.enc) SN.enc_len (i := k) (by first | omega | (simp only [swp_size, Array.size_setIfInBounds]; omega)))) rfl) (fun _ h => h.sb) ?_ ?_
      ·refine de rfl rfl (ef_quiet (rd_ldsr A64 (by first | exact .head _) rfl (arr_part (f := SN.enc) SN.enc_len (i := (k - 1)) (by first | omega | (simp only [swp_size, Array.size_setIfInBounds]; omega)))) rfl) (fun _ h => h.sb) ?_ d_stop
       refine dq rfl (rd_index S62 rfl rfl hA0 (by omega) (by omega)) rfl ?_
       refine de rfl rfl (ef_storea SN.enc (k) Sz64 rfl rfl rfl SN.enc_len SN.enc_cells (by decide) (by omega) (by first | omega | (simp only [swp_size, Array.size_setIfInBounds]; omega))) (fun _ h => h.sb) ?_ d_stop
       refine dq rfl (rd_index S62 rfl rfl hA0 (by omega) (by omega)) rfl ?_
       refine de rfl rfl (ef_storea SN.enc ((k - 1)) Sz64 rfl rfl rfl SN.enc_len SN.enc_cells (by decide) (by omega) (by first | omega | (simp only [swp_size, Array.size_setIfInBounds]; omega))) (fun _ h => h.sb) ?_ d_stop
       refine d_end ?_
       refine f_blk ?_
       refine f_then ?_
       refine c_reg ?_
       refine sq (rd_move rfl) rfl ?_
       refine sq (rd_subn (k) (1) rfl rfl rfl rfl (by omega) (by omega)) rfl ?_
       refine sq (rd_assign rfl) rfl ?_
       refine s_end ?_
       refine f_again ((k - 1, Sort.swp dk k (k - 1))) (⟨by omega, by omega, by simpa using hdk, Sort.permIn_trans _ _ _ _ _ hp (Sort.swp_permIn _ _ _ _ _ (by omega) (by omega) (by omega) (by omega) (by omega)), rot_right hv (by omega) (by omega) (by omega)⟩) (by show k - 1 < k; omega) (by repeat constructor) (fun _ h => h.sb)
      exact d_stop
     ·refine c_exit ?_
      refine f_then_x ?_
      refine f_then_x ?_
      refine f_blk_x ?_
      refine f_then ?_
      refine c_ret ?_
      refine f_then_r ?_
      refine f_ret rfl .nil ?_
      have hm1 : b = m + 1 := by omega
      have hk3 : k = i := by omega
      have hsort : Sort.SortedIn lq a b dk := case_two hO hm1 hi1 (by omega) hs1 hlo (fun t h1 h2 => hhi t (by omega) h2) (fun t => by rw [hm1, ← hk3]; exact hv t)
      exact fun w' hS => ⟨_, rfl, dk, rfl, ⟨hdk, hp, hsort⟩, hS⟩
   ·refine c_skip ?_
    refine f_then ?_
    refine c_seq ?_
    refine c_reg ?_
    refine sq (rd_move rfl) rfl ?_
    refine sq (rd_move rfl) rfl ?_
    refine sq (rd_addn (a) (b) rfl rfl rfl rfl (by omega)) rfl ?_
    refine sq (rd_conv ⟨_, I3⟩ I133 rfl (by first | exact wrap_u64 (by omega) | exact rfl)) rfl ?_
    refine sq (rd_shr rfl rfl (by omega) (shr1 ((a + b)))) rfl ?_
    refine sq (rd_conv ⟨_, I133⟩ I3 rfl (by first | exact wrap_i64 (by omega) | exact rfl)) rfl ?_
    refine sq (rd_assign rfl) rfl ?_
    obtain ⟨mid, hmid⟩ : ∃ x, x = (a + b) / 2 := ⟨_, rfl⟩
    refine s_keep (L' := [(0, _), (1, _), (2, _), (3, _), (4, _), (25, _), (26, _), (27, _), (28, _), (77, _), (78, _), (79, _), (80, _), (129, _), (130, _), (131, _), (132, _), (133, _), (134, _), (18, .int .i64 (mid : Int))]) (.cons rfl (.cons rfl (.cons rfl (.cons rfl (.cons rfl (.cons rfl (.cons rfl (.cons rfl (.cons rfl (.cons rfl (.cons rfl (.cons rfl (.cons rfl (.cons rfl (.cons rfl (.cons rfl (.cons rfl (.cons rfl (.cons rfl (.cons (congrArg some (int_eq (by omega))) .nil)))))))))))))))))))) ?_
    refine s_end ?_
    refine f_then ?_
    refine c_seq ?_
    refine c_reg ?_
    refine sq (rd_move rfl) rfl ?_
    refine sq (rd_move rfl) rfl ?_
    refine sq (rd_addn (mid) (m) rfl rfl rfl rfl (by omega)) rfl ?_
    refine sq (rd_assign rfl) rfl ?_
    refine s_end ?_
    refine f_then ?_
    refine c_seq ?_
    refine c_reg ?_
    refine sq (rd_assign rfl) rfl ?_
    refine sq (rd_assign rfl) rfl ?_
    refine s_end ?_
    refine f_then ?_
    refine c_meet2 (α := Nat × Nat) (fun ⟨s0, r0⟩ => s0 = max a (mid + m - b) ∧ r0 = min m mid) (fun ⟨s0, r0⟩ => []) [.row _ _ A n cap _] (fun ⟨s0, r0⟩ => [(20, .int .i64 (s0 : Int)), (21, .int .i64 (r0 : Int))]) [(0, _), (1, _), (2, _), (3, _), (4, _), (18, _), (19, _)] (by repeat constructor) [] (fun _ h => h) ?_ ?_
    ·refine c_seq ?_
     refine c_reg ?_
     refine sq (rd_move rfl) rfl ?_
     refine sq (rd_move rfl) rfl ?_
     refine sq (rd_gtr rfl rfl) rfl ?_
     refine s_end ?_
     refine f_then ?_
     refine c_if rfl (fun h140 => ?_) (fun h140 => ?_)
     ·refine c_seq ?_
      refine c_reg ?_
      refine sq (rd_move rfl) rfl ?_
      refine sq (rd_move rfl) rfl ?_
      refine sq (rd_subn ((mid + m)) (b) rfl rfl rfl rfl (by omega) (by omega)) rfl ?_
      refine sq (rd_assign rfl) rfl ?_
      refine s_end ?_
      refine f_then ?_
      refine c_reg ?_
      refine sq (rd_move rfl) rfl ?_
      refine sq (rd_assign rfl) rfl ?_
      refine s_end ?_
      refine f_cut ((mid + m - b, mid)) (⟨by omega, by omega⟩) (by repeat constructor) (fun _ h => h.sb)
     ·refine c_seq ?_
      refine c_reg ?_
      refine sq (rd_move rfl) rfl ?_
      refine sq (rd_assign rfl) rfl ?_
      refine s_end ?_
      refine f_then ?_
      refine c_reg ?_
      refine sq (rd_move rfl) rfl ?_
      refine sq (rd_assign rfl) rfl ?_
      refine s_end ?_
      refine f_cut ((a, m)) (⟨by omega, by omega⟩) (by repeat constructor) (fun _ h => h.sb)
    ·rintro ⟨s0, r0⟩ ⟨hs0, hr0⟩
     refine c_seq ?_
     refine c_reg ?_
     refine sq (rd_move rfl) rfl ?_
     refine sq (rd_subn ((mid + m)) (1) rfl rfl rfl rfl (by omega) (by omega)) rfl ?_
     refine sq (rd_assign rfl) rfl ?_
     refine s_end ?_
     refine f_then ?_
     refine c_seq ?_
     refine c_block ?_
     refine c_keep (L' := [(20, _), (21, _), (0, _), (1, _), (2, _), (3, _), (4, _), (18, _), (19, _), (22, _)]) (by repeat constructor) ?_
     refine c_for (α := Nat × Nat) (fun ⟨s, r⟩ => s0 ≤ s ∧ s ≤ r ∧ r ≤ r0 ∧ (∀ c, s0 ≤ c → c < s → lq d[mid + m - 1 - c]! d[c]! = false) ∧ (∀ c, r ≤ c → c < r0 → lq d[mid + m - 1 - c]! d[c]! = true)) (fun ⟨s, r⟩ => []) [.row _ _ A n cap _] (fun ⟨s, r⟩ => [(20, .int .i64 (s : Int)), (21, .int .i64 (r : Int))]) [(0, _), (1, _), (2, _), (3, _), (4, _), (18, _), (19, _), (22, _)] (fun ⟨s, r⟩ => r - s) ((s0, r0)) (⟨Nat.le_refl _, by omega, Nat.le_refl _, fun t _ _ => by omega, fun t _ _ => by omega⟩) (by repeat constructor) (fun _ h => h) ?_
     rintro ⟨s, r⟩ ⟨hs3, hsr, hr3, hlo, hhi⟩
     refine c_seq ?_
     refine c_seq ?_
     refine c_reg ?_
     refine sq (rd_move rfl) rfl ?_
     refine sq (rd_move rfl) rfl ?_
     refine sq (rd_lss rfl rfl) rfl ?_
     refine s_end ?_
     refine f_then ?_
     refine c_if rfl (fun h151 => ?_) (fun h151 => ?_)
     ·refine c_skip ?_
      refine f_then ?_
      refine c_block ?_
      refine c_seq ?_
      refine c_reg ?_
      refine sq (rd_move rfl) rfl ?_
      refine sq (rd_move rfl) rfl ?_
      refine sq (rd_addn (s) (r) rfl rfl rfl rfl (by omega)) rfl ?_
      refine sq (rd_conv ⟨_, I3⟩ I133 rfl (by first | exact wrap_u64 (by omega) | exact rfl)) rfl ?_
      refine sq (rd_shr rfl rfl (by omega) (shr1 ((s + r)))) rfl ?_
      refine sq (rd_conv ⟨_, I133⟩ I3 rfl (by first | exact wrap_i64 (by omega) | exact rfl)) rfl ?_
      refine sq (rd_assign rfl) rfl ?_
      refine s_end ?_
      refine f_then ?_
      refine c_seq ?_
      refine c_regd [.row _ _ A n cap _] (.q 0 (.q 1 (.q 2 (.q 3 (.q 4 (.q 5 (.q 6 (.q 7 (.q 8 (.q 9 (.q 10 (.alt 11 (.q 12 (.q 13 .done)) .stop)))))))))))) (by kernel_rfl) (by kernel_rfl) (by kernel_rfl) (by kernel_rfl) (fun _ h => h.sb) ?_
      refine dq rfl (rd_move rfl) rfl ?_
      refine dq rfl (rd_move rfl) rfl ?_
      refine dq rfl (rd_move rfl) rfl ?_
      refine dq rfl (rd_move rfl) rfl ?_
      refine dq rfl (rd_subn (((mid + m) - 1)) (((s + r) / 2)) rfl rfl rfl rfl (by omega) (by omega)) rfl ?_
      refine dq rfl (rd_index S62 rfl rfl hA0 (by omega) (by omega)) rfl ?_
      refine dq rfl (rd_ldsr A64 (by first | exact .head _) rfl (arr_part (f := SN.enc) SN.enc_len (i := (((mid + m) - 1) - ((s + r) / 2))) (by first | omega | (simp only [swp_size, Array.size_setIfInBounds]; omega)))) rfl ?_
      refine dq rfl (rd_move rfl) rfl ?_
      refine dq rfl (rd_move rfl) rfl ?_
      refine dq rfl (rd_index S62 rfl rfl hA0 (by omega) (by omega)) rfl ?_
      refine dq rfl (rd_ldsr A64 (by first | exact .head _) rfl (arr_part (f := SN.enc) SN.enc_len (i := ((s + r) / 2)) (by first | omega | (simp only [swp_size, Array.size_setIfInBounds]; omega)))) rfl ?_
      refine de rfl rfl (ef_pure rfl rfl hg rfl (by exact hcmp _ _)) (fun _ h => h.sb) ?_ d_stop
      refine dq rfl (rd_lss rfl rfl) rfl ?_
      refine dq rfl ((by first | exact rd_notd rfl | exact rd_not rfl)) rfl ?_
      refine d_end ?_
      refine f_then ?_
      refine c_cond rfl (fun h171 => ?_) (fun h171 => ?_)
      ·refine c_reg ?_
       refine sq (rd_move rfl) rfl ?_
       refine sq (rd_addn (((s + r) / 2)) (1) rfl rfl rfl rfl (by omega)) rfl ?_
       refine sq (rd_assign rfl) rfl ?_
       refine s_end ?_
       refine f_blk ?_
       have hc : lq d[mid + m - 1 - ((s + r) / 2)]! d[((s + r) / 2)]! = false := (hX _ _ (by omega) (by omega) (by omega) (by omega)).symm.trans (by first | simpa using h171 | simpa [Sort.ltInt] using h171)
       refine f_again ((((s + r) / 2) + 1, r)) (⟨by omega, by omega, by omega, fun c h1 h2 => part_false hO hs1 hs2 (mid + m - 1) ((s + r) / 2) c (by omega) (by omega) (by omega) (by omega) (by omega) (by omega) hc, hhi⟩) (by show r - (((s + r) / 2) + 1) < r - s; omega) (by repeat constructor) (fun _ h => h.sb)
      ·refine c_reg ?_
       refine sq (rd_move rfl) rfl ?_
       refine sq (rd_assign rfl) rfl ?_
       refine s_end ?_
       refine f_blk ?_
       have hc : lq d[mid + m - 1 - ((s + r) / 2)]! d[((s + r) / 2)]! = true := (hX _ _ (by omega) (by omega) (by omega) (by omega)).symm.trans (by first | simpa using h171 | simpa [Sort.ltInt] using h171)
       refine f_again ((s, ((s + r) / 2))) (⟨by omega, by omega, by omega, hlo, fun c h1 h2 => part_true hO hs1 hs2 (mid + m - 1) ((s + r) / 2) c (by omega) (by omega) (by omega) (by omega) (by omega) (by omega) hc⟩) (by show ((s + r) / 2) - s < r - s; omega) (by repeat constructor) (fun _ h => h.sb)
     ·refine c_exit ?_
      refine f_then_x ?_
      refine f_then_x ?_
      refine f_blk_x ?_
      refine f_then ?_
      refine c_seq ?_
      refine c_reg ?_
      refine sq (rd_move rfl) rfl ?_
      refine sq (rd_move rfl) rfl ?_
      refine sq (rd_subn ((mid + m)) (s) rfl rfl rfl rfl (by omega) (by omega)) rfl ?_
      refine sq (rd_assign rfl) rfl ?_
      refine s_end ?_
      refine f_then ?_
      refine c_meet2 (α := Array SN) (fun d1 => d1.size = n ∧ Sort.PermIn a b d d1 ∧ ∀ t, d1[t]! = rotv d s m (mid + m - s) t) (fun d1 => [.row 64 4 A n cap (flat SN.enc d1.toList)]) [] (fun d1 => []) [(20, _), (0, _), (1, _), (3, _), (4, _), (18, _), (24, _)] (by repeat constructor) [.row _ _ A n cap _] (fun _ h => h) ?_ ?_
      ·refine c_seq ?_
       refine c_reg ?_
       refine sq (rd_move rfl) rfl ?_
       refine sq (rd_move rfl) rfl ?_
       refine sq (rd_lss rfl rfl) rfl ?_
       refine sq (rd_move rfl) rfl ?_
       refine s_split (d := 181) rfl (fun g181 => ?_) (fun g181 => ?_)
       ·try have g181p := of_decide_eq_true g181
        refine sg1 (fun a hA => wanted_yes hA rfl rfl rfl g181) (rd_move rfl) rfl ?_
        refine sg1 (fun a hA => wanted_yes hA rfl rfl rfl g181) (rd_move rfl) rfl ?_
        refine sg1 (fun a hA => wanted_yes hA rfl rfl rfl g181) (rd_lss rfl rfl) rfl ?_
        refine sq (rd_pick_tt rfl g181 rfl) rfl ?_
        refine s_end ?_
        refine f_then ?_
        refine c_if rfl (fun h185 => ?_) (fun h185 => ?_)
        ·refine c_reg ?_
         refine sq (rd_move rfl) rfl ?_
         refine sq (rd_move rfl) rfl ?_
         refine sq (rd_move rfl) rfl ?_
         refine sq (rd_move rfl) rfl ?_
         refine sq (rd_move rfl) rfl ?_
         refine sx (ef_call rfl rfl K155 (fun _ e => by cases e; rfl) [.row _ _ A n cap _] _ (.refl _) _ _ _ (fun w hS => by exact c155 w A cap n d g cmp hg hcmp hd hn  s m (mid + m - s) (by omega) (by omega) (by omega) hS.own)) rfl ?_
         rintro x1 ⟨hx1, hx2, hx3⟩
         refine s_end ?_
         refine f_cut (x1) (⟨hx1, Sort.permIn_trans _ _ _ _ _ (Sort.permIn_refl _ _ _) (Sort.permIn_mono _ _ s (mid + m - s) a b (by omega) (by omega) (by omega) hx2), hx3⟩) (by repeat constructor) (fun _ h => h.sb)
        ·refine c_skip ?_
         refine f_cut (d) (⟨hd, Sort.permIn_refl _ _ _, rot_none (.inr (by omega))⟩) (by repeat constructor) (fun _ h => h.sb)
       ·try have g181p := of_decide_eq_false g181
        refine sg0 (fun a hA => wanted_no hA rfl rfl rfl g181 rfl) rfl ?_
        refine sg0 (fun a hA => wanted_no hA rfl rfl rfl g181 rfl) rfl ?_
        refine sg0 (fun a hA => wanted_no hA rfl rfl rfl g181 rfl) rfl ?_
        refine sq (rd_pick_ff rfl g181 rfl) rfl ?_
        refine s_end ?_
        refine f_then ?_
        refine c_lit_f rfl ?_
        refine c_skip ?_
        refine f_cut (d) (⟨hd, Sort.permIn_refl _ _ _, rot_none (.inl (by omega))⟩) (by repeat constructor) (fun _ h => h.sb)
      ·rintro d1 ⟨hd1, hp1, hv1⟩
       have hsm : s ≤ mid := by omega
       have hsm2 : s ≤ m := by omega
       have has : a ≤ s := by omega
       have heb : (mid + m - s) ≤ b := by omega
       obtain ⟨hA, hB, hC, hD⟩ := part_pieces hs1 hs2 hsm2 has hsm rfl heb hv1
       have hcr := part_cross hO hs1 hs2 hmid ham hmb hsm2 has hsm rfl heb (fun c h1 h2 h3 => hlo c (by omega) h3) (fun c h1 h2 h3 => hhi c (by omega) (by omega)) hv1
       obtain ⟨hXl, hXu⟩ := part_agree (lt := ltOf cmp) hX hsm2 has hsm rfl heb hv1
       refine c_meet2 (α := Array SN) (fun d2 => d2.size = n ∧ Sort.PermIn a mid d1 d2 ∧ Sort.SortedIn lq a mid d2) (fun d2 => [.row 64 4 A n cap (flat SN.enc d2.toList)]) [] (fun d2 => []) [(0, _), (3, _), (4, _), (18, _), (24, _)] (by repeat constructor) [.row _ _ A n cap _] (fun _ h => h) ?_ ?_
       ·refine c_seq ?_
        refine c_reg ?_
        refine sq (rd_move rfl) rfl ?_
        refine sq (rd_move rfl) rfl ?_
        refine sq (rd_lss rfl rfl) rfl ?_
        refine sq (rd_move rfl) rfl ?_
        refine s_split (d := 195) rfl (fun g195 => ?_) (fun g195 => ?_)
        ·try have g195p := of_decide_eq_true g195
         refine sg1 (fun a hA => wanted_yes hA rfl rfl rfl g195) (rd_move rfl) rfl ?_
         refine sg1 (fun a hA => wanted_yes hA rfl rfl rfl g195) (rd_move rfl) rfl ?_
         refine sg1 (fun a hA => wanted_yes hA rfl rfl rfl g195) (rd_lss rfl rfl) rfl ?_
         refine sq (rd_pick_tt rfl g195 rfl) rfl ?_
         refine s_end ?_
         refine f_then ?_
         refine c_if rfl (fun h199 => ?_) (fun h199 => ?_)
         ·refine c_reg ?_
          refine sq (rd_move rfl) rfl ?_
          refine sq (rd_move rfl) rfl ?_
          refine sq (rd_move rfl) rfl ?_
          refine sq (rd_move rfl) rfl ?_
          refine sq (rd_move rfl) rfl ?_
          refine sx (ef_call rfl rfl K125 (fun _ e => by cases e; rfl) [.row _ _ A n cap _] _ (.refl _) _ _ _ (fun w hS => by exact ih w A cap n d1 g cmp hg hcmp hd1 hn  lq hO a s mid (by omega) (by omega) (by omega) hA hB hXl (by omega) hS.own)) rfl ?_
          rintro x2 ⟨hy1, hy2, hy3⟩
          refine s_end ?_
          refine f_cut (x2) (⟨hy1, hy2, hy3⟩) (by repeat constructor) (fun _ h => h.sb)
         ·refine c_skip ?_
          refine f_cut (d1) (⟨hd1, Sort.permIn_refl _ _ _, by rw [← (show s = mid from by omega)]; exact hA⟩) (by repeat constructor) (fun _ h => h.sb)
        ·try have g195p := of_decide_eq_false g195
         refine sg0 (fun a hA => wanted_no hA rfl rfl rfl g195 rfl) rfl ?_
         refine sg0 (fun a hA => wanted_no hA rfl rfl rfl g195 rfl) rfl ?_
         refine sg0 (fun a hA => wanted_no hA rfl rfl rfl g195 rfl) rfl ?_
         refine sq (rd_pick_ff rfl g195 rfl) rfl ?_
         refine s_end ?_
         refine f_then ?_
         refine c_lit_f rfl ?_
         refine c_skip ?_
         refine f_cut (d1) (⟨hd1, Sort.permIn_refl _ _ _, by rw [show a = s from by omega]; exact hB⟩) (by repeat constructor) (fun _ h => h.sb)
       ·rintro d2 ⟨hd2, hp2, hq2⟩
        have hC2 : Sort.SortedIn lq mid (mid + m - s) d2 := hC.congr fun i h1 h2 => hp2.2.1 i (.inr h1)
        have hD2 : Sort.SortedIn lq (mid + m - s) b d2 := hD.congr fun i h1 h2 => hp2.2.1 i (.inr (by omega))
        refine c_seq ?_
        refine c_reg ?_
        refine sq (rd_move rfl) rfl ?_
        refine sq (rd_move rfl) rfl ?_
        refine sq (rd_lss rfl rfl) rfl ?_
        refine sq (rd_move rfl) rfl ?_
        refine s_split (d := 209) rfl (fun g209 => ?_) (fun g209 => ?_)
        ·try have g209p := of_decide_eq_true g209
         refine sg1 (fun a hA => wanted_yes hA rfl rfl rfl g209) (rd_move rfl) rfl ?_
         refine sg1 (fun a hA => wanted_yes hA rfl rfl rfl g209) (rd_move rfl) rfl ?_
         refine sg1 (fun a hA => wanted_yes hA rfl rfl rfl g209) (rd_lss rfl rfl) rfl ?_
         refine sq (rd_pick_tt rfl g209 rfl) rfl ?_
         refine s_end ?_
         refine f_then ?_
         refine c_if rfl (fun h213 => ?_) (fun h213 => ?_)
         ·refine c_reg ?_
          refine sq (rd_move rfl) rfl ?_
          refine sq (rd_move rfl) rfl ?_
          refine sq (rd_move rfl) rfl ?_
          refine sq (rd_move rfl) rfl ?_
          refine sq (rd_move rfl) rfl ?_
          refine sx (ef_call rfl rfl K125 (fun _ e => by cases e; rfl) [.row _ _ A n cap _] _ (.refl _) _ _ _ (fun w hS => by exact ih w A cap n d2 g cmp hg hcmp hd2 hn  lq hO mid (mid + m - s) b (by omega) (by omega) (by omega) hC2 hD2 (fun i j h1 h2 h3 h4 => by rw [hp2.2.1 i (.inr h1), hp2.2.1 j (.inr (by omega))]; exact hXu i j h1 h2 h3 h4) (by omega) hS.own)) rfl ?_
          rintro x3 ⟨hz1, hz2, hz3⟩
          refine s_end ?_
          refine f_end rfl .nil ?_
          have hmidn : mid ≤ n := by omega
          have hp3 : Sort.PermIn mid b d2 x3 := hz2
          have hq3 : Sort.SortedIn lq mid b x3 := hz3
          have hperm : Sort.PermIn a b d x3 := Sort.permIn_trans _ _ _ _ _ hp1 (Sort.permIn_trans _ _ _ _ _ (Sort.permIn_mono _ _ a mid a b (by omega) (by omega) (by omega) hp2) (Sort.permIn_mono _ _ mid b a b (by omega) (by omega) (by omega) hp3))
          have hsort : Sort.SortedIn lq a b x3 := glue_two (hq2.congr fun i h1 h2 => hp3.2.1 i (.inl h2)) hq3 (cross_turn (by omega) (by omega) hcr hp2 hp3)
          exact fun w' hS => ⟨_, rfl, x3, rfl, ⟨hz1, hperm, hsort⟩, hS⟩
         ·refine c_skip ?_
          refine f_end rfl .nil ?_
          have hmidn : mid ≤ n := by omega
          have hp3 : Sort.PermIn mid b d2 d2 := Sort.permIn_refl _ _ _
          have hq3 : Sort.SortedIn lq mid b d2 := by rw [← (show (mid + m - s) = b from by omega)]; exact hC2
          have hperm : Sort.PermIn a b d d2 := Sort.permIn_trans _ _ _ _ _ hp1 (Sort.permIn_trans _ _ _ _ _ (Sort.permIn_mono _ _ a mid a b (by omega) (by omega) (by omega) hp2) (Sort.permIn_mono _ _ mid b a b (by omega) (by omega) (by omega) hp3))
          have hsort : Sort.SortedIn lq a b d2 := glue_two (hq2.congr fun i h1 h2 => hp3.2.1 i (.inl h2)) hq3 (cross_turn (by omega) (by omega) hcr hp2 hp3)
          exact fun w' hS => ⟨_, rfl, d2, rfl, ⟨hd2, hperm, hsort⟩, hS⟩
        ·try have g209p := of_decide_eq_false g209
         refine sg0 (fun a hA => wanted_no hA rfl rfl rfl g209 rfl) rfl ?_
         refine sg0 (fun a hA => wanted_no hA rfl rfl rfl g209 rfl) rfl ?_
         refine sg0 (fun a hA => wanted_no hA rfl rfl rfl g209 rfl) rfl ?_
         refine sq (rd_pick_ff rfl g209 rfl) rfl ?_
         refine s_end ?_
         refine f_then ?_
         refine c_lit_f rfl ?_
         refine c_skip ?_
         refine f_end rfl .nil ?_
         have hmidn : mid ≤ n := by omega
         have hp3 : Sort.PermIn mid b d2 d2 := Sort.permIn_refl _ _ _
         have hq3 : Sort.SortedIn lq mid b d2 := by rw [show mid = (mid + m - s) from by omega]; exact hD2
         have hperm : Sort.PermIn a b d d2 := Sort.permIn_trans _ _ _ _ _ hp1 (Sort.permIn_trans _ _ _ _ _ (Sort.permIn_mono _ _ a mid a b (by omega) (by omega) (by omega) hp2) (Sort.permIn_mono _ _ mid b a b (by omega) (by omega) (by omega) hp3))
         have hsort : Sort.SortedIn lq a b d2 := glue_two (hq2.congr fun i h1 h2 => hp3.2.1 i (.inl h2)) hq3 (cross_turn (by omega) (by omega) hcr hp2 hp3)
         exact fun w' hS => ⟨_, rfl, d2, rfl, ⟨hd2, hperm, hsort⟩, hS⟩
 

end Go.Proofs.YtfccnoccfhgcbaaGreatDoor
namespace Go.Proofs.YtfccnoccfhgcbaaGreatDoor
open Go Go.RowKit
theorem K74 : callTy Tryz.prog 74 := by unfold callTy; kernel_rfl
theorem c74 (w : World) (A : Option Addr) (cap n : Nat) (d : Array SN) (g : Nat) (cmp : SN → SN → Int) (hg : callTy Tryz.prog g) (hcmp : ∀ x y, Pu Tryz.prog g [.agg (SN.enc x).toArray, .agg (SN.enc y).toArray] (.int .i64 (cmp x y))) (hd : d.size = n) (hn : n ≤ 1000000) (lq : SN → SN → Bool) (hO : Sort.SWO lq) (hH : ∀ u v, ltOf cmp u v = true → lq u v = true) (hag : Agree (ltOf cmp) lq n d) (hS : St w (fpOf [.row 64 4 A n cap (flat SN.enc d.toList)]) [.row 64 4 A n cap (flat SN.enc d.toList)] w) : Calls Tryz.prog 74 [.slice A n cap, .int .i64 (n : Int), .func (.func g) #[] #[]].toArray w (RtE fun v w' => ∃ x : Array SN, v = (fun _ => .tuple #[]) x ∧ (fun x => x.size = n ∧ Sort.PermIn 0 n d x ∧ Sort.SortedIn lq 0 n x) x ∧ St w (fpOf [.row 64 4 A n cap (flat SN.enc d.toList)]) ((fun x => [.row 64 4 A n cap (flat SN.enc x.toList)]) x) w') := by
 refine enter Tryz.func74 rfl Tryz.ntmps74 rfl hS ?_
 refine c_seq ?_
 have hA0 : 0 < n → plainA A := fun h => ((row_know (List.mem_cons_self ..) w hS).2.2.2 h).1
 refine c_reg ?_
 refine sq (rd_assign rfl) rfl ?_
 refine s_end ?_
 refine f_then ?_
 refine c_seq ?_
 refine c_reg ?_
 refine sq (rd_move rfl) rfl ?_
 refine sq (rd_assign rfl) rfl ?_
 refine sq (rd_assign rfl) rfl ?_
 refine s_end ?_
 refine f_then ?_
 refine c_seq ?_
 refine c_block ?_
 refine c_keep (L' := [(0, _), (1, _), (2, _), (6, _), (7, _), (8, _)]) (by repeat constructor) ?_
 refine c_for (α := Nat × Array SN) (fun ⟨q, dk⟩ => 20 * q ≤ n ∧ dk.size = n ∧ Sort.PermIn 0 n d dk ∧ Agree (ltOf cmp) lq n dk ∧ Blocks lq 20 0 (20 * q) dk) (fun ⟨q, dk⟩ => [.row 64 4 A n cap (flat SN.enc dk.toList)]) [] (fun ⟨q, dk⟩ => [(7, .int .i64 ((20 * q : Nat) : Int)), (8, .int .i64 ((20 * q + 20 : Nat) : Int))]) [(0, _), (1, _), (2, _), (6, _)] (fun ⟨q, dk⟩ => n - 20 * q) ((0, d)) (⟨by omega, hd, Sort.permIn_refl _ _ _, hag, fun q i j h1 h2 h3 h4 h5 => by omega⟩) (.cons ((congrArg some (int_eq (by omega)))) (.cons ((congrArg some (int_eq (by omega)))) (by repeat constructor))) (fun _ h => h) ?_
 rintro ⟨q, dk⟩ ⟨hq, hdk, hp, hag, hbl⟩
 refine c_seq ?_
 refine c_seq ?_
 refine c_reg ?_
 refine sq (rd_move rfl) rfl ?_
 refine sq (rd_move rfl) rfl ?_
 refine sq (rd_leq rfl rfl) rfl ?_
 refine s_end ?_
 refine f_then ?_
 refine c_if rfl (fun h13 => ?_) (fun h13 => ?_)
 ·refine c_skip ?_
  refine f_then ?_
  refine c_block ?_
  refine c_seq ?_
  refine c_reg ?_
  refine sq (rd_move rfl) rfl ?_
  refine sq (rd_move rfl) rfl ?_
  refine sq (rd_move rfl) rfl ?_
  refine sq (rd_move rfl) rfl ?_
  refine sx (ef_call rfl rfl K124 (fun _ e => by cases e; rfl) [.row _ _ A n cap _] _ (.refl _) _ _ _ (fun w hS => by exact c124 w A cap n dk g cmp hg hcmp hdk hn  (20 * q) (20 * q + 20) (by omega) (by omega) hS.own)) rfl ?_
  rintro _ _
  refine s_end ?_
  refine f_then ?_
  refine c_seq ?_
  refine c_reg ?_
  refine sq (rd_move rfl) rfl ?_
  refine sq (rd_assign rfl) rfl ?_
  refine s_end ?_
  refine f_then ?_
  refine c_reg ?_
  refine sq (rd_move rfl) rfl ?_
  refine sq (rd_move rfl) rfl ?_
  refine sq (rd_addn ((20 * q + 20)) (20) rfl rfl rfl rfl (by omega)) rfl ?_
  refine sq (rd_assign rfl) rfl ?_
  refine s_end ?_
  refine f_blk ?_
  have hh := Sort.insertionSort_holds hO dk (20 * q) (20 * q + 20) (by omega) (by omega)
  rw [← ins_agree (a := 20 * q) (b := 20 * q + 20) hag (by omega) (by omega)] at hh
  refine f_again ((q + 1, Sort.insertionSort (ltOf cmp) dk (20 * q) (20 * q + 20))) (⟨by omega, hh.1.1.trans hdk, Sort.permIn_trans _ _ _ _ _ hp (Sort.permIn_mono _ _ (20 * q) (20 * q + 20) _ _ (by omega) (by omega) (by omega) hh.1), hag.turn hH (by omega) (by omega) hh.1 hh.2, by rw [show 20 * (q + 1) = 20 * q + 20 from by omega]; exact hbl.more rfl (Nat.le_refl _) hh.1 hh.2⟩) (by show n - 20 * (q + 1) < n - 20 * q; omega) (.cons ((congrArg some (int_eq (by omega)))) (.cons ((congrArg some (int_eq (by omega)))) (by repeat constructor))) (fun _ h => h.sb)
 ·refine c_exit ?_
  refine f_then_x ?_
  refine f_then_x ?_
  refine f_blk_x ?_
  refine f_then ?_
  refine c_seq ?_
  refine c_reg ?_
  refine sq (rd_move rfl) rfl ?_
  refine sq (rd_move rfl) rfl ?_
  refine sq (rd_move rfl) rfl ?_
  refine sq (rd_move rfl) rfl ?_
  refine sx (ef_call rfl rfl K124 (fun _ e => by cases e; rfl) [.row _ _ A n cap _] _ (.refl _) _ _ _ (fun w hS => by exact c124 w A cap n dk g cmp hg hcmp hdk hn  (20 * q) (n) (by omega) (by omega) hS.own)) rfl ?_
  rintro _ _
  refine s_end ?_
  refine f_then ?_
  refine c_block ?_
  have hh := Sort.insertionSort_holds hO dk (20 * q) (n) (by omega) (by omega)
  rw [← ins_agree (a := 20 * q) (b := n) hag (by omega) (by omega)] at hh
  refine c_keep (L' := [(0, _), (1, _), (2, _), (6, _)]) (by repeat constructor) ?_
  refine c_for (α := Nat × Array SN) (fun ⟨B, dk⟩ => 1 ≤ B ∧ dk.size = n ∧ Sort.PermIn 0 n d dk ∧ Agree (ltOf cmp) lq n dk ∧ Blocks lq B 0 n dk) (fun ⟨B, dk⟩ => [.row 64 4 A n cap (flat SN.enc dk.toList)]) [] (fun ⟨B, dk⟩ => [(6, .int .i64 (B : Int))]) [(0, _), (1, _), (2, _)] (fun ⟨B, dk⟩ => n - B) ((20, Sort.insertionSort (ltOf cmp) dk (20 * q) (n))) (⟨by omega, hh.1.1.trans hdk, Sort.permIn_trans _ _ _ _ _ hp (Sort.permIn_mono _ _ (20 * q) n _ _ (by omega) (by omega) (by omega) hh.1), hag.turn hH (by omega) (Nat.le_refl _) hh.1 hh.2, hbl.more rfl (by omega) hh.1 hh.2⟩) (by repeat constructor) (fun _ h => h) ?_
  rintro ⟨B, dk⟩ ⟨hB, hdk, hp, hag, hbl⟩
  refine c_seq ?_
  refine c_seq ?_
  refine c_reg ?_
  refine sq (rd_move rfl) rfl ?_
  refine sq (rd_move rfl) rfl ?_
  refine sq (rd_lss rfl rfl) rfl ?_
  refine s_end ?_
  refine f_then ?_
  refine c_if rfl (fun h30 => ?_) (fun h30 => ?_)
  ·refine c_skip ?_
   refine f_then ?_
   refine c_block ?_
   refine c_seq ?_
   refine c_reg ?_
   refine sq (rd_move rfl) rfl ?_
   refine sq (rd_muln (2) (B) rfl rfl rfl rfl (by omega)) rfl ?_
   refine sq (rd_assign rfl) rfl ?_
   refine sq (rd_assign rfl) rfl ?_
   refine s_end ?_
   refine f_then ?_
   refine c_seq ?_
   refine c_block ?_
   refine c_keep (L' := [(6, _), (0, _), (1, _), (2, _), (28, _), (29, _), (30, _), (31, _), (32, _), (7, _), (8, _)]) (by repeat constructor) ?_
   refine c_for (α := Nat × Nat × Array SN) (fun ⟨q, u, dk⟩ => 2 * B * q = u ∧ u ≤ n ∧ dk.size = n ∧ Sort.PermIn 0 n d dk ∧ Agree (ltOf cmp) lq n dk ∧ Blocks lq (2 * B) 0 u dk ∧ Blocks lq B u n dk) (fun ⟨q, u, dk⟩ => [.row 64 4 A n cap (flat SN.enc dk.toList)]) [] (fun ⟨q, u, dk⟩ => [(7, .int .i64 (u : Int)), (8, .int .i64 ((u + 2 * B : Nat) : Int))]) [(6, _), (0, _), (1, _), (2, _), (28, _), (29, _), (30, _), (31, _), (32, _)] (fun ⟨q, u, dk⟩ => n - u) ((0, 0, dk)) (⟨by omega, by omega, hdk, hp, hag, fun q i j h1 h2 h3 h4 h5 => by omega, hbl⟩) (.cons rfl (.cons ((congrArg some (int_eq (by omega)))) (by repeat constructor))) (fun _ h => h) ?_
   rintro ⟨q, u, dk⟩ ⟨hu, hun, hdk, hp, hag, hb1, hb2⟩
   refine c_seq ?_
   refine c_seq ?_
   refine c_reg ?_
   refine sq (rd_move rfl) rfl ?_
   refine sq (rd_move rfl) rfl ?_
   refine sq (rd_leq rfl rfl) rfl ?_
   refine s_end ?_
   refine f_then ?_
   refine c_if rfl (fun h35 => ?_) (fun h35 => ?_)
   ·refine c_skip ?_
    refine f_then ?_
    refine c_block ?_
    refine c_seq ?_
    refine c_reg ?_
    refine sq (rd_move rfl) rfl ?_
    refine sq (rd_move rfl) rfl ?_
    refine sq (rd_move rfl) rfl ?_
    refine sq (rd_move rfl) rfl ?_
    refine sq (rd_addn (u) (B) rfl rfl rfl rfl (by omega)) rfl ?_
    refine sq (rd_move rfl) rfl ?_
    refine sq (rd_move rfl) rfl ?_
    refine sx (ef_call rfl rfl K125 (fun _ e => by cases e; rfl) [.row _ _ A n cap _] _ (.refl _) _ _ _ (fun w hS => by exact c125 ((u + 2 * B) - u + 1) w A cap n dk g cmp hg hcmp hdk hn  lq hO u (u + B) (u + 2 * B) (by omega) (by omega) (by omega) (hb2.range (q := 2 * q) (by rw [two_blocks, hu]) (Nat.le_refl _) (by omega)) ((hb2.rest (b := u + B) (by omega) (Sort.permIn_refl _ u (u + B))).range (q := 2 * q + 1) (by rw [two_blocks1, hu]) (by omega) (by omega)) (fun i j h1 h2 h3 h4 => hag i j (by omega) (by omega)) (by omega) hS.own)) rfl ?_
    rintro x ⟨hx1, hx2, hx3⟩
    refine s_end ?_
    refine f_then ?_
    refine c_seq ?_
    refine c_reg ?_
    refine sq (rd_move rfl) rfl ?_
    refine sq (rd_assign rfl) rfl ?_
    refine s_end ?_
    refine f_then ?_
    refine c_reg ?_
    refine sq (rd_move rfl) rfl ?_
    refine sq (rd_move rfl) rfl ?_
    refine sq (rd_muln (2) (B) rfl rfl rfl rfl (by omega)) rfl ?_
    refine sq (rd_addn ((u + 2 * B)) ((2 * B)) rfl rfl rfl rfl (by omega)) rfl ?_
    refine sq (rd_assign rfl) rfl ?_
    refine s_end ?_
    refine f_blk ?_
    refine f_again ((q + 1, u + 2 * B, x)) (⟨by rw [Nat.mul_add, hu, Nat.mul_one], by omega, hx1, Sort.permIn_trans _ _ _ _ _ hp (Sort.permIn_mono _ _ u (u + 2 * B) _ _ (by omega) (by omega) (by omega) hx2), hag.turn hH (by omega) (by omega) hx2 hx3, hb1.more hu (by omega) hx2 hx3, hb2.rest (by omega) hx2⟩) (by show n - (u + 2 * B) < n - u; omega) (by repeat constructor) (fun _ h => h.sb)
   ·refine c_exit ?_
    refine f_then_x ?_
    refine f_then_x ?_
    refine f_blk_x ?_
    refine f_then ?_
    refine c_seq ?_
    refine c_seq ?_
    refine c_reg ?_
    refine sq (rd_move rfl) rfl ?_
    refine sq (rd_move rfl) rfl ?_
    refine sq (rd_addn (u) (B) rfl rfl rfl rfl (by omega)) rfl ?_
    refine sq (rd_assign rfl) rfl ?_
    refine s_end ?_
    refine f_then ?_
    refine c_seq ?_
    refine c_reg ?_
    refine sq (rd_move rfl) rfl ?_
    refine sq (rd_move rfl) rfl ?_
    refine sq (rd_lss rfl rfl) rfl ?_
    refine s_end ?_
    refine f_then ?_
    refine c_if rfl (fun h54 => ?_) (fun h54 => ?_)
    ·refine c_reg ?_
     refine sq (rd_move rfl) rfl ?_
     refine sq (rd_move rfl) rfl ?_
     refine sq (rd_move rfl) rfl ?_
     refine sq (rd_move rfl) rfl ?_
     refine sq (rd_move rfl) rfl ?_
     refine sx (ef_call rfl rfl K125 (fun _ e => by cases e; rfl) [.row _ _ A n cap _] _ (.refl _) _ _ _ (fun w hS => by exact c125 (n - u + 1) w A cap n dk g cmp hg hcmp hdk hn  lq hO u (u + B) n (by omega) (by omega) (by omega) (hb2.range (q := 2 * q) (by rw [two_blocks, hu]) (Nat.le_refl _) (by omega)) ((hb2.rest (b := u + B) (by omega) (Sort.permIn_refl _ u (u + B))).range (q := 2 * q + 1) (by rw [two_blocks1, hu]) (by omega) (by omega)) (fun i j h1 h2 h3 h4 => hag i j (by omega) (by omega)) (by omega) hS.own)) rfl ?_
     rintro x ⟨hx1, hx2, hx3⟩
     refine s_end ?_
     refine f_then ?_
     refine c_reg ?_
     refine sq (rd_move rfl) rfl ?_
     refine sq (rd_muln (B) (2) rfl rfl rfl rfl (by omega)) rfl ?_
     refine sq (rd_assign rfl) rfl ?_
     refine s_end ?_
     refine f_blk ?_
     refine f_again ((B * 2, x)) (⟨by omega, hx1, Sort.permIn_trans _ _ _ _ _ hp (Sort.permIn_mono _ _ u n _ _ (by omega) (by omega) (by omega) hx2), hag.turn hH (by omega) (Nat.le_refl _) hx2 hx3, by rw [Nat.mul_comm B 2]; exact hb1.more hu (by omega) hx2 hx3⟩) (by show n - B * 2 < n - B; omega) (by repeat constructor) (fun _ h => h.sb)
    ·refine c_skip ?_
     refine f_then ?_
     refine c_reg ?_
     refine sq (rd_move rfl) rfl ?_
     refine sq (rd_muln (B) (2) rfl rfl rfl rfl (by omega)) rfl ?_
     refine sq (rd_assign rfl) rfl ?_
     refine s_end ?_
     refine f_blk ?_
     refine f_again ((B * 2, dk)) (⟨by omega, hdk, hp, hag, by rw [Nat.mul_comm B 2]; exact Blocks.last hb1 hb2 hu (by omega)⟩) (by show n - B * 2 < n - B; omega) (by repeat constructor) (fun _ h => h.sb)
  ·refine c_exit ?_
   refine f_then_x ?_
   refine f_then_x ?_
   refine f_blk_x ?_
   refine f_end rfl .nil ?_
   exact fun w' hS => ⟨_, rfl, dk, rfl, ⟨hdk, hp, hbl.whole (by omega)⟩, hS⟩
theorem c33 (w : World) (A : Option Addr) (cap n : Nat) (d : Array SN) (g : Nat) (cmp : SN → SN → Int) (hg : callTy Tryz.prog g) (hcmp : ∀ x y, Pu Tryz.prog g [.agg (SN.enc x).toArray, .agg (SN.enc y).toArray] (.int .i64 (cmp x y))) (hd : d.size = n) (hn : n ≤ 1000000) (lq : SN → SN → Bool) (hO : Sort.SWO lq) (hH : ∀ u v, ltOf cmp u v = true → lq u v = true) (hag : Agree (ltOf cmp) lq n d) (hS : St w (fpOf [.row 64 4 A n cap (flat SN.enc d.toList)]) [.row 64 4 A n cap (flat SN.enc d.toList)] w) : Calls Tryz.prog 33 [.slice A n cap, .func (.func g) #[] #[]].toArray w (RtE fun v w' => ∃ x : Array SN, v = (fun _ => .tuple #[]) x ∧ (fun x => x.size = n ∧ Sort.PermIn 0 n d x ∧ Sort.SortedIn lq 0 n x) x ∧ St w (fpOf [.row 64 4 A n cap (flat SN.enc d.toList)]) ((fun x => [.row 64 4 A n cap (flat SN.enc x.toList)]) x) w') := by
 refine enter Tryz.func33 rfl Tryz.ntmps33 rfl hS ?_
 have hA0 : 0 < n → plainA A := fun h => ((row_know (List.mem_cons_self ..) w hS).2.2.2 h).1
 refine c_reg ?_
 refine sq (rd_move rfl) rfl ?_
 refine sq (rd_move rfl) rfl ?_
 refine sq (rd_len S62 rfl rfl) rfl ?_
 refine sq (rd_move rfl) rfl ?_
 refine sx (ef_call rfl rfl K74 (fun _ e => by cases e; rfl) [.row _ _ A n cap _] _ (.refl _) _ _ _ (fun w hS => by exact c74 w A cap n d g cmp hg hcmp hd hn  lq hO hH hag hS.own)) rfl ?_
 rintro x hx
 refine s_end ?_
 refine f_end rfl .nil ?_
 exact fun w' hS => ⟨_, rfl, x, rfl, hx, hS⟩

end Go.Proofs.YtfccnoccfhgcbaaGreatDoor
namespace Go.Proofs.YtfccnoccfhgcbaaGreatDoor
open Go Go.RowKit

theorem sat_ok (x : Int) : isI64 (sat x) := by
 unfold sat isI64
 split
 ·omega
 ·split <;> omega
/-- How far a place is from a player. -/
def farOf (x y z : Int) (q : PL) : Int := long (sat (x - q.px)) (sat (y - q.py)) (sat (z - q.pz))
/-- One more, if it is near. -/
def near (l : List SN) (x : SN) : List SN := if x.far ≤ 786432 then l ++ [x] else l
theorem Part.sub {cs us vs : List Value} {k sz o s : Nat} (h : Part cs k sz us) (g : GetR us o s vs) (ho : o + s ≤ sz) : Part cs (k + o) s vs := by
 obtain ⟨g1, g2⟩ := g.spec
 refine ⟨g1, fun j hj => ?_⟩
 rw [← g2 j hj, Nat.add_assoc, h.2 (o + j) (by omega)]
end Go.Proofs.YtfccnoccfhgcbaaGreatDoor
namespace Go.Proofs.YtfccnoccfhgcbaaGreatDoor
open Go Go.RowKit
theorem K29 : callTy Tryz.prog 29 := by unfold callTy; kernel_rfl
theorem K32 : callTy Tryz.prog 32 := by unfold callTy; kernel_rfl
theorem K31 : callTy Tryz.prog 31 := by unfold callTy; kernel_rfl
theorem C62 : cellTy Tryz.prog 62 := ⟨by kernel_rfl, by kernel_rfl⟩
theorem Rt62 : rowTy Tryz.prog 62 64 4 32 [.int .i64 0, .int .i64 0, .int .i64 0, .int .i64 0] := ⟨by kernel_rfl, by kernel_rfl, by kernel_rfl, by unfold zeroTy; kernel_rfl, by decide, rfl⟩
theorem c29 (w : World) (b : Nat) (id : Int) (p : PL) (hc : w.cell? ⟨b, 0, none⟩ = some (.int .i64 id)) : Pw Tryz.prog w 29 [.agg p.enc.toArray, .pointer (some ⟨b, 0, none⟩)] (.bool (decide (p.id = id))) := by
 refine Pw.enter Tryz.func29 rfl Tryz.ntmps29 rfl ?_
 refine c_seq ?_
 refine c_reg ?_
 refine sx (ef_box rfl rfl rfl) rfl ?_
 rintro b2 hb2
 refine sq (rd_assign rfl) rfl ?_
 refine s_end ?_
 refine f_then ?_
 refine c_seq ?_
 refine c_reg ?_
 refine sq (rd_field F51_0 rfl) rfl ?_
 refine sq (rd_ldb C3 rfl (by first | exact .head _) rfl) rfl ?_
 refine sq (rd_ldbase C3 rfl rfl hc (none'_no _)) rfl ?_
 refine sq (rd_eql rfl rfl) rfl ?_
 refine sq (rd_assign rfl) rfl ?_
 refine s_end ?_
 refine f_then ?_
 refine c_ret ?_
 refine f_ret rfl (.tmp rfl .nil) ?_
 exact pu_end rfl

theorem findp_hit {α : Type} {l : List α} {p : α → Bool} : ∀ {k : Nat} {x : α}, (∀ (j : Nat) (y : α), j < k → l[j]? = some y → p y = false) → l[k]? = some x → p x = true → l.findIdx? p = some k := by
 intro k x h1 h2 h3
 rw [List.findIdx?_eq_some_iff_getElem]
 obtain ⟨hk, hx⟩ := List.getElem?_eq_some_iff.1 h2
 refine ⟨hk, by rw [hx]; exact h3, fun j hj => ?_⟩
 have := h1 j (l[j]'(by omega)) hj (by simp)
 simp [this]
theorem findp_miss {α : Type} {l : List α} {p : α → Bool} (h : ∀ (j : Nat) (y : α), j < l.length → l[j]? = some y → p y = false) : l.findIdx? p = none := by
 rw [List.findIdx?_eq_none_iff]
 intro x hx
 obtain ⟨j, hj⟩ := List.getElem?_of_mem hx
 exact h j x (List.getElem?_eq_some_iff.1 hj).1 hj

theorem c28 (w : World) (A : Option Addr) (n cap b : Nat) (id : Int) (ps : List PL) (hc : w.cell? ⟨b, 0, none⟩ = some (.int .i64 id)) (hsl : Sl w none' A n 15 (flat PL.enc ps)) : Pw Tryz.prog w 28 [.slice A n cap, .func (.func 29) #[] #[.pointer (some ⟨b, 0, none⟩)]] (.int .i64 (ix (ps.findIdx? (fun p : PL => decide (p.id = id))))) := by
 refine Pw.enter Tryz.func28 rfl Tryz.ntmps28 rfl ?_
 refine c_seq ?_
 refine c_reg ?_
 refine sq (rd_assign rfl) rfl ?_
 refine s_end ?_
 refine f_then ?_
 refine c_seq ?_
 refine c_seq ?_
 have hlen : ps.length = n := by have := hsl.len; rw [flat_len PL.enc_len] at this; omega
 have hmax := hsl.max
 refine c_reg ?_
 refine sq (rd_move rfl) rfl ?_
 refine sq (rd_len S22 rfl rfl) rfl ?_
 refine sq (rd_move rfl) rfl ?_
 refine s_end ?_
 refine f_then ?_
 refine c_block ?_
 refine c_keep (L' := [(0, _), (1, _), (4, _), (7, _), (8, _)]) (by repeat constructor) ?_
 refine c_for (α := Nat) (fun k => k ≤ n ∧ ∀ (j : Nat) (y : PL), j < k → ps[j]? = some y → (fun p : PL => decide (p.id = id)) y = false) (fun k => []) [] (fun k => [(8, .int .i64 (k : Int))]) [(0, _), (1, _), (4, _), (7, _)] (fun k => n - k) (0) (⟨Nat.zero_le _, fun _ _ h => absurd h (Nat.not_lt_zero _)⟩) (by repeat constructor) (fun _ h => h) ?_
 rintro k ⟨hk, hno⟩
 refine c_seq ?_
 refine c_reg ?_
 refine sq (rd_lss rfl rfl) rfl ?_
 refine s_end ?_
 refine f_then ?_
 refine c_seq ?_
 refine c_if rfl (fun h9 => ?_) (fun h9 => ?_)
 ·have hkn : k < n := by omega
  obtain ⟨x, hx⟩ : ∃ x, ps[k]? = some x := ⟨ps[k]'(by omega), by simp⟩
  refine c_skip ?_
  refine f_then ?_
  refine c_seq ?_
  refine c_block ?_
  refine c_seq ?_
  refine c_reg ?_
  refine sq (rd_move rfl) rfl ?_
  refine sq (rd_assign rfl) rfl ?_
  refine s_end ?_
  refine f_then ?_
  refine c_seq ?_
  refine c_reg ?_
  refine sq (rd_move rfl) rfl ?_
  refine sq (rd_move rfl) rfl ?_
  refine sq (rd_move rfl) rfl ?_
  refine sq (rd_index S22 rfl rfl hsl.plain (by omega) (by omega)) rfl ?_
  refine sq (rd_ldssl A51 hsl rfl (flat_part PL.enc_len ps _ x hx)) rfl ?_
  refine se (ef_pw rfl rfl K29 rfl (fun w hS => by exact c29 w b id x (hS.base_cell hc (none'_no _)))) rfl ?_
  refine s_end ?_
  refine f_then ?_
  refine c_cond rfl (fun h16 => ?_) (fun h16 => ?_)
  ·refine c_seq ?_
   refine c_reg ?_
   refine sq (rd_move rfl) rfl ?_
   refine sq (rd_assign rfl) rfl ?_
   refine s_end ?_
   refine f_then ?_
   refine c_ret ?_
   refine f_blk_r ?_
   refine f_then_r ?_
   refine f_then_r ?_
   refine f_blk_r ?_
   refine f_then_r ?_
   refine f_ret rfl (.tmp rfl .nil) ?_
   refine pu_end (int_eq ?_)
   rw [findp_hit hno hx (by simpa using h16)]
   rfl
  ·refine c_skip ?_
   refine f_blk ?_
   refine f_then ?_
   refine c_reg ?_
   refine sq (rd_add rfl rfl (by first | exact wrap_i64 (by omega) | exact rfl)) rfl ?_
   refine sq (rd_move rfl) rfl ?_
   refine s_end ?_
   refine f_again (k + 1) (⟨by omega, fun j y hj hy => by rcases Nat.lt_succ_iff_lt_or_eq.1 hj with h | h; exact hno j y h hy; subst h; rw [hx] at hy; injection hy with hy; subst hy; simpa using h16⟩) (by omega) (by repeat constructor) (fun _ h => h.sb)
 ·have hkn : k = n := by omega
  subst hkn
  refine c_exit ?_
  refine f_then_x ?_
  refine f_then_x ?_
  refine f_blk_x ?_
  refine f_then ?_
  refine c_seq ?_
  refine c_reg ?_
  refine sq (rd_assign rfl) rfl ?_
  refine s_end ?_
  refine f_then ?_
  refine c_ret ?_
  refine f_ret rfl (.tmp rfl .nil) ?_
  refine pu_end (int_eq ?_)
  rw [findp_miss (fun j y hj => hno j y (by omega))]
  rfl

theorem c30 (w : World) (A B L : Option Addr) (n m c d lc bs bm bl me : Nat) (ps : List PL) (l : List SN) (e0 : SN) (px py pz : Int) (own : Bool) (q : PL) (hq : ps[me]? = some q) (hqk : q.ok) (h1 : isI64 px) (h2 : isI64 py) (h3 : isI64 pz) (hl : l.length ≤ 1000000) (hsl : Sl w (fpOf [.blk bs [.slice A n c, .slice B m d] 25, .blk bm [.int .i64 (me : Int)] 3, .blk bl [.slice L l.length lc] 62, .row 64 4 L l.length lc (flat SN.enc l)]) A n 15 (flat PL.enc ps)) (hS : St w (fpOf [.blk bs [.slice A n c, .slice B m d] 25, .blk bm [.int .i64 (me : Int)] 3, .blk bl [.slice L l.length lc] 62, .row 64 4 L l.length lc (flat SN.enc l)]) [.blk bs [.slice A n c, .slice B m d] 25, .blk bm [.int .i64 (me : Int)] 3, .blk bl [.slice L l.length lc] 62, .row 64 4 L l.length lc (flat SN.enc l)] w) : Calls Tryz.prog 30 [.agg e0.enc.toArray, .agg (vecL px py pz).toArray, .bool own, .pointer (some ⟨bs, 0, none⟩), .pointer (some ⟨bm, 0, none⟩), .pointer (some ⟨bl, 0, none⟩)].toArray w (RtE fun v w' => ∃ x : Option Addr × Nat, v = (fun _ => .tuple #[]) x ∧ (fun _ => True) x ∧ St w (fpOf [.blk bs [.slice A n c, .slice B m d] 25, .blk bm [.int .i64 (me : Int)] 3, .blk bl [.slice L l.length lc] 62, .row 64 4 L l.length lc (flat SN.enc l)]) ((fun y => [.blk bs [.slice A n c, .slice B m d] 25, .blk bm [.int .i64 (me : Int)] 3, .blk bl [.slice y.1 (near l { e0 with far := if own = true then 0 else farOf px py pz q }).length y.2] 62, .row 64 4 y.1 (near l { e0 with far := if own = true then 0 else farOf px py pz q }).length y.2 (flat SN.enc (near l { e0 with far := if own = true then 0 else farOf px py pz q }))]) x) w') := by
 refine enter Tryz.func30 rfl Tryz.ntmps30 rfl hS ?_
 refine c_seq ?_
 refine c_reg ?_
 refine sx (ef_box rfl rfl rfl) rfl ?_
 rintro b6 hb6
 refine sx (ef_box rfl rfl rfl) rfl ?_
 rintro b7 hb7
 refine s_end ?_
 refine f_then ?_
 refine c_seq ?_
 have hlen : ps.length = n := by have := hsl.len; rw [flat_len PL.enc_len] at this; omega
 have hmax := hsl.max
 have hme : me < ps.length := (List.getElem?_eq_some_iff.1 hq).1
 obtain ⟨k0, k1, k2, k3, _⟩ := hqk
 refine c_regd [.blk b7 _ _, .blk bs _ _, .blk bm _ _, .blk bl _ _, .row _ _ L _ lc _] (.q 0 (.q 1 (.q 2 (.q 3 (.q 4 (.q 5 (.q 6 (.alt 7 (.alt 8 (.q 9 (.alt 10 .done .stop)) .stop) .stop)))))))) (by kernel_rfl) (by kernel_rfl) (by kernel_rfl) (by kernel_rfl) (fun _ h => h.sb) ?_
 refine dq rfl (rd_ldsb A48 rfl (by repeat constructor) (by first | exact GetR.all _ | repeat constructor)) rfl ?_
 refine dq rfl (rd_field F25_0 rfl) rfl ?_
 refine dq rfl (rd_ldb C22 rfl (by repeat constructor) rfl) rfl ?_
 refine dq rfl (rd_ldb C3 rfl (by repeat constructor) rfl) rfl ?_
 refine dq rfl (rd_index S22 rfl rfl hsl.plain (by omega) (by omega)) rfl ?_
 refine dq rfl (rd_field F51_1 rfl) rfl ?_
 refine dq rfl (rd_ldssl (k := me * 15 + 1) A48 hsl rfl ((flat_part PL.enc_len ps me q hq).sub (vs := vecL q.px q.py q.pz) (by repeat constructor) (by decide))) rfl ?_
 refine de rfl rfl (ef_pure rfl rfl K32 rfl (by exact c32 px py pz q.px q.py q.pz h1 h2 h3 k1 k2 k3)) (fun _ h => h.sb) ?_ d_stop
 refine de rfl rfl (ef_pure rfl rfl K31 rfl (by exact c31 _ _ _ (sat_ok _) (sat_ok _) (sat_ok _))) (fun _ h => h.sb) ?_ d_stop
 refine dq rfl (rd_field F64_0 rfl) rfl ?_
 refine de rfl rfl (ef_store C2 rfl rfl (by repeat constructor) (by repeat constructor) rfl) (fun _ h => h.sb) ?_ d_stop
 refine d_end ?_
 refine f_then ?_
 refine c_front (.row _ _ L _ lc _) (by repeat constructor) ?_
 refine c_front (.blk bl _ _) (by repeat constructor) ?_
 refine c_front (.blk bm _ _) (by repeat constructor) ?_
 refine c_front (.blk bs _ _) (by repeat constructor) ?_
 refine c_front (.blk b7 _ _) (by repeat constructor) ?_
 refine c_front (.blk b6 _ _) (by repeat constructor) ?_
 refine c_meet2 (α := Int) (fun ff => ff = if own = true then 0 else farOf px py pz q) (fun ff => [.blk b6 [.int .i64 ff, .int .i64 e0.id, .int .i64 e0.so, .int .i64 e0.pl] 64]) [.blk b7 _ _, .blk bs _ _, .blk bm _ _, .blk bl _ _, .row _ _ L _ lc _] (fun ff => []) [(5, _), (6, _)] (.cons rfl (.cons rfl .nil)) [.blk b6 _ _] (fun _ h => h) ?_ ?_
 ·refine c_seq ?_
  refine c_reg ?_
  refine sq (rd_move rfl) rfl ?_
  refine s_end ?_
  refine f_then ?_
  refine c_cond rfl (fun h19 => ?_) (fun h19 => ?_)
  ·refine c_reg ?_
   refine sq (rd_field F64_0 rfl) rfl ?_
   refine se (ef_store C2 rfl rfl (by repeat constructor) (by repeat constructor) rfl) rfl ?_
   refine s_end ?_
   refine f_cut (0) (by rw [if_pos h19]) (.cons rfl (.cons rfl .nil)) (fun _ h => h.sb)
  ·refine c_skip ?_
   refine f_cut (farOf px py pz q) (by rw [if_neg (by simp [h19])]) (.cons rfl (.cons rfl .nil)) (fun _ h => h.sb)
 ·rintro ff hff
  refine c_seq ?_
  refine c_reg ?_
  refine sq (rd_field F64_0 rfl) rfl ?_
  refine sq (rd_ldb C2 rfl (by repeat constructor) rfl) rfl ?_
  refine sq (rd_leq rfl rfl) rfl ?_
  refine s_end ?_
  refine f_then ?_
  refine c_if rfl (fun h23 => ?_) (fun h23 => ?_)
  ·refine c_reg ?_
   refine sq (rd_ldb C62 rfl (by repeat constructor) rfl) rfl ?_
   refine sq (rd_ldsb A64 rfl (by repeat constructor) (by first | exact GetR.all _ | repeat constructor)) rfl ?_
   refine sx (ef_slice Rt62 rfl (by repeat constructor) rfl rfl) rfl ?_
   rintro b26 hb26
   refine s_front (.row _ _ L _ lc _) (by repeat constructor) ?_
   refine sx (ef_append Rt62 rfl rfl rfl rfl (src_blk (by repeat constructor) rfl) rfl (by omega) (by unfold maxLen; omega) rfl) rfl ?_
   rintro ⟨L', lc'⟩ hL'
   refine se (ef_store C62 rfl rfl (by repeat constructor) (by repeat constructor) rfl) rfl ?_
   refine s_end ?_
   refine f_front (.blk bl _ _) (by repeat constructor) ?_
   refine f_front (.blk bm _ _) (by repeat constructor) ?_
   refine f_front (.blk bs _ _) (by repeat constructor) ?_
   refine f_end rfl .nil ?_
   have e : (near l { e0 with far := if own = true then 0 else farOf px py pz q }) = l ++ [⟨ff, e0.id, e0.so, e0.pl⟩] := by rw [hff]; unfold near; rw [← hff, if_pos (by show ff ≤ 786432; omega)]
   refine fun w' hS => ⟨_, rfl, (L', lc'), rfl, trivial, ?_⟩
   rw [e]
   simp only [List.length_append, List.length_cons, List.length_nil, Nat.zero_add, flat_append, flat_one]
   exact St.sub (E' := [_, _, _, _]) hS (by repeat (first | exact .refl _ | apply List.Sublist.cons_cons | apply List.Sublist.cons))
  ·refine c_skip ?_
   refine f_front (.row _ _ L _ lc _) (by repeat constructor) ?_
   refine f_front (.blk bl _ _) (by repeat constructor) ?_
   refine f_front (.blk bm _ _) (by repeat constructor) ?_
   refine f_front (.blk bs _ _) (by repeat constructor) ?_
   refine f_end rfl .nil ?_
   have e : (near l { e0 with far := if own = true then 0 else farOf px py pz q }) = l := by unfold near; rw [← hff, if_neg (by show ¬ ff ≤ 786432; omega)]
   refine fun w' hS => ⟨_, rfl, (L, lc), rfl, trivial, ?_⟩
   rw [e]
   exact St.sub (E' := [_, _, _, _]) hS (by repeat (first | exact .refl _ | apply List.Sublist.cons_cons | apply List.Sublist.cons))

end Go.Proofs.YtfccnoccfhgcbaaGreatDoor
namespace Go.Proofs.YtfccnoccfhgcbaaGreatDoor
open Go Go.RowKit

def tpOne (me : Nat) (q p : PL) (i : Nat) : List SN := if i = me then [⟨-1, 0, 0, (i : Int)⟩] else near [] ⟨farOf p.px p.py p.pz q, p.id, 0, (i : Int)⟩
def tsOne (id : Int) (q : PL) (s : SH) (i : Nat) : List SN := near [] ⟨if decide (s.ow = id) = true then 0 else farOf s.px s.py s.pz q, s.id, 1, (i : Int)⟩
def tpL (me : Nat) (q : PL) (ps : List PL) : List SN := ps.zipIdx.flatMap fun x => tpOne me q x.1 x.2
def tsL (id : Int) (q : PL) (ss : List SH) : List SN := ss.zipIdx.flatMap fun x => tsOne id q x.1 x.2
theorem near_app (l : List SN) (x : SN) : near l x = l ++ near [] x := by
 unfold near
 split <;> simp
theorem zip_take {α : Type} {l : List α} {k : Nat} {x : α} (h : l[k]? = some x) : (l.take (k + 1)).zipIdx = (l.take k).zipIdx ++ [(x, k)] := by
 have hk : k < l.length := (List.getElem?_eq_some_iff.1 h).1
 rw [List.take_add_one, h]
 simp only [Option.toList_some, List.zipIdx_append, List.length_take, Nat.zero_add]
 rw [Nat.min_eq_left (by omega)]
 rfl
theorem tpL_step {me k : Nat} {q p : PL} {ps : List PL} (h : ps[k]? = some p) : tpL me q (ps.take (k + 1)) = tpL me q (ps.take k) ++ tpOne me q p k := by
 unfold tpL
 rw [zip_take h]
 simp
theorem tsL_step {id : Int} {k : Nat} {q : PL} {s : SH} {ss : List SH} (h : ss[k]? = some s) : tsL id q (ss.take (k + 1)) = tsL id q (ss.take k) ++ tsOne id q s k := by
 unfold tsL
 rw [zip_take h]
 simp
theorem near_len (x : SN) : (near [] x).length ≤ 1 := by
 unfold near
 split <;> simp
theorem tpOne_len (me : Nat) (q p : PL) (i : Nat) : (tpOne me q p i).length ≤ 1 := by
 unfold tpOne
 split
 ·simp
 ·exact near_len _
theorem flat_le {α : Type} {f : α × Nat → List SN} (hf : ∀ x, (f x).length ≤ 1) : ∀ (l : List (α × Nat)), (l.flatMap f).length ≤ l.length
 | [] => by simp
 | x :: l => by
  have h1 := flat_le hf l
  have h2 := hf x
  simp only [List.flatMap_cons, List.length_append, List.length_cons]
  omega
theorem tpL_len (me : Nat) (q : PL) (ps : List PL) : (tpL me q ps).length ≤ ps.length := by
 have := flat_le (f := fun x => tpOne me q x.1 x.2) (fun x => tpOne_len _ _ _ _) ps.zipIdx
 simpa [tpL] using this
theorem tsL_len (id : Int) (q : PL) (ss : List SH) : (tsL id q ss).length ≤ ss.length := by
 have := flat_le (f := fun x => tsOne id q x.1 x.2) (fun x => near_len _) ss.zipIdx
 simpa [tsL] using this
/-- All four, one behind the other. -/
def lqS (x y : SN) : Bool := decide (x.far < y.far ∨ (x.far = y.far ∧ (x.id < y.id ∨ (x.id = y.id ∧ (x.so < y.so ∨ (x.so = y.so ∧ x.pl < y.pl))))))
theorem lqS_swo : Sort.SWO lqS where
 irrefl x := by simp [lqS]
 trans x y z h1 h2 := by
  simp only [lqS, decide_eq_true_eq] at *
  omega
 ntrans x y z h1 h2 := by
  simp only [lqS, decide_eq_false_iff_not] at *
  omega
theorem lqS_total (x y : SN) (h1 : lqS x y = false) (h2 : lqS y x = false) : x = y := by
 simp only [lqS, decide_eq_false_iff_not] at *
 obtain ⟨a, b, c, d⟩ := x
 obtain ⟨a', b', c', d'⟩ := y
 simp only [SN.mk.injEq] at *
 omega
theorem cmpI_cases (a b : Int) : (a < b ∧ cmpI a b = -1) ∨ (a = b ∧ cmpI a b = 0) ∨ (b < a ∧ cmpI a b = 1) := by
 unfold cmpI
 rcases Int.lt_trichotomy a b with h | h | h
 ·exact .inl ⟨h, if_pos h⟩
 ·exact .inr (.inl ⟨h, by rw [if_neg (by omega), if_neg (by omega)]⟩)
 ·exact .inr (.inr ⟨h, by rw [if_neg (by omega), if_pos h]⟩)
theorem cmpFar_lt (x y : SN) : ltOf cmpFar x y = decide (x.far < y.far ∨ (x.far = y.far ∧ (x.id < y.id ∨ (x.id = y.id ∧ x.so < y.so)))) := by
 unfold ltOf cmpFar
 rw [Bool.eq_iff_iff]
 simp only [decide_eq_true_eq]
 rcases cmpI_cases x.far y.far with ⟨h, e⟩ | ⟨h, e⟩ | ⟨h, e⟩ <;> rw [e]
 ·simp [orI, h]
 ·rcases cmpI_cases x.id y.id with ⟨h2, e2⟩ | ⟨h2, e2⟩ | ⟨h2, e2⟩ <;> rw [e2]
  ·simp [orI, h, h2]
  ·rcases cmpI_cases x.so y.so with ⟨h3, e3⟩ | ⟨h3, e3⟩ | ⟨h3, e3⟩ <;> rw [e3] <;> simp [orI, h, h2, h3]
   omega
  ·simp [orI, h]
   omega
 ·simp [orI]
  omega
theorem cmpFar_lq (x y : SN) (h : ltOf cmpFar x y = true) : lqS x y = true := by
 rw [cmpFar_lt] at h
 simp only [lqS, decide_eq_true_eq] at *
 omega
theorem cmpPl_lt (x y : SN) : ltOf cmpPl x y = decide (x.pl < y.pl) := by
 unfold ltOf cmpPl
 rw [Bool.eq_iff_iff]
 simp only [decide_eq_true_eq]
 rcases cmpI_cases x.pl y.pl with ⟨h, e⟩ | ⟨h, e⟩ | ⟨h, e⟩ <;> rw [e] <;> omega
theorem cmpPl_swo : Sort.SWO (ltOf cmpPl) where
 irrefl x := by simp [cmpPl_lt]
 trans x y z h1 h2 := by
  simp only [cmpPl_lt, decide_eq_true_eq] at *
  omega
 ntrans x y z h1 h2 := by
  simp only [cmpPl_lt, decide_eq_false_iff_not] at *
  omega
/-- One behind the other: by sort, and by place. -/
def Behind (x y : SN) : Prop := x.so < y.so ∨ (x.so = y.so ∧ x.pl < y.pl)
end Go.Proofs.YtfccnoccfhgcbaaGreatDoor
namespace Go.Proofs.YtfccnoccfhgcbaaGreatDoor
open Go Go.RowKit

theorem near_mem {x y : SN} (h : y ∈ near [] x) : y = x := by
 unfold near at h
 split at h
 ·simpa using h
 ·simp at h
theorem tpOne_mem {me i : Nat} {q p : PL} {y : SN} (h : y ∈ tpOne me q p i) : y.so = 0 ∧ y.pl = (i : Int) := by
 unfold tpOne at h
 split at h
 ·have : y = ⟨-1, 0, 0, (i : Int)⟩ := by simpa using h
  subst this
  exact ⟨rfl, rfl⟩
 ·have := near_mem h
  subst this
  exact ⟨rfl, rfl⟩
theorem tsOne_mem {i : Nat} {id : Int} {q : PL} {s : SH} {y : SN} (h : y ∈ tsOne id q s i) : y.so = 1 ∧ y.pl = (i : Int) := by
 have := near_mem h
 subst this
 exact ⟨rfl, rfl⟩
theorem one_pairwise {α : Type} {R : α → α → Prop} {l : List α} (h : l.length ≤ 1) : l.Pairwise R := by
 match l, h with
 | [], _ => exact .nil
 | [x], _ => exact List.pairwise_singleton _ _
theorem zip_pairwise {α : Type} (l : List α) : l.zipIdx.Pairwise fun a b => a.2 < b.2 := by
 rw [List.pairwise_iff_getElem]
 intro i j hi hj hij
 simp [List.getElem_zipIdx]
 omega
theorem things_behind (me : Nat) (id : Int) (q : PL) (ps : List PL) (ss : List SH) : (tpL me q ps ++ tsL id q ss).Pairwise Behind := by
 rw [List.pairwise_append]
 refine ⟨?_, ?_, ?_⟩
 ·unfold tpL
  rw [List.pairwise_flatMap]
  refine ⟨fun a _ => one_pairwise (tpOne_len _ _ _ _), (zip_pairwise ps).imp fun {a b} hab x hx y hy => ?_⟩
  have h1 := tpOne_mem hx
  have h2 := tpOne_mem hy
  exact .inr ⟨by omega, by omega⟩
 ·unfold tsL
  rw [List.pairwise_flatMap]
  refine ⟨fun a _ => one_pairwise (near_len _), (zip_pairwise ss).imp fun {a b} hab x hx y hy => ?_⟩
  have h1 := tsOne_mem hx
  have h2 := tsOne_mem hy
  exact .inr ⟨by omega, by omega⟩
 ·intro x hx y hy
  unfold tpL at hx
  unfold tsL at hy
  obtain ⟨a, _, hx⟩ := List.mem_flatMap.1 hx
  obtain ⟨b, _, hy⟩ := List.mem_flatMap.1 hy
  have h1 := tpOne_mem hx
  have h2 := tsOne_mem hy
  exact .inl (by omega)
theorem behind_agree {l : List SN} (h : l.Pairwise Behind) : Agree (ltOf cmpFar) lqS l.length l.toArray := by
 intro i j hij hj
 have hi : i < l.length := by omega
 have hb := List.pairwise_iff_getElem.1 h i j hi hj hij
 have e1 : l.toArray[i]! = l[i] := by rw [getElem!_pos _ _ (by simpa using hi)]; simp
 have e2 : l.toArray[j]! = l[j] := by rw [getElem!_pos _ _ (by simpa using hj)]; simp
 rw [e1, e2, cmpFar_lt, Bool.eq_iff_iff]
 simp only [lqS, decide_eq_true_eq]
 unfold Behind at hb
 omega
/-- The order of what is near: sorted by all four. -/
def inOrder (l : List SN) : List SN := l.mergeSort fun x y => !lqS y x
theorem inOrder_of {l : List SN} {x : Array SN} (hp : Sort.PermIn 0 l.length l.toArray x) (hs : Sort.SortedIn lqS 0 l.length x) : x.toList = inOrder l :=
 Sort.sorted_unique_holds lqS_swo lqS_total l.toArray x (by simpa using hp) (by simpa using hs)
/-- What is seen: of what was kept, the players and the shots. -/
def outP (ps : List PL) (y : List SN) : List PL := y.filterMap fun x => if x.so = 0 then ps[x.pl.toNat]? else none
def outS (ss : List SH) (y : List SN) : List SH := y.filterMap fun x => if x.so = 0 then none else ss[x.pl.toNat]?
/-- How many are kept. -/
def cutN (n : Nat) (budget : Int) : Nat := min n (max budget 1).toNat
/-- What was kept: the first ones, by place. -/
def SeesR (id : Int) (ps : List PL) (ss : List SH) (budget : Int) (y : List SN) : Prop :=
 (ps.findIdx? (fun p => decide (p.id = id)) = none ∧ y = []) ∨ ∃ (me : Nat) (q : PL), ps.findIdx? (fun p => decide (p.id = id)) = some me ∧ ps[me]? = some q ∧
  y.Perm ((inOrder (tpL me q ps ++ tsL id q ss)).take (cutN (tpL me q ps ++ tsL id q ss).length budget)) ∧ y.Pairwise fun a b => a.pl ≤ b.pl
theorem things_mem {me : Nat} {id : Int} {q : PL} {ps : List PL} {ss : List SH} {x : SN} (h : x ∈ tpL me q ps ++ tsL id q ss) : (x.so = 0 ∧ ∃ (i : Nat) (p : PL), x.pl = (i : Int) ∧ ps[i]? = some p) ∨ (x.so = 1 ∧ ∃ (i : Nat) (s : SH), x.pl = (i : Int) ∧ ss[i]? = some s) := by
 rcases List.mem_append.1 h with h | h
 ·unfold tpL at h
  obtain ⟨a, ha, hx⟩ := List.mem_flatMap.1 h
  have h1 := tpOne_mem hx
  exact .inl ⟨h1.1, a.2, a.1, h1.2, List.mem_zipIdx_iff_getElem?.1 ha⟩
 ·unfold tsL at h
  obtain ⟨a, ha, hx⟩ := List.mem_flatMap.1 h
  have h1 := tsOne_mem hx
  exact .inr ⟨h1.1, a.2, a.1, h1.2, List.mem_zipIdx_iff_getElem?.1 ha⟩
theorem permIn_list {α : Type} [Inhabited α] {d y : Array α} {n : Nat} (hd : d.size = n) (h : Sort.PermIn 0 n d y) : y.toList.Perm d.toList := by
 obtain ⟨h1, _, h3⟩ := h
 subst hd
 rw [Sort.extract_toList d 0 d.size (Nat.le_refl _), Sort.extract_toList y 0 d.size (by omega)] at h3
 have e : ∀ (z : Array α), z.size = d.size → (List.range' 0 (d.size - 0)).map (fun i => z[i]!) = z.toList := fun z hz => by
  apply List.ext_getElem?
  intro i
  simp only [Nat.sub_zero, List.getElem?_map]
  rcases Nat.lt_or_ge i d.size with hi | hi
  ·rw [List.getElem?_range' hi]
   simp only [Nat.zero_add, Nat.one_mul, Option.map_some]
   exact (arr_get? (by omega)).symm
  ·rw [List.getElem?_eq_none (by simpa using hi), List.getElem?_eq_none (by simpa [hz] using hi)]
   rfl
 rw [e y h1, e d rfl] at h3
 exact h3
theorem outP_step {ps : List PL} {y : List SN} {k : Nat} {x : SN} {p : PL} (h : y[k]? = some x) (h0 : x.so = 0) (hp : ps[x.pl.toNat]? = some p) : outP ps (y.take (k + 1)) = outP ps (y.take k) ++ [p] := by
 unfold outP
 rw [List.take_add_one, h]
 simp [h0, hp]
theorem outS_step {ss : List SH} {y : List SN} {k : Nat} {x : SN} {s : SH} (h : y[k]? = some x) (h0 : x.so ≠ 0) (hp : ss[x.pl.toNat]? = some s) : outS ss (y.take (k + 1)) = outS ss (y.take k) ++ [s] := by
 unfold outS
 rw [List.take_add_one, h]
 simp [h0, hp]
theorem outP_skip {ps : List PL} {y : List SN} {k : Nat} {x : SN} (h : y[k]? = some x) (h0 : x.so ≠ 0) : outP ps (y.take (k + 1)) = outP ps (y.take k) := by
 unfold outP
 rw [List.take_add_one, h]
 simp [h0]
theorem outS_skip {ss : List SH} {y : List SN} {k : Nat} {x : SN} (h : y[k]? = some x) (h0 : x.so = 0) : outS ss (y.take (k + 1)) = outS ss (y.take k) := by
 unfold outS
 rw [List.take_add_one, h]
 simp [h0]
theorem outP_len (ps : List PL) (y : List SN) : (outP ps y).length ≤ y.length := List.length_filterMap_le _ _
theorem outS_len (ss : List SH) (y : List SN) : (outS ss y).length ≤ y.length := List.length_filterMap_le _ _
theorem sorted_pl {y : Array SN} {n : Nat} (hn : y.toList.length = n) (h : Sort.SortedIn (ltOf cmpPl) 0 n y) : y.toList.Pairwise fun a b => a.pl ≤ b.pl := by
 rw [List.pairwise_iff_getElem]
 intro i j hi hj hij
 have h9 := h i j (Nat.zero_le _) hij (by omega)
 rw [cmpPl_lt] at h9
 have e1 : y.toList[i] = y[i]! := by have := arr_get? (d := y) (i := i) (by simpa using hi); rw [List.getElem?_eq_getElem hi] at this; exact Option.some.inj this
 have e2 : y.toList[j] = y[j]! := by have := arr_get? (d := y) (i := j) (by simpa using hj); rw [List.getElem?_eq_getElem hj] at this; exact Option.some.inj this
 rw [e1, e2]
 simpa using h9
end Go.Proofs.YtfccnoccfhgcbaaGreatDoor
namespace Go.Proofs.YtfccnoccfhgcbaaGreatDoor
open Go Go.RowKit
theorem K30 : callTy Tryz.prog 30 := by unfold callTy; kernel_rfl
theorem K34 : callTy Tryz.prog 34 := by unfold callTy; kernel_rfl
theorem K39 : callTy Tryz.prog 39 := by unfold callTy; kernel_rfl
theorem K28 : callTy Tryz.prog 28 := by unfold callTy; kernel_rfl
theorem Z62 : zeroTy Tryz.prog 62 [.slice none 0 0] := by unfold zeroTy; kernel_rfl
theorem St64 : structTy Tryz.prog 64 [(0, 1), (1, 1), (2, 1), (3, 1)] [.int .i64 0, .int .i64 0, .int .i64 0, .int .i64 0] := ⟨by unfold zeroTy; kernel_rfl, _, Tryz.underlying64, fun w => by kernel_rfl⟩
theorem K33 : callTy Tryz.prog 33 := by unfold callTy; kernel_rfl
theorem K38 : callTy Tryz.prog 38 := by unfold callTy; kernel_rfl
theorem Z64 : zeroTy Tryz.prog 64 [.int .i64 0, .int .i64 0, .int .i64 0, .int .i64 0] := by unfold zeroTy; kernel_rfl
theorem c16 (w : World) (A B : Option Addr) (n m c d : Nat) (id bud : Int) (ps : List PL) (ss : List SH) (h1 : Sl w none' A n 15 (flat PL.enc ps)) (h2 : Sl w none' B m 11 (flat SH.enc ss)) (hok : ∀ p ∈ ps, p.ok) (hok2 : ∀ s ∈ ss, s.ok) (hn : n ≤ 100000) (hm : m ≤ 100000) (hS : St w (fpOf []) [] w) : Calls Tryz.prog 16 [.int .i64 id, .agg #[.slice A n c, .slice B m d], .int .i64 bud].toArray w (RtE fun v w' => ∃ x : List SN × Option Addr × Nat × Option Addr × Nat, v = (fun y => .agg #[.slice y.2.1 (outP ps y.1).length y.2.2.1, .slice y.2.2.2.1 (outS ss y.1).length y.2.2.2.2]) x ∧ (fun y => SeesR id ps ss bud y.1) x ∧ St w (fpOf []) ((fun y => [.row 51 15 y.2.1 (outP ps y.1).length y.2.2.1 (flat PL.enc (outP ps y.1)), .row 54 11 y.2.2.2.1 (outS ss y.1).length y.2.2.2.2 (flat SH.enc (outS ss y.1))]) x) w') := by
 refine enter Tryz.func16 rfl Tryz.ntmps16 rfl hS ?_
 refine c_seq ?_
 refine c_reg ?_
 refine sx (ef_box rfl rfl rfl) rfl ?_
 rintro b3 hb3
 refine sx (ef_box rfl rfl rfl) rfl ?_
 rintro b4 hb4
 refine sx (ef_alloc Z25 rfl) rfl ?_
 rintro b6 hb6
 refine s_end ?_
 refine f_then ?_
 refine c_seq ?_
 have l1 : ps.length = n := by have := h1.len; rw [flat_len PL.enc_len] at this; omega
 have l2 : ss.length = m := by have := h2.len; rw [flat_len SH.enc_len] at this; omega
 obtain ⟨mi, hmi⟩ : ∃ mi, ix (ps.findIdx? (fun p : PL => decide (p.id = id))) = mi := ⟨_, rfl⟩
 refine c_reg ?_
 refine sq (rd_field F25_0 rfl) rfl ?_
 refine sq (rd_ldb C22 rfl (by repeat constructor) rfl) rfl ?_
 refine sq (rd_func rfl rfl) rfl ?_
 refine se (ef_pw rfl rfl K28 rfl (fun w hS => by exact (by have h9 := c28 w A n c b3 id ps (hS.cell (vs := [.int .i64 id]) (te := 3) (by repeat constructor) 0) (h1.hand (Ec := []) hS (by decide)); rw [hmi] at h9; exact h9))) rfl ?_
 refine sx (ef_alloc Z3 rfl) rfl ?_
 rintro b7 hb7
 refine se (ef_store C3 rfl rfl (by repeat constructor) (by repeat constructor) rfl) rfl ?_
 refine s_end ?_
 refine f_then ?_
 refine c_seq ?_
 refine c_seq ?_
 refine c_reg ?_
 refine sq (rd_ldb C3 rfl (by repeat constructor) rfl) rfl ?_
 refine sq (rd_lss rfl rfl) rfl ?_
 refine s_end ?_
 refine f_then ?_
 refine c_if rfl (fun h21 => ?_) (fun h21 => ?_)
 ·refine c_seq ?_
  refine c_reg ?_
  refine sq (rd_ldsb A25 rfl (by repeat constructor) (by first | exact GetR.all _ | repeat constructor)) rfl ?_
  refine se (ef_stores A25 rfl rfl rfl (by repeat constructor) (by first | exact SetR.all rfl | repeat constructor) rfl) rfl ?_
  refine s_end ?_
  refine f_then ?_
  refine c_ret ?_
  refine f_then_r ?_
  refine f_ret rfl (.cell (res_ldsb A25 rfl (by repeat constructor) (by first | exact GetR.all _ | repeat constructor)) .nil) ?_
  refine fun w' hS => ⟨_, rfl, ([], none, 0, none, 0), rfl, .inl ⟨?_, rfl⟩, ?_⟩
  ·cases hf : ps.findIdx? (fun p : PL => decide (p.id = id)) with
   | none => rfl
   | some me => rw [hf] at hmi; simp [ix] at hmi; omega
  ·exact ((hS.sub (E' := []) (List.nil_sublist _)).nilrow 54 11).nilrow 51 15
 ·obtain ⟨me, rfl, hfi⟩ : ∃ me : Nat, mi = (me : Int) ∧ ps.findIdx? (fun p : PL => decide (p.id = id)) = some me := by
   cases hf : ps.findIdx? (fun p : PL => decide (p.id = id)) with
   | none => rw [hf] at hmi; simp [ix] at hmi; omega
   | some me => rw [hf] at hmi; exact ⟨me, hmi.symm, rfl⟩
  have hmel : me < ps.length := (List.findIdx?_eq_some_iff_getElem.1 hfi).1
  obtain ⟨q, hq⟩ : ∃ q, ps[me]? = some q := ⟨ps[me], by simp⟩
  have hqo := hok q (List.mem_of_getElem? hq)
  refine c_skip ?_
  refine f_then ?_
  refine c_seq ?_
  refine c_reg ?_
  refine sx (ef_alloc Z62 rfl) rfl ?_
  rintro b8 hb8
  refine s_end ?_
  refine f_then ?_
  refine c_seq ?_
  refine c_reg ?_
  refine sq (rd_func rfl rfl) rfl ?_
  refine sq (rd_assign rfl) rfl ?_
  refine s_end ?_
  refine f_then ?_
  refine c_seq ?_
  refine c_seq ?_
  refine c_nilrow 64 4 ?_
  refine c_reg ?_
  refine sq (rd_field F25_0 rfl) rfl ?_
  refine sq (rd_ldb C22 rfl (by repeat constructor) rfl) rfl ?_
  refine sq (rd_len S22 rfl rfl) rfl ?_
  refine sq (rd_move rfl) rfl ?_
  refine s_end ?_
  refine f_then ?_
  refine c_block ?_
  refine c_keep (L' := [(2, _), (3, _), (4, _), (6, _), (7, _), (8, _), (9, _), (25, _), (26, _), (27, _)]) (by repeat constructor) ?_
  refine c_front (.blk b3 _ _) (by repeat constructor) ?_
  refine c_front (.blk b4 _ _) (by repeat constructor) ?_
  refine c_front (.blk b6 _ _) (by repeat constructor) ?_
  refine c_front (.blk b7 _ _) (by repeat constructor) ?_
  refine c_front (.row _ _ none _ _ _) (by repeat constructor) ?_
  refine c_front (.blk b8 _ _) (by repeat constructor) ?_
  refine c_for (α := Nat × Option Addr × Nat) (fun ⟨k, L, lc⟩ => k ≤ n) (fun ⟨k, L, lc⟩ => [.blk b8 [.slice L (tpL me q (ps.take k)).length lc] 62, .row 64 4 L (tpL me q (ps.take k)).length lc (flat SN.enc (tpL me q (ps.take k)))]) [.blk b7 _ _, .blk b6 _ _, .blk b4 _ _, .blk b3 _ _] (fun ⟨k, L, lc⟩ => [(27, .int .i64 (k : Int))]) [(2, _), (3, _), (4, _), (6, _), (7, _), (8, _), (9, _), (25, _), (26, _)] (fun ⟨k, L, lc⟩ => n - k) ((0, none, 0)) (Nat.zero_le _) (by repeat constructor) (fun _ h => h) ?_
  rintro ⟨k, L, lc⟩ hk
  refine c_seq ?_
  refine c_reg ?_
  refine sq (rd_lss rfl rfl) rfl ?_
  refine s_end ?_
  refine f_then ?_
  refine c_seq ?_
  refine c_if rfl (fun h28 => ?_) (fun h28 => ?_)
  ·have hkn : k < n := by omega
   obtain ⟨p, hp⟩ : ∃ p, ps[k]? = some p := ⟨ps[k]'(by omega), by simp⟩
   obtain ⟨_, k1, k2, k3, _⟩ := hok p (List.mem_of_getElem? hp)
   refine c_skip ?_
   refine f_then ?_
   refine c_seq ?_
   refine c_block ?_
   refine c_seq ?_
   refine c_reg ?_
   refine sq (rd_move rfl) rfl ?_
   refine sq (rd_index S22 rfl rfl h1.plain (by omega) (by omega)) rfl ?_
   refine sq (rd_ldssl A51 h1 rfl (flat_part PL.enc_len ps _ p hp)) rfl ?_
   refine sx (ef_alloc Z51 rfl) rfl ?_
   rintro b11 hb11
   refine sq (rd_assign rfl) rfl ?_
   refine se (ef_stores A51 rfl rfl rfl (by repeat constructor) (by first | exact SetR.all rfl | repeat constructor) rfl) rfl ?_
   refine s_end ?_
   refine f_then ?_
   refine c_seq ?_
   refine c_seq ?_
   refine c_reg ?_
   refine sq (rd_move rfl) rfl ?_
   refine sq (rd_ldb C3 rfl (by repeat constructor) rfl) rfl ?_
   refine sq (rd_eql rfl rfl) rfl ?_
   refine s_end ?_
   refine f_then ?_
   refine c_if rfl (fun h34 => ?_) (fun h34 => ?_)
   ·refine c_seq ?_
    refine c_reg ?_
    refine sq (rd_ldb C62 rfl (by repeat constructor) rfl) rfl ?_
    refine sq (rd_move rfl) rfl ?_
    refine sq (rd_build St64 rfl (by repeat constructor)) rfl ?_
    refine sx (ef_slice Rt62 rfl (by repeat constructor) rfl rfl) rfl ?_
    rintro b38 hb38
    refine s_front (.row _ _ L _ lc _) (by repeat constructor) ?_
    refine sx (ef_append Rt62 rfl rfl rfl rfl (src_blk (by repeat constructor) rfl) rfl (by have := tpL_len me q (ps.take k); simp only [List.length_take] at this; omega) (by have := tpL_len me q (ps.take k); simp only [List.length_take] at this; unfold maxLen; omega) rfl) rfl ?_
    rintro ⟨L', lc'⟩ hL'
    refine se (ef_store C62 rfl rfl (by repeat constructor) (by repeat constructor) rfl) rfl ?_
    refine s_end ?_
    refine f_then ?_
    refine c_exit ?_
    refine f_then_x ?_
    refine f_blk_x ?_
    refine f_then ?_
    refine c_reg ?_
    refine sq (rd_add rfl rfl (by first | exact wrap_i64 (by omega) | exact rfl)) rfl ?_
    refine sq (rd_move rfl) rfl ?_
    refine s_end ?_
    have e1 : tpL me q (ps.take (k + 1)) = tpL me q (ps.take k) ++ [⟨-1, 0, 0, (k : Int)⟩] := by rw [tpL_step hp, tpOne, if_pos (by omega)]
    refine f_front (.blk b3 _ _) (by repeat constructor) ?_
    refine f_front (.blk b4 _ _) (by repeat constructor) ?_
    refine f_front (.blk b6 _ _) (by repeat constructor) ?_
    refine f_front (.blk b7 _ _) (by repeat constructor) ?_
    refine f_front (.row _ _ L' _ lc' _) (by repeat constructor) ?_
    refine f_front (.blk b8 _ _) (by repeat constructor) ?_
    refine f_again ((k + 1, L', lc')) (by omega) (by show _ - (k + 1) < _ - k; omega) (by repeat constructor) (fun _ h => by dsimp only; rw [e1]; simp only [List.length_append, List.length_cons, List.length_nil, Nat.zero_add, flat_append, flat_one]; exact St.sub (E' := [_, _, _, _, _, _]) h (by repeat (first | exact .refl _ | apply List.Sublist.cons_cons | apply List.Sublist.cons)))
   ·refine c_skip ?_
    refine f_then ?_
    refine c_reg ?_
    refine sq (rd_move rfl) rfl ?_
    refine sq (rd_field F51_0 rfl) rfl ?_
    refine sq (rd_ldb C3 rfl (by repeat constructor) rfl) rfl ?_
    refine sq (rd_move rfl) rfl ?_
    refine sq (rd_build St64 rfl (by repeat constructor)) rfl ?_
    refine sq (rd_field F51_1 rfl) rfl ?_
    refine sq (rd_ldsb A48 rfl (by repeat constructor) (by first | exact GetR.all _ | repeat constructor)) rfl ?_
    refine s_front (.row _ _ L _ lc _) (by repeat constructor) ?_
    refine s_front (.blk b8 _ _) (by repeat constructor) ?_
    refine s_front (.blk b7 _ _) (by repeat constructor) ?_
    refine s_front (.blk b4 _ _) (by repeat constructor) ?_
    refine sx (ef_call rfl rfl K30 (fun _ e => by cases e; rfl) [.blk b4 _ _, .blk b7 _ _, .blk b8 _ _, .row _ _ L _ lc _] _ (.refl _) _ _ _ (fun w hS => by exact c30 w A B L n m c d lc b4 b7 b8 me ps (tpL me q (ps.take k)) ⟨0, p.id, 0, (k : Int)⟩ p.px p.py p.pz false q hq hqo k1 k2 k3 (by have := tpL_len me q (ps.take k); have := tpL_len me q ps; have := tsL_len id q (ss.take k); simp only [List.length_take, List.length_append] at *; omega) (h1.hand hS (by decide)) hS.own)) rfl ?_
    rintro ⟨L', lc'⟩ _
    refine s_end ?_
    refine f_blk ?_
    refine f_then ?_
    refine c_reg ?_
    refine sq (rd_add rfl rfl (by first | exact wrap_i64 (by omega) | exact rfl)) rfl ?_
    refine sq (rd_move rfl) rfl ?_
    refine s_end ?_
    have e1 : tpL me q (ps.take (k + 1)) = near (tpL me q (ps.take k)) ⟨if false = true then 0 else farOf p.px p.py p.pz q, p.id, 0, (k : Int)⟩ := by rw [tpL_step hp, tpOne, if_neg (by omega), if_neg Bool.false_ne_true, near_app (tpL me q (ps.take k))]
    refine f_front (.blk b3 _ _) (by repeat constructor) ?_
    refine f_front (.blk b4 _ _) (by repeat constructor) ?_
    refine f_front (.blk b6 _ _) (by repeat constructor) ?_
    refine f_front (.blk b7 _ _) (by repeat constructor) ?_
    refine f_front (.row _ _ L' _ lc' _) (by repeat constructor) ?_
    refine f_front (.blk b8 _ _) (by repeat constructor) ?_
    refine f_again ((k + 1, L', lc')) (by omega) (by show _ - (k + 1) < _ - k; omega) (by repeat constructor) (fun _ h => by dsimp only; rw [e1]; exact St.sub (E' := [_, _, _, _, _, _]) h (by repeat (first | exact .refl _ | apply List.Sublist.cons_cons | apply List.Sublist.cons)))
  ·have hkn : k = n := by omega
   refine c_exit ?_
   refine f_then_x ?_
   refine f_then_x ?_
   refine f_blk_x ?_
   refine f_then ?_
   refine c_seq ?_
   refine c_seq ?_
   refine c_reg ?_
   refine sq (rd_field F25_1 rfl) rfl ?_
   refine sq (rd_ldb C23 rfl (by repeat constructor) rfl) rfl ?_
   refine sq (rd_len S23 rfl rfl) rfl ?_
   refine sq (rd_move rfl) rfl ?_
   refine s_end ?_
   refine f_then ?_
   refine c_block ?_
   refine c_keep (L' := [(2, _), (3, _), (4, _), (6, _), (8, _), (9, _), (50, _), (51, _), (52, _)]) (by repeat constructor) ?_
   refine c_for (α := Nat × Option Addr × Nat) (fun ⟨k, L, lc⟩ => k ≤ m) (fun ⟨k, L, lc⟩ => [.blk b8 [.slice L ((tpL me q ps ++ tsL id q (ss.take k))).length lc] 62, .row 64 4 L ((tpL me q ps ++ tsL id q (ss.take k))).length lc (flat SN.enc ((tpL me q ps ++ tsL id q (ss.take k))))]) [.blk b7 _ _, .blk b6 _ _, .blk b4 _ _, .blk b3 _ _] (fun ⟨k, L, lc⟩ => [(52, .int .i64 (k : Int))]) [(2, _), (3, _), (4, _), (6, _), (8, _), (9, _), (50, _), (51, _)] (fun ⟨k, L, lc⟩ => m - k) ((0, L, lc)) (Nat.zero_le _) (by repeat constructor) (fun _ h => by dsimp only at h; rw [List.take_of_length_le (by omega), ← List.append_nil (tpL me q ps)] at h; exact h) ?_
   rintro ⟨k, L, lc⟩ hk
   refine c_seq ?_
   refine c_reg ?_
   refine sq (rd_lss rfl rfl) rfl ?_
   refine s_end ?_
   refine f_then ?_
   refine c_seq ?_
   refine c_if rfl (fun h53 => ?_) (fun h53 => ?_)
   ·have hkn : k < m := by omega
    obtain ⟨s, hs⟩ : ∃ s, ss[k]? = some s := ⟨ss[k]'(by omega), by simp⟩
    obtain ⟨_, _, _, k1, k2, k3, _⟩ := hok2 s (List.mem_of_getElem? hs)
    refine c_skip ?_
    refine f_then ?_
    refine c_seq ?_
    refine c_block ?_
    refine c_seq ?_
    refine c_reg ?_
    refine sq (rd_move rfl) rfl ?_
    refine sq (rd_index S23 rfl rfl h2.plain (by omega) (by omega)) rfl ?_
    refine sq (rd_ldssl A54 h2 rfl (flat_part SH.enc_len ss _ s hs)) rfl ?_
    refine sx (ef_alloc Z54 rfl) rfl ?_
    rintro b13 hb13
    refine sq (rd_assign rfl) rfl ?_
    refine se (ef_stores A54 rfl rfl rfl (by repeat constructor) (by first | exact SetR.all rfl | repeat constructor) rfl) rfl ?_
    refine s_end ?_
    refine f_then ?_
    refine c_reg ?_
    refine sq (rd_move rfl) rfl ?_
    refine sq (rd_field F54_0 rfl) rfl ?_
    refine sq (rd_ldb C3 rfl (by repeat constructor) rfl) rfl ?_
    refine sq (rd_move rfl) rfl ?_
    refine sq (rd_build St64 rfl (by repeat constructor)) rfl ?_
    refine sq (rd_field F54_3 rfl) rfl ?_
    refine sq (rd_ldsb A48 rfl (by repeat constructor) (by first | exact GetR.all _ | repeat constructor)) rfl ?_
    refine sq (rd_field F54_1 rfl) rfl ?_
    refine sq (rd_ldb C3 rfl (by repeat constructor) rfl) rfl ?_
    refine sq (rd_ldb C3 rfl (by repeat constructor) rfl) rfl ?_
    refine sq (rd_eql rfl rfl) rfl ?_
    refine s_front (.row _ _ L _ lc _) (by repeat constructor) ?_
    refine s_front (.blk b8 _ _) (by repeat constructor) ?_
    refine s_front (.blk b7 _ _) (by repeat constructor) ?_
    refine s_front (.blk b4 _ _) (by repeat constructor) ?_
    refine sx (ef_call rfl rfl K30 (fun _ e => by cases e; rfl) [.blk b4 _ _, .blk b7 _ _, .blk b8 _ _, .row _ _ L _ lc _] _ (.refl _) _ _ _ (fun w hS => by exact c30 w A B L n m c d lc b4 b7 b8 me ps ((tpL me q ps ++ tsL id q (ss.take k))) ⟨0, s.id, 1, (k : Int)⟩ s.px s.py s.pz (decide (s.ow = id)) q hq hqo k1 k2 k3 (by have := tpL_len me q (ps.take k); have := tpL_len me q ps; have := tsL_len id q (ss.take k); simp only [List.length_take, List.length_append] at *; omega) (h1.hand hS (by decide)) hS.own)) rfl ?_
    rintro ⟨L', lc'⟩ _
    refine s_end ?_
    refine f_blk ?_
    refine f_then ?_
    refine c_reg ?_
    refine sq (rd_add rfl rfl (by first | exact wrap_i64 (by omega) | exact rfl)) rfl ?_
    refine sq (rd_move rfl) rfl ?_
    refine s_end ?_
    have e1 : tpL me q ps ++ tsL id q (ss.take (k + 1)) = near (tpL me q ps ++ tsL id q (ss.take k)) ⟨if decide (s.ow = id) = true then 0 else farOf s.px s.py s.pz q, s.id, 1, (k : Int)⟩ := by rw [tsL_step hs, near_app (tpL me q ps ++ tsL id q (ss.take k)), tsOne, ← List.append_assoc]
    refine f_front (.blk b3 _ _) (by repeat constructor) ?_
    refine f_front (.blk b4 _ _) (by repeat constructor) ?_
    refine f_front (.blk b6 _ _) (by repeat constructor) ?_
    refine f_front (.blk b7 _ _) (by repeat constructor) ?_
    refine f_front (.row _ _ L' _ lc' _) (by repeat constructor) ?_
    refine f_front (.blk b8 _ _) (by repeat constructor) ?_
    refine f_again ((k + 1, L', lc')) (by omega) (by show _ - (k + 1) < _ - k; omega) (by repeat constructor) (fun _ h => by dsimp only; rw [e1]; exact St.sub (E' := [_, _, _, _, _, _]) h (by repeat (first | exact .refl _ | apply List.Sublist.cons_cons | apply List.Sublist.cons)))
   ·have hkn : k = m := by omega
    refine c_exit ?_
    refine f_then_x ?_
    refine f_then_x ?_
    refine f_blk_x ?_
    refine f_then ?_
    refine c_seq ?_
    obtain ⟨l, hl⟩ : ∃ l, l = tpL me q ps ++ tsL id q ss := ⟨_, rfl⟩
    have hll : l.length ≤ 200000 := by
     have := tpL_len me q ps
     have := tsL_len id q ss
     rw [hl, List.length_append]
     omega
    refine c_ents (fun _ h => by dsimp only at h; rw [List.take_of_length_le (by omega : ss.length ≤ k), ← hl] at h; exact h) ?_
    refine c_know (fun _ h => (row_know (e := 64) (sz := 4) (A := L) (m := l.length) (cap := lc) (by repeat constructor) _ h).2.1) (fun hcap => ?_)
    refine c_reg ?_
    refine sq (rd_ldb C62 rfl (by repeat constructor) rfl) rfl ?_
    refine s_front (.row _ _ L _ lc _) (by repeat constructor) ?_
    refine sx (ef_call rfl rfl K33 (fun _ e => by cases e; rfl) [.row _ _ L _ lc _] _ (.refl _) _ _ _ (fun w hS => by exact c33 w L lc l.length l.toArray 34 cmpFar K34 c34 (by simp) (by omega) lqS lqS_swo cmpFar_lq (by rw [hl]; exact behind_agree (things_behind me id q ps ss)) hS.own)) rfl ?_
    rintro x ⟨hx1, hx2, hx3⟩
    have hxl : x.toList = inOrder l := inOrder_of hx2 hx3
    have hcut : cutN l.length bud ≤ l.length := Nat.min_le_left _ _
    refine s_end ?_
    refine f_then ?_
    refine c_seq ?_
    refine c_reg ?_
    refine sq (rd_ldb C62 rfl (by repeat constructor) rfl) rfl ?_
    refine sq (rd_ldb C62 rfl (by repeat constructor) rfl) rfl ?_
    refine sq (rd_len S62 rfl rfl) rfl ?_
    refine sq (rd_move rfl) rfl ?_
    refine sq (rd_max' (r := max bud 1) rfl rfl (by split <;> omega)) rfl ?_
    refine sq (rd_min' (r := ((cutN l.length bud : Nat) : Int)) rfl rfl (by unfold cutN; split <;> omega)) rfl ?_
    refine sq (rd_slice_hin S62 rfl rfl (by omega)) rfl ?_
    refine se (ef_store C62 rfl rfl (by repeat constructor) (by repeat constructor) rfl) rfl ?_
    refine s_end ?_
    refine f_then ?_
    refine c_seq ?_
    obtain ⟨kp, hkp⟩ : ∃ kp, kp = (inOrder l).take (cutN l.length bud) := ⟨_, rfl⟩
    have hkl : kp.length = cutN l.length bud := by rw [hkp, List.length_take, ← hxl]; simp only [Array.length_toList]; omega
    refine c_ents (fun _ h => by have h9 := St.rowTake h (cutN l.length bud) hcut; rw [flat_take SN.enc_len, hxl, ← hkp] at h9; exact h9) ?_
    refine c_reg ?_
    refine sq (rd_ldb C62 rfl (by repeat constructor) rfl) rfl ?_
    refine sx (ef_call rfl rfl K38 (fun _ e => by cases e; rfl) [.row _ _ L _ lc _] _ (.refl _) _ _ _ (fun w hS => by exact c38 w L lc (cutN l.length bud) kp.toArray 39 cmpPl K39 c39 (by simpa using hkl) (by omega) cmpPl_swo hS.own)) rfl ?_
    rintro y ⟨hy1, hy2, hy3⟩
    refine s_end ?_
    refine f_then ?_
    refine c_seq ?_
    refine c_seq ?_
    have hyp : y.toList.Perm kp := permIn_list (d := kp.toArray) (by simpa using hkl) hy2
    have hysz : y.toList.length = cutN l.length bud := by simpa using hy1
    refine c_know (fun _ h => fun h0 => ((row_know (e := 64) (sz := 4) (A := L) (m := cutN l.length bud) (cap := lc) (by repeat constructor) _ h).2.2.2 h0).1) (fun hplL => ?_)
    refine c_nilrow 51 15 ?_
    refine c_nilrow 54 11 ?_
    refine c_reg ?_
    refine sq (rd_ldb C62 rfl (by repeat constructor) rfl) rfl ?_
    refine sq (rd_len S62 rfl rfl) rfl ?_
    refine sq (rd_move rfl) rfl ?_
    refine s_end ?_
    refine f_then ?_
    refine c_block ?_
    refine c_keep (L' := [(4, _), (6, _), (81, _), (82, _), (83, _)]) (by repeat constructor) ?_
    refine c_front (.blk b3 _ _) (by repeat constructor) ?_
    refine c_front (.blk b4 _ _) (by repeat constructor) ?_
    refine c_front (.blk b7 _ _) (by repeat constructor) ?_
    refine c_front (.blk b8 _ _) (by repeat constructor) ?_
    refine c_front (.row _ _ L _ lc _) (by repeat constructor) ?_
    refine c_front (.row 54 _ none _ _ _) (by repeat constructor) ?_
    refine c_front (.row 51 _ none _ _ _) (by repeat constructor) ?_
    refine c_front (.blk b6 _ _) (by repeat constructor) ?_
    refine c_for (α := Nat × Option Addr × Nat × Option Addr × Nat) (fun ⟨k, PA, pc, QA, qc⟩ => k ≤ cutN l.length bud) (fun ⟨k, PA, pc, QA, qc⟩ => [.blk b6 [.slice PA (outP ps (y.toList.take k)).length pc, .slice QA (outS ss (y.toList.take k)).length qc] 25, .row 51 15 PA (outP ps (y.toList.take k)).length pc (flat PL.enc (outP ps (y.toList.take k))), .row 54 11 QA (outS ss (y.toList.take k)).length qc (flat SH.enc (outS ss (y.toList.take k)))]) [.row _ _ L _ lc _, .blk b8 _ _, .blk b7 _ _, .blk b4 _ _, .blk b3 _ _] (fun ⟨k, PA, pc, QA, qc⟩ => [(83, .int .i64 (k : Int))]) [(4, _), (6, _), (81, _), (82, _)] (fun ⟨k, PA, pc, QA, qc⟩ => cutN l.length bud - k) ((0, none, 0, none, 0)) (Nat.zero_le _) (by repeat constructor) (fun _ h => h) ?_
    rintro ⟨k, PA, pc, QA, qc⟩ hk
    refine c_seq ?_
    refine c_reg ?_
    refine sq (rd_lss rfl rfl) rfl ?_
    refine s_end ?_
    refine f_then ?_
    refine c_seq ?_
    refine c_if rfl (fun h84 => ?_) (fun h84 => ?_)
    ·have hkn : k < cutN l.length bud := by omega
     have hyx : y.toList[k]? = some y[k]! := arr_get? (by omega)
     have hmem : y[k]! ∈ tpL me q ps ++ tsL id q ss := by
      have h9 : y[k]! ∈ kp := hyp.mem_iff.1 (List.mem_of_getElem? hyx)
      rw [hkp] at h9
      have h8 := List.mem_of_mem_take h9
      unfold inOrder at h8
      rw [List.mem_mergeSort, hl] at h8
      exact h8
     have htm := things_mem hmem
     have hbP := outP_len ps (y.toList.take k)
     have hbQ := outS_len ss (y.toList.take k)
     rw [List.length_take] at hbP hbQ
     refine c_skip ?_
     refine f_then ?_
     refine c_seq ?_
     refine c_block ?_
     refine c_seq ?_
     refine c_reg ?_
     refine sq (rd_index S62 rfl rfl hplL (by omega) (by omega)) rfl ?_
     refine sq (rd_ldsr A64 (by repeat constructor) rfl (arr_part (f := SN.enc) SN.enc_len (i := k) (by omega))) rfl ?_
     refine sx (ef_alloc Z64 rfl) rfl ?_
     rintro b15 hb15
     refine se (ef_stores A64 rfl rfl rfl (by repeat constructor) (by first | exact SetR.all rfl | repeat constructor) rfl) rfl ?_
     refine s_end ?_
     refine f_then ?_
     refine c_seq ?_
     refine c_reg ?_
     refine sq (rd_field F64_2 rfl) rfl ?_
     refine sq (rd_ldb C3 rfl (by repeat constructor) rfl) rfl ?_
     refine sq (rd_eql rfl rfl) rfl ?_
     refine s_end ?_
     refine f_then ?_
     refine c_if rfl (fun h89 => ?_) (fun h89 => ?_)
     ·obtain ⟨_, i, p, hpi, hpp⟩ : y[k]!.so = 0 ∧ ∃ (i : Nat) (p : PL), y[k]!.pl = (i : Int) ∧ ps[i]? = some p := by
       rcases htm with h9 | h9
       ·exact h9
       ·omega
      have hil : i < ps.length := (List.getElem?_eq_some_iff.1 hpp).1
      rw [show i = y[k]!.pl.toNat from by omega] at hpp
      refine c_regd [.blk b15 _ _, .row _ _ QA _ qc _, .row _ _ L _ lc _, .blk b8 _ _, .blk b7 _ _, .blk b4 _ _, .blk b3 _ _] (.q 0 (.q 2 (.q 3 (.q 4 (.q 5 (.q 6 (.q 7 (.alt 1 (.alt 8 (.alt 9 (.q 10 (.alt 11 .done .stop)) .stop) .stop) (.alt 8 (.alt 1 (.alt 9 (.q 10 (.alt 11 .done .stop)) .stop) .stop) .stop))))))))) (by kernel_rfl) (by kernel_rfl) (by kernel_rfl) (by kernel_rfl) (fun _ h => h.sb) ?_
      refine dq rfl (rd_field F25_0 rfl) rfl ?_
      refine dq rfl (rd_field F25_0 rfl) rfl ?_
      refine dq rfl (rd_ldb C22 rfl (by repeat constructor) rfl) rfl ?_
      refine dq rfl (rd_field F64_3 rfl) rfl ?_
      refine dq rfl (rd_ldb C3 rfl (by repeat constructor) rfl) rfl ?_
      refine dq rfl (rd_index S22 rfl rfl h1.plain (by omega) (by omega)) rfl ?_
      refine dq rfl (rd_ldssl A51 h1 rfl (flat_part PL.enc_len ps _ p hpp)) rfl ?_
      refine de rfl rfl (ef_quiet (rd_ldb C22 rfl (by repeat constructor) rfl) rfl) (fun _ h => h.sb) ?_ ?_
      ·refine dx rfl rfl (ef_slice Rt22 rfl (by repeat constructor) rfl rfl) (fun _ _ _ h => h.sb) ?_ d_stop
       rintro b98 hb98
       refine d_front (.row _ _ PA _ pc _) (by repeat constructor) ?_
       refine dx rfl rfl (ef_append Rt22 rfl rfl rfl rfl (src_blk (by repeat constructor) rfl) rfl (by omega) (by unfold maxLen; omega) rfl) (fun _ _ _ h => h.sb) ?_ d_stop
       rintro ⟨P', pc'⟩ hP'
       refine dq rfl (rd_field F25_0 rfl) rfl ?_
       refine de rfl rfl (ef_store C22 rfl rfl (by repeat constructor) (by repeat constructor) rfl) (fun _ h => h.sb) ?_ d_stop
       refine d_end ?_
       refine f_blk ?_
       refine f_then ?_
       refine c_reg ?_
       refine sq (rd_add rfl rfl (by first | exact wrap_i64 (by omega) | exact rfl)) rfl ?_
       refine sq (rd_move rfl) rfl ?_
       refine s_end ?_
       have e1 := outP_step (ps := ps) hyx h89 hpp
       have e2 := outS_skip (ss := ss) hyx h89
       refine f_front (.blk b3 _ _) (by repeat constructor) ?_
       refine f_front (.blk b4 _ _) (by repeat constructor) ?_
       refine f_front (.blk b7 _ _) (by repeat constructor) ?_
       refine f_front (.blk b8 _ _) (by repeat constructor) ?_
       refine f_front (.row _ _ L _ lc _) (by repeat constructor) ?_
       refine f_front (.row _ _ QA _ qc _) (by repeat constructor) ?_
       refine f_front (.row _ _ P' _ pc' _) (by repeat constructor) ?_
       refine f_front (.blk b6 _ _) (by repeat constructor) ?_
       refine f_again ((k + 1, P', pc', QA, qc)) (by omega) (by show _ - (k + 1) < _ - k; omega) (by repeat constructor) (fun _ h => by dsimp only; rw [e1, e2]; simp only [List.length_append, List.length_cons, List.length_nil, Nat.zero_add, flat_append, flat_one]; exact St.sub (E' := [_, _, _, _, _, _, _, _]) h (by repeat (first | exact .refl _ | apply List.Sublist.cons_cons | apply List.Sublist.cons)))
      refine dx rfl rfl (ef_slice Rt22 rfl (by repeat constructor) rfl rfl) (fun _ _ _ h => h.sb) ?_ ?_
      ·rintro b98_1 hb98_1
       refine de rfl rfl (ef_quiet (rd_ldb C22 rfl (by repeat constructor) rfl) rfl) (fun _ h => h.sb) ?_ d_stop
       refine d_front (.row _ _ PA _ pc _) (by repeat constructor) ?_
       refine dx rfl rfl (ef_append Rt22 rfl rfl rfl rfl (src_blk (by repeat constructor) rfl) rfl (by omega) (by unfold maxLen; omega) rfl) (fun _ _ _ h => h.sb) ?_ d_stop
       rintro ⟨P', pc'⟩ hP'
       refine dq rfl (rd_field F25_0 rfl) rfl ?_
       refine de rfl rfl (ef_store C22 rfl rfl (by repeat constructor) (by repeat constructor) rfl) (fun _ h => h.sb) ?_ d_stop
       refine d_end ?_
       refine f_blk ?_
       refine f_then ?_
       refine c_reg ?_
       refine sq (rd_add rfl rfl (by first | exact wrap_i64 (by omega) | exact rfl)) rfl ?_
       refine sq (rd_move rfl) rfl ?_
       refine s_end ?_
       have e1 := outP_step (ps := ps) hyx h89 hpp
       have e2 := outS_skip (ss := ss) hyx h89
       refine f_front (.blk b3 _ _) (by repeat constructor) ?_
       refine f_front (.blk b4 _ _) (by repeat constructor) ?_
       refine f_front (.blk b7 _ _) (by repeat constructor) ?_
       refine f_front (.blk b8 _ _) (by repeat constructor) ?_
       refine f_front (.row _ _ L _ lc _) (by repeat constructor) ?_
       refine f_front (.row _ _ QA _ qc _) (by repeat constructor) ?_
       refine f_front (.row _ _ P' _ pc' _) (by repeat constructor) ?_
       refine f_front (.blk b6 _ _) (by repeat constructor) ?_
       refine f_again ((k + 1, P', pc', QA, qc)) (by omega) (by show _ - (k + 1) < _ - k; omega) (by repeat constructor) (fun _ h => by dsimp only; rw [e1, e2]; simp only [List.length_append, List.length_cons, List.length_nil, Nat.zero_add, flat_append, flat_one]; exact St.sub (E' := [_, _, _, _, _, _, _, _]) h (by repeat (first | exact .refl _ | apply List.Sublist.cons_cons | apply List.Sublist.cons)))
      exact d_stop
     ·obtain ⟨_, i, s, hpi, hss⟩ : y[k]!.so = 1 ∧ ∃ (i : Nat) (s : SH), y[k]!.pl = (i : Int) ∧ ss[i]? = some s := by
       rcases htm with h9 | h9
       ·omega
       ·exact h9
      have hil : i < ss.length := (List.getElem?_eq_some_iff.1 hss).1
      rw [show i = y[k]!.pl.toNat from by omega] at hss
      refine c_regd [.blk b15 _ _, .row _ _ PA _ pc _, .row _ _ L _ lc _, .blk b8 _ _, .blk b7 _ _, .blk b4 _ _, .blk b3 _ _] (.q 0 (.q 2 (.q 3 (.q 4 (.q 5 (.q 6 (.q 7 (.alt 1 (.alt 8 (.alt 9 (.q 10 (.alt 11 .done .stop)) .stop) .stop) (.alt 8 (.alt 1 (.alt 9 (.q 10 (.alt 11 .done .stop)) .stop) .stop) .stop))))))))) (by kernel_rfl) (by kernel_rfl) (by kernel_rfl) (by kernel_rfl) (fun _ h => h.sb) ?_
      refine dq rfl (rd_field F25_1 rfl) rfl ?_
      refine dq rfl (rd_field F25_1 rfl) rfl ?_
      refine dq rfl (rd_ldb C23 rfl (by repeat constructor) rfl) rfl ?_
      refine dq rfl (rd_field F64_3 rfl) rfl ?_
      refine dq rfl (rd_ldb C3 rfl (by repeat constructor) rfl) rfl ?_
      refine dq rfl (rd_index S23 rfl rfl h2.plain (by omega) (by omega)) rfl ?_
      refine dq rfl (rd_ldssl A54 h2 rfl (flat_part SH.enc_len ss _ s hss)) rfl ?_
      refine de rfl rfl (ef_quiet (rd_ldb C23 rfl (by repeat constructor) rfl) rfl) (fun _ h => h.sb) ?_ ?_
      ·refine dx rfl rfl (ef_slice Rt23 rfl (by repeat constructor) rfl rfl) (fun _ _ _ h => h.sb) ?_ d_stop
       rintro b109 hb109
       refine d_front (.row _ _ QA _ qc _) (by repeat constructor) ?_
       refine dx rfl rfl (ef_append Rt23 rfl rfl rfl rfl (src_blk (by repeat constructor) rfl) rfl (by omega) (by unfold maxLen; omega) rfl) (fun _ _ _ h => h.sb) ?_ d_stop
       rintro ⟨Q', qc'⟩ hQ'
       refine dq rfl (rd_field F25_1 rfl) rfl ?_
       refine de rfl rfl (ef_store C23 rfl rfl (by repeat constructor) (by repeat constructor) rfl) (fun _ h => h.sb) ?_ d_stop
       refine d_end ?_
       refine f_blk ?_
       refine f_then ?_
       refine c_reg ?_
       refine sq (rd_add rfl rfl (by first | exact wrap_i64 (by omega) | exact rfl)) rfl ?_
       refine sq (rd_move rfl) rfl ?_
       refine s_end ?_
       have e1 := outP_skip (ps := ps) hyx h89
       have e2 := outS_step (ss := ss) hyx h89 hss
       refine f_front (.blk b3 _ _) (by repeat constructor) ?_
       refine f_front (.blk b4 _ _) (by repeat constructor) ?_
       refine f_front (.blk b7 _ _) (by repeat constructor) ?_
       refine f_front (.blk b8 _ _) (by repeat constructor) ?_
       refine f_front (.row _ _ L _ lc _) (by repeat constructor) ?_
       refine f_front (.row _ _ Q' _ qc' _) (by repeat constructor) ?_
       refine f_front (.row _ _ PA _ pc _) (by repeat constructor) ?_
       refine f_front (.blk b6 _ _) (by repeat constructor) ?_
       refine f_again ((k + 1, PA, pc, Q', qc')) (by omega) (by show _ - (k + 1) < _ - k; omega) (by repeat constructor) (fun _ h => by dsimp only; rw [e1, e2]; simp only [List.length_append, List.length_cons, List.length_nil, Nat.zero_add, flat_append, flat_one]; exact St.sub (E' := [_, _, _, _, _, _, _, _]) h (by repeat (first | exact .refl _ | apply List.Sublist.cons_cons | apply List.Sublist.cons)))
      refine dx rfl rfl (ef_slice Rt23 rfl (by repeat constructor) rfl rfl) (fun _ _ _ h => h.sb) ?_ ?_
      ·rintro b109_1 hb109_1
       refine de rfl rfl (ef_quiet (rd_ldb C23 rfl (by repeat constructor) rfl) rfl) (fun _ h => h.sb) ?_ d_stop
       refine d_front (.row _ _ QA _ qc _) (by repeat constructor) ?_
       refine dx rfl rfl (ef_append Rt23 rfl rfl rfl rfl (src_blk (by repeat constructor) rfl) rfl (by omega) (by unfold maxLen; omega) rfl) (fun _ _ _ h => h.sb) ?_ d_stop
       rintro ⟨Q', qc'⟩ hQ'
       refine dq rfl (rd_field F25_1 rfl) rfl ?_
       refine de rfl rfl (ef_store C23 rfl rfl (by repeat constructor) (by repeat constructor) rfl) (fun _ h => h.sb) ?_ d_stop
       refine d_end ?_
       refine f_blk ?_
       refine f_then ?_
       refine c_reg ?_
       refine sq (rd_add rfl rfl (by first | exact wrap_i64 (by omega) | exact rfl)) rfl ?_
       refine sq (rd_move rfl) rfl ?_
       refine s_end ?_
       have e1 := outP_skip (ps := ps) hyx h89
       have e2 := outS_step (ss := ss) hyx h89 hss
       refine f_front (.blk b3 _ _) (by repeat constructor) ?_
       refine f_front (.blk b4 _ _) (by repeat constructor) ?_
       refine f_front (.blk b7 _ _) (by repeat constructor) ?_
       refine f_front (.blk b8 _ _) (by repeat constructor) ?_
       refine f_front (.row _ _ L _ lc _) (by repeat constructor) ?_
       refine f_front (.row _ _ Q' _ qc' _) (by repeat constructor) ?_
       refine f_front (.row _ _ PA _ pc _) (by repeat constructor) ?_
       refine f_front (.blk b6 _ _) (by repeat constructor) ?_
       refine f_again ((k + 1, PA, pc, Q', qc')) (by omega) (by show _ - (k + 1) < _ - k; omega) (by repeat constructor) (fun _ h => by dsimp only; rw [e1, e2]; simp only [List.length_append, List.length_cons, List.length_nil, Nat.zero_add, flat_append, flat_one]; exact St.sub (E' := [_, _, _, _, _, _, _, _]) h (by repeat (first | exact .refl _ | apply List.Sublist.cons_cons | apply List.Sublist.cons)))
      exact d_stop
    ·have hkn : k = cutN l.length bud := by omega
     refine c_exit ?_
     refine f_then_x ?_
     refine f_then_x ?_
     refine f_blk_x ?_
     refine f_then ?_
     refine c_seq ?_
     refine c_reg ?_
     refine sq (rd_ldsb A25 rfl (by repeat constructor) (by first | exact GetR.all _ | repeat constructor)) rfl ?_
     refine se (ef_stores A25 rfl rfl rfl (by repeat constructor) (by first | exact SetR.all rfl | repeat constructor) rfl) rfl ?_
     refine s_end ?_
     refine f_then ?_
     refine c_ret ?_
     refine f_front (.row _ _ QA _ qc _) (by repeat constructor) ?_
     refine f_front (.row _ _ PA _ pc _) (by repeat constructor) ?_
     refine f_ret rfl (.cell (res_ldsb A25 rfl (by repeat constructor) (by first | exact GetR.all _ | repeat constructor)) .nil) ?_
     refine fun w' hS => ⟨_, rfl, (y.toList, PA, pc, QA, qc), ?_, .inr ⟨me, q, hfi, hq, ?_, ?_⟩, ?_⟩
     ·rw [List.take_of_length_le (by omega)]; rfl
     ·rw [← hl, ← hkp]; exact hyp
     ·exact sorted_pl hysz hy3
     ·rw [List.take_of_length_le (by omega)] at hS; exact St.sub (E' := [_, _]) hS (by repeat (first | exact .refl _ | apply List.Sublist.cons_cons | apply List.Sublist.cons))

end Go.Proofs.YtfccnoccfhgcbaaGreatDoor
namespace Go.Proofs.YtfccnoccfhgcbaaGreatDoor
open Go Go.RowKit

def wideR (r : Option Nat) : Fence := { Fence.wide with round := r }
def WCi (r : Option Nat) (P : Program) (Q : Exit → Act → World → Prop) (n : Nat) (c : Code) (w0 : World) (M : Nat → Prop) (E : List Ent) (L : Slots) : Prop :=
 ∀ a w, Has n a L → St w0 M E w → c.wpIn (wideR r) 0 P Q a w
/-- What lets nothing be outgrown. -/
class NoOut (Q : Exit → Act → World → Prop) : Prop where
 no : ∀ a w, ¬ Q .outgrown a w
instance {K : Act → World → Prop} {Q : Exit → Act → World → Prop} [h : NoOut Q] : NoOut (Exit.then K Q) := ⟨fun a w => h.no a w⟩
instance {i : Nat} {Q : Exit → Act → World → Prop} [h : NoOut Q] : NoOut (Exit.inBlock i Q) := ⟨fun a w => h.no a w⟩
instance {Q : Exit → Act → World → Prop} [h : NoOut Q] : NoOut (NoPanic Q) := ⟨fun a w => h.no a w⟩
instance : NoOut (fun _ _ _ => False) := ⟨fun _ _ h => h⟩
theorem rtE_noOut {R : Value → World → Prop} {w : World} : ¬ RtE R .outgrown w := fun ⟨_, h, _⟩ => by cases h
instance {P : Program} {fn : Func} {R : Value → World → Prop} : NoOut (bodyPostM Fence.wide 0 P fn (RtE R)) := ⟨fun _ _ h => rtE_noOut h⟩

def notDefer (o : Oper) : Bool := match o.op with
 | .defer _ => false
 | _ => true
section
variable {P : Program} {Q : Exit → Act → World → Prop} {ops : Array Oper} {r : Option Nat} {a : Act} {w : World}
theorem callsIn_r {f : FuncId} {args : Array Value} {n : Nat} {R : Ending → World → Prop} (h : Calls P f args w R) : CallsIn (wideR r) n P f args w R := (callsIn_wide.2 h : CallsIn Fence.wide n P f args w R)
theorem room_r (n : Nat) : (wideR r).room n := fun _ h => by cases h
theorem fenced_r (m : Machine) : m.fenced P (wideR r) := fenced_wide P m
theorem rowsIn_r {row : String} {args : Array Value} {n : Nat} {R : Value → World → Prop} (h : Rows P row args w R) : Go.RowsIn (wideR r) n P row args w R :=
 fun c cs _ => by
  obtain ⟨v, w', h1, h2⟩ := h c cs
  exact ⟨v, w', h1, (StepsIn.of_steps h2).mono fun m _ => fenced_r m⟩
theorem semAt_r {o : Oper} (h : notDefer o = true) (ρ : Operand → Value) : o.semAt r ρ = execOp ρ o := by
 cases r with
 | none => exact Oper.semAt_none ρ o
 | some l =>
  refine Oper.semAt_some l ρ o fun c hc => ?_
  unfold notDefer at h
  rw [hc] at h
  cases h
theorem op_in {o : Oper} {K K' : Act → World → Prop} (hd : notDefer o = true) (hK : ∀ a w, K a w → K' a w) (h : o.wp P a w K Q) : o.wpIn (wideR r) 0 P a w K' Q := by
 have e : (wideR r).round = r := rfl
 unfold Oper.wp at h
 refine ⟨fun _ _ => trivial, ?_⟩
 rw [e, semAt_r hd]
 generalize (execOp a.eval o).run P w = s at *
 cases s with
 | ok x w' =>
  cases x <;> simp only [Oper.upon, Oper.uponIn] at h ⊢
  case value => exact hK _ _ h
  case skip => exact hK _ _ h
  case defer => exact hK _ _ h
  case enter f args =>
   refine ⟨fun h0 => (by cases h0), callsIn_r (Calls.mono h fun e w'' he => ?_)⟩
   cases e with
   | returned v => exact hK _ _ he
   | panicked c => exact he
   | outgrown => exact he
  case row row args => exact ⟨fun h0 => (by cases h0), rowsIn_r (Rows.mono h fun _ _ he => hK _ _ he)⟩
 | halt x w' => cases x <;> simp only [Oper.upon, Oper.uponIn] at h ⊢ <;> exact h
theorem ops_in (hd : ∀ (i : Nat) (o : Oper), ops[i]? = some o → notDefer o = true) (hout : ∀ a w, ¬ Q .outgrown a w) : ∀ (l : List Nat) (a : Act) (w : World), wpOps P ops Q l a w → wpOpsIn (wideR r) 0 P ops Q l a w
 | [], _, _, h => h
 | i :: rest, a, w, h => by
  unfold wpOps at h
  unfold wpOpsIn
  cases ho : ops[i]? with
  | none =>
   simp only [ho] at h ⊢
   exact ops_in hd hout rest a w h
  | some o =>
   simp only [ho] at h ⊢
   split at h
   ·rename_i hw
    rw [if_pos hw]
    rcases h with h | ⟨_, a', w', h⟩
    ·exact op_in (hd i o ho) (fun a w h => ops_in hd hout rest a w h) h
    ·exact (hout a' w' h).elim
   ·rename_i hw
    rw [if_neg hw]
    exact ⟨fun _ _ => trivial, ops_in hd hout rest _ _ h⟩
end
section
variable {P : Program} {Q Q' : Exit → Act → World → Prop} {r : Option Nat} {n : Nat} {w0 w : World} {M : Nat → Prop} {E E' : List Ent} {L L' : Slots}
theorem nd_list {l : List Oper} (h : l.all notDefer = true) (i : Nat) (o : Oper) (ho : l.toArray[i]? = some o) : notDefer o = true := by
 rw [List.all_eq_true] at h
 exact h o (List.mem_of_getElem? (by simpa using ho))
theorem ci_reg [ho : NoOut Q] {id : Nat} {l : List Oper} (hd : l.all notDefer = true) (k : WL P l.toArray Q n l w0 M E L) : WCi r P Q n (.region id l.toArray false) w0 M E L := fun a w hA hS => by
 refine wpIn_region (ops_in (nd_list hd) ho.no _ _ _ ?_)
 have h := k a w hA hS
 rw [List.range_eq_range', ← Array.length_toList, wpOps_eq_wpList l.toArray.toList 0 (by simp)]
 exact h
theorem ci_regd [ho : NoOut Q] {id : Nat} {l : List Oper} (ES : List Ent) (t : Tr) (hd0 : l.all notDefer = true) (hm : P.follows .mixedOrders = true) (hs : Region.noSelect l.toArray = true) (hok : t.ok l.toArray false (Array.replicate l.toArray.size false) = true) (hd : Nat.ble t.depth l.length = true)
  (hES : ∀ w, St w0 M E w → St w0 M ES w) (k : WT P l.toArray (NoPanic Q) (St w0 M ES) n t w0 M E L) : WCi r P Q n (.region id l.toArray true) w0 M E L := by
 intro a w hA hS
 have hS' := hS.drawn (w.drawn + 1)
 have h := (Tr.sound hs (fun _ _ _ h => h) t).1 _ _ _ _ hok (by simpa [Nat.ble_eq] using hd) (hES _ hS') (k _ _ hA hS')
 refine wpIn_mono (Q := NoPanic Q) (wpIn_region_draw fun tp => ?_) NoPanic.imp
 refine ops_in (nd_list hd0) (NoOut.no (Q := NoPanic Q)) _ _ _ ?_
 simp only [Region.schedule, hm, Bool.true_or, if_true]
 exact wpAny_sound l.toArray.size tp _ _ _ (wpAny_of_held _ _ _ _ (by simpa using h))
theorem ci_seq {x y : Code} (k : WCi r P (Exit.then (y.wpIn (wideR r) 0 P Q) Q) n x w0 M E L) : WCi r P Q n (.seq x y) w0 M E L := fun a w hA hS => wpIn_seq (k a w hA hS)
theorem ci_skip (k : Fin Q .normal n w0 M E L) : WCi r P Q n .skip w0 M E L := fun a w hA hS => wpIn_skip (k a w hA hS)
theorem ci_exit {id : Nat} (k : Fin Q (.exit id) n w0 M E L) : WCi r P Q n (.exit id) w0 M E L := fun a w hA hS => wpIn_exit (k a w hA hS)
theorem ci_ret (k : Fin Q .ret n w0 M E L) : WCi r P Q n .ret w0 M E L := fun a w hA hS => wpIn_ret (k a w hA hS)
theorem ci_block {id : Nat} {c : Code} (k : WCi r P (Exit.inBlock id Q) n c w0 M E L) : WCi r P Q n (.block id c) w0 M E L := fun a w hA hS => wpIn_block (k a w hA hS)
theorem ci_cond {c : Operand} {x y : Code} {t : Bool} (hc : opv L c = some (.bool t)) (kt : t = true → WCi r P Q n x w0 M E L) (kf : t = false → WCi r P Q n y w0 M E L) : WCi r P Q n (.cond c x y) w0 M E L :=
 fun a w hA hS => wpIn_cond_split (hA.eval hc) (fun h => kt h a w hA hS) (fun h => kf h a w hA hS)
theorem ci_if {c : Operand} {x y : Code} {p : Prop} [Decidable p] (hc : opv L c = some (.bool (decide p))) (kt : p → WCi r P Q n x w0 M E L) (kf : ¬ p → WCi r P Q n y w0 M E L) : WCi r P Q n (.cond c x y) w0 M E L :=
 ci_cond hc (fun h => kt (of_decide_eq_true h)) (fun h => kf (of_decide_eq_false h))
theorem ci_know {p : Prop} {c : Code} (h : ∀ w, St w0 M E w → p) (k : p → WCi r P Q n c w0 M E L) : WCi r P Q n c w0 M E L := fun a w hA hS => k (h w hS) a w hA hS
theorem ci_keep {c : Code} (hs : Sub L L') (k : WCi r P Q n c w0 M E L') : WCi r P Q n c w0 M E L := fun a w hA hS => k a w (hA.weaken hs.look) hS
theorem ci_ents {c : Code} (hs : ∀ w, St w0 M E w → St w0 M E' w) (k : WCi r P Q n c w0 M E' L) : WCi r P Q n c w0 M E L := fun a w hA hS => k a w hA (hs w hS)
theorem ci_front {c : Code} (e : Ent) (h : Pick E e E') (k : WCi r P Q n c w0 M (e :: E') L) : WCi r P Q n c w0 M E L := ci_ents (fun _ hS => hS.perm h.perm) k
theorem fi_then {y : Code} (k : WCi r P Q n y w0 M E L) : Fin (Exit.then (y.wpIn (wideR r) 0 P Q) Q') .normal n w0 M E L := fun a w hA hS => k a w hA hS
theorem ci_meet {α : Type} {x y : Code} (Φ : α → Prop) (ec : α → List Ent) (E0 : List Ent) (ch : α → Slots) (L0 : Slots) (hx : WCi r P (Exit.then (Cut n w0 M Φ (fun x => ec x ++ E0) (fun x => ch x ++ L0)) Q) n x w0 M E L)
  (hy : ∀ t, Φ t → WCi r P Q n y w0 M (ec t ++ E0) (ch t ++ L0)) : WCi r P Q n (.seq x y) w0 M E L := fun a w hA hS =>
 wpIn_seq (wpIn_mono (hx a w hA hS) fun e a w h => by
  cases e with
  | normal => obtain ⟨t, h1, h2, h3⟩ := h; exact hy t h1 a w h2 h3
  | exit i => exact h
  | goto l => exact h
  | ret => exact h
  | panic c => exact h
  | outgrown => exact h)
/-- A function that holds a range over a function. -/
theorem enterM {f : FuncId} {fn : Func} {cd : Code} {R : Ending → World → Prop} {vs : List Value} (hf : P.funcs[f]? = some fn) (hb : fn.body = some cd) (hn : fn.ntmps = n) (hl : Nat.ble vs.length n = true) (hS : St w0 M E w)
  (h : WCi none P (bodyPostM Fence.wide 0 P fn R) n cd w0 M E (mkSlots 0 vs)) : Calls P f vs.toArray w R := by
 have hle : vs.length ≤ n := by simpa [Nat.ble_eq] using hl
 refine (callsIn_wide (n := 0)).1 (callsIn_of_wp_marks hf hb trivial (h _ _ ⟨by simp [hn]; omega, rfl, fun t v e => ?_⟩ hS))
 obtain ⟨h1, h2⟩ := look_mkSlots vs 0 t v e
 have h2' : vs[t]? = some v := by simpa using h2
 have hlt : t < vs.length := (List.getElem?_eq_some_iff.1 h2').1
 simp only [Array.getD_eq_getD_getElem?]
 rw [Array.getElem?_append_left (by simpa using hlt)]
 simp [h2']

/-! ### The range -/
/-- A block that holds what is no cells. -/
def objE (b : Nat) (o : Obj) : Ent := .abs (fun k => k = b) fun w => w.heap[b]? = some o
theorem objE_loc (b : Nat) (o : Obj) : (objE b o).loc := fun _ _ h hk => (h b rfl).trans hk
theorem St.allocObj (h : St w0 M E w) (o : Obj) : St w0 M (objE w.heap.size o :: E) (w.alloc o) := by
 have h0 : St w0 M E (w.alloc o) := by
  refine ⟨h.os, h.tape, h.output, by simp; exact Nat.le_succ_of_le h.size, fun b hb hM => ?_, fun e he => ?_, h.pair⟩
  ·have := h.size
   rw [Below.heap_alloc _ _ _ (by omega)]
   exact h.base b hb hM
  ·obtain ⟨k1, k2, k3⟩ := h.ents e he
   refine ⟨k1, k1 w _ (fun b hb => Below.heap_alloc _ _ _ (k3 b hb).1) k2, fun b hb => ⟨?_, (k3 b hb).2⟩⟩
   have := (k3 b hb).1
   simp
   omega
 refine h0.add (objE_loc _ _) (World.alloc_heap_new w o) ?_ ?_
 ·rintro b rfl
  exact ⟨by simp, .inr h.size⟩
 ·rintro f hf b rfl hfb
  have := ((h.ents f hf).2.2 _ hfb).1
  omega
theorem St.putObj {b : Nat} {o : Obj} (h : St w0 M (objE b o :: E) w) (o' : Obj) : St w0 M (objE b o' :: E) (w.putObj b o') := by
 have hb : w.heap[b]? = some o := (h.ents _ (List.mem_cons_self ..)).2.1
 have hlt : b < w.heap.size := (Array.getElem?_eq_some_iff.1 hb).1
 refine h.change rfl rfl rfl (by simp) (fun c hc hne => World.putObj_heap_other hne) (objE_loc _ _) (World.putObj_heap_same hlt) ?_
 rintro c rfl
 exact ⟨by simpa using hlt, .inl rfl⟩
/-- How a round's body ends: it goes on. -/
def RoundEnd (w0 : World) (M : Nat → Prop) {α : Type} (Φ : α → Prop) (E1 : α → List Ent) : Exit → Act → World → Prop
 | .normal, _, w => ∃ x, Φ x ∧ St w0 M (E1 x) w
 | _, _, _ => False
instance {α : Type} {Φ : α → Prop} {E1 : α → List Ent} : NoOut (RoundEnd w0 M Φ E1) := ⟨fun _ _ h => h⟩
theorem f_round {α : Type} {Φ : α → Prop} {E1 : α → List Ent} (y : α) (h : Φ y) (hE : ∀ w, St w0 M E w → St w0 M (E1 y) w) : Fin (RoundEnd w0 M Φ E1) .normal n w0 M E L := fun _ w _ hS => ⟨y, h, hE w hS⟩
/-- What an iterator is good for: 'N' rounds, the k-th with 'xs k'; 'H' is what it reads between them. -/
def Iter (P : Program) (gf : Nat) (lb : List Value) (N : Nat) (xs : Nat → Value) (H : World → Prop) : Prop :=
 ∀ (l : Nat) (J : Nat → World → Prop) (W : World), (∀ k W, J k W → H W) → (∀ k W, k < N → J k W → YieldAt Fence.wide 0 P l #[xs k] W fun e W' => e = .returned (.bool true) ∧ J (k + 1) W') → J 0 W →
  Calls P gf (#[.func (.yield l) #[] #[]] ++ lb.toArray) W fun e W' => (∃ v, e = .returned v) ∧ J N W'
/-- The range, at an outermost loop whose body always goes on. -/
theorem ci_range {α : Type} {g : Operand} {p v : Nat} {assign body : Code} {gf N : Nat} {lb : List Value} {xs : Nat → Value} {H : World → Prop} (hg : opv L g = some (.func (.func gf) #[] lb.toArray)) (hc : callTy P gf) (hit : Iter P gf lb N xs H)
  (Φ : Nat → α → Prop) (E1 : Nat → α → List Ent) (x0 : α) (h0 : Φ 0 x0) (hE : ∀ w, St w0 M E w → St w0 M (E1 0 x0) w) (hH : ∀ k x Ex w, St w0 M (E1 k x ++ Ex) w → H w) (hp : Nat.blt p n = true)
  (hassign : ∀ (l k : Nat) (x : α) (Ex : List Ent), k < N → Φ k x → WCi (some l) P (Exit.then (fun a w => Has n a ((v, xs k) :: (p, xs k) :: L) ∧ St w0 M (E1 k x ++ Ex) w) (fun _ _ _ => False)) n assign w0 M (E1 k x ++ Ex) ((p, xs k) :: L))
  (hbody : ∀ (l k : Nat) (x : α) (Ex : List Ent), k < N → Φ k x → WCi (some l) P (RoundEnd w0 M (Φ (k + 1)) (fun y => E1 (k + 1) y ++ Ex)) n body w0 M (E1 k x ++ Ex) ((v, xs k) :: (p, xs k) :: L))
  (hdone : ∀ (D : Nat) (x : α), Φ N x → ∀ a w, Has n a L → St w0 M (objE D (.deferred (some [])) :: E1 N x) w → Q .normal { a with defers := { target := .collected D, args := #[] } :: a.defers } w) :
  WCi none P Q n (.rangeFunc g #[p] assign body) w0 M E L := by
 intro a w hA hS
 refine wpIn_rangeFunc fun fn _ => ?_
 obtain ⟨rec, hrec⟩ : ∃ rec : LoopState → Option Code → Loop, rec = fun st pe => { state := st, pending := pe, fn, tmps := a.tmps, params := #[p], assign, body, defers := w.heap.size } := ⟨_, rfl⟩
 obtain ⟨W1, hW1⟩ : ∃ W1, (w.alloc (.deferred (some []))).alloc (.loop (rec .ready none)) = W1 := ⟨_, rfl⟩
 have hS1 : St w0 M (objE (w.heap.size + 1) (.loop (rec .ready none)) :: objE w.heap.size (.deferred (some [])) :: E1 0 x0) W1 := by
  rw [← hW1]
  have := ((hE w hS).allocObj (.deferred (some []))).allocObj (.loop (rec .ready none))
  rwa [World.size_alloc] at this
 have hev : a.eval g = .func (.func gf) #[] lb.toArray := hA.eval hg
 refine ⟨w.heap.size + 1, [{ target := .collected w.heap.size, args := #[] }], W1, { target := .fn (.func gf) lb.toArray, args := #[.func (.yield (w.heap.size + 1)) #[] #[]] }, W1, gf,
  #[.func (.yield (w.heap.size + 1)) #[] #[]] ++ lb.toArray, W1, ?_, ?_, fun _ _ => trivial, ?_, fun h => (by cases h), ?_⟩
 ·rw [← hW1, hrec]; exact run_enterLoop_outer _ _ _ _ _
 ·simp only [resolve, hev]
  simp [go_sem]
 ·simp [invoke, hc.run]
 ·refine callsIn_r ?_
  refine (hit (w.heap.size + 1) (fun k W => ∃ x, Φ k x ∧ St w0 M (E1 k x ++ [objE (w.heap.size + 1) (.loop (rec .ready none)), objE w.heap.size (.deferred (some []))]) W) W1 ?_ ?_ ?_).mono ?_
  ·rintro k W ⟨x, _, hW⟩
   exact hH k x _ W hW
  ·rintro k W hk ⟨x, hx, hW⟩
   have hl : W.heap[w.heap.size + 1]? = some (.loop (rec .ready none)) := (hW.ents (objE (w.heap.size + 1) (.loop (rec .ready none))) (by simp)).2.1
   have hy := run_yield (P := P) (args := #[xs k]) hl (by rw [hrec]; rfl)
   refine ⟨_, _, _, _, hy, ?_⟩
   have etm : ((rec .ready none).params.zip #[xs k]).foldl (fun tmps (t, a) => tmps.setIfInBounds t a) (rec .ready none).tmps = (a.put (some p) (xs k)).tmps := by rw [hrec]; simp [Act.put]
   rw [etm]
   have eas : (rec .ready none).assign = assign := by rw [hrec]
   have ebo : (rec .ready none).body = body := by rw [hrec]
   rw [eas, ebo]
   have hA1 := hA.put (v := xs k) hp
   have eact : ({ tmps := (a.put (some p) (xs k)).tmps, defers := [] } : Act) = a.put (some p) (xs k) := by
    have := hA1.2.1
    cases h : a.put (some p) (xs k) with
    | mk t d =>
     rw [h] at this
     simp only at this
     rw [this]
   refine roundIn_of_wpIn (F := Fence.wide) trivial ?_
   rw [eact]
   refine wpIn_mono (F := Fence.wide.inRound (w.heap.size + 1)) (hassign (w.heap.size + 1) k x _ hk hx _ W hA1 hW) ?_
   rintro e a1 W2 he
   cases e with
   | normal =>
    obtain ⟨hA2, hS2⟩ := he
    have hl2 : W2.heap[w.heap.size + 1]? = some (.loop (rec .ready none)) := (hS2.ents (objE (w.heap.size + 1) (.loop (rec .ready none))) (by simp)).2.1
    refine ⟨_, run_beginRound hl2 (by rw [hrec]), ?_⟩
    have eb : ({ rec .ready none with state := .busy } : Loop) = rec .busy none := by rw [hrec]
    rw [eb]
    have hS3 : St w0 M (E1 k x ++ [objE (w.heap.size + 1) (.loop (rec .busy none)), objE w.heap.size (.deferred (some []))]) (W2.putObj (w.heap.size + 1) (.loop (rec .busy none))) :=
     ((hS2.perm (E' := objE (w.heap.size + 1) (.loop (rec .ready none)) :: (E1 k x ++ [objE w.heap.size (.deferred (some []))])) List.perm_middle.symm).putObj _).perm List.perm_middle
    refine wpIn_mono (F := Fence.wide.inRound (w.heap.size + 1)) (hbody (w.heap.size + 1) k x _ hk hx a1 _ hA2 hS3) ?_
    rintro e a3 W3 he3
    cases e with
    | normal =>
     obtain ⟨y, hy, hSy⟩ := he3
     have hl3 : W3.heap[w.heap.size + 1]? = some (.loop (rec .busy none)) := (hSy.ents (objE (w.heap.size + 1) (.loop (rec .busy none))) (by simp)).2.1
     refine ⟨_, _, run_endRound none hl3, rfl, y, hy, ?_⟩
     have ee : ({ rec .busy none with state := if (none : Option Code).isNone = true then .ready else .done, pending := none } : Loop) = rec .ready none := by rw [hrec]; rfl
     rw [ee]
     exact ((hSy.perm (E' := objE (w.heap.size + 1) (.loop (rec .busy none)) :: (E1 (k + 1) y ++ [objE w.heap.size (.deferred (some []))])) List.perm_middle.symm).putObj _).perm List.perm_middle
    | ret => exact he3.elim
    | exit i => exact he3.elim
    | goto i => exact he3.elim
    | panic c => exact he3.elim
    | outgrown => exact he3.elim
   | ret => exact he.elim
   | exit i => exact he.elim
   | goto i => exact he.elim
   | panic c => exact he.elim
   | outgrown => exact he.elim
  ·exact ⟨x0, h0, hS1.perm (List.perm_append_comm (l₁ := E1 0 x0) (l₂ := [_, _]))⟩
  ·rintro e W2 ⟨⟨u, rfl⟩, x, hx, hS2⟩
   have hl2 : W2.heap[w.heap.size + 1]? = some (.loop (rec .ready none)) := (hS2.ents (objE (w.heap.size + 1) (.loop (rec .ready none))) (by simp)).2.1
   refine ⟨none, _, by have := run_endLoop (P := P) hl2 (by rw [hrec]; simp); rw [hrec] at this; exact this, ?_⟩
   refine hdone w.heap.size x hx a _ hA ?_
   have h3 := (hS2.perm (E' := objE (w.heap.size + 1) (.loop (rec .ready none)) :: objE w.heap.size (.deferred (some [])) :: E1 N x) (List.perm_append_comm (l₁ := [_, _]) (l₂ := E1 N x))).putObj (.loop { rec .ready none with state := .exhausted })
   rw [hrec] at h3
   exact h3.sub (List.sublist_cons_self _ _)
/-- The end of a function behind its range. -/
theorem endM {fn : Func} {R : Ending → World → Prop} {rs : List ResultVar} {vs : List Value} {D : Nat} {a : Act} (hr : fn.results = rs.toArray) (hA : Has n a L) (hS : St w0 M (objE D (.deferred (some [])) :: E) w) (h : ResR P w0 M E L rs vs)
  (k : ∀ w, St w0 M E w → R (.returned (resVal vs)) w) : bodyPostM Fence.wide 0 P fn R .normal { a with defers := { target := .collected D, args := #[] } :: a.defers } w := by
 have hD : w.heap[D]? = some (.deferred (some [])) := (hS.ents _ (List.mem_cons_self ..)).2.1
 have hd : a.defers = [] := hA.2.1
 refine ⟨by simp, .inl ⟨_, _, rfl, run_takeDeferred hD, ?_⟩⟩
 rw [hd]
 have hS2 : St w0 M E (w.putObj D (.deferred none)) := (hS.putObj _).sub (List.sublist_cons_self _ _)
 exact ⟨_, results_run hA hS2 rs hr vs h, k _ hS2⟩
end
end Go.Proofs.YtfccnoccfhgcbaaGreatDoor
namespace Go.Proofs.YtfccnoccfhgcbaaGreatDoor
open Go Go.RowKit

theorem wpIn_loop_ghost {F : Fence} {m : Nat} {P : Program} {Q : Exit → Act → World → Prop} {a : Act} {w : World} {c : Code} (I : Nat → Act → World → Prop) (n0 : Nat) (h0 : I n0 a w)
  (round : ∀ k a w, I k a w → c.wpIn F m P (Exit.then (fun a' w' => ∃ k', k' < k ∧ I k' a' w') Q) a w) : (Code.loop c).wpIn F m P Q a w := by
 refine wpIn_loop (fun a w => ∃ k, I k a w) (fun a w => leastOf (fun k => I k a w)) ⟨n0, h0⟩ ?_
 intro a w hI
 refine wpIn_mono (round _ a w (leastOf_spec hI).1) ?_
 intro e a' w' hq
 cases e with
 | normal =>
  obtain ⟨k', hlt, hI'⟩ := hq
  exact show (∃ k, I k a' w') ∧ leastOf (fun k => I k a' w') < leastOf (fun k => I k a w) from ⟨⟨k', hI'⟩, Nat.lt_of_le_of_lt ((leastOf_spec ⟨k', hI'⟩).2 k' hI') hlt⟩
 | exit id => exact hq
 | goto l => exact hq
 | ret => exact hq
 | panic ch => exact hq
 | outgrown => exact hq
section
variable {P : Program} {Q Q' : Exit → Act → World → Prop} {r : Option Nat} {n : Nat} {w0 w : World} {M : Nat → Prop} {E E' : List Ent} {L L' : Slots}
theorem ci_for {α : Type} {c : Code} (Φ : α → Prop) (ec : α → List Ent) (E0 : List Ent) (ch : α → Slots) (L0 : Slots) (μ : α → Nat) (x0 : α) (h0 : Φ x0) (hL : Sub L (ch x0 ++ L0)) (hE : ∀ w, St w0 M E w → St w0 M (ec x0 ++ E0) w)
  (round : ∀ x, Φ x → WCi r P (Exit.then (Again n w0 M Φ (fun x => ec x ++ E0) (fun x => ch x ++ L0) μ x) Q) n c w0 M (ec x ++ E0) (ch x ++ L0)) : WCi r P Q n (.loop c) w0 M E L := by
 intro a w hA hS
 refine wpIn_loop_ghost (fun m a w => ∃ x, μ x = m ∧ Φ x ∧ Has n a (ch x ++ L0) ∧ St w0 M (ec x ++ E0) w) (μ x0) ⟨x0, rfl, h0, hA.weaken hL.look, hE w hS⟩ ?_
 rintro m a w ⟨x, rfl, hx, h1, h2⟩
 refine wpIn_mono (round x hx a w h1 h2) fun e a w h => ?_
 cases e with
 | normal => obtain ⟨y, h1, h2, h3, h4⟩ := h; exact ⟨μ y, h2, y, rfl, h1, h3, h4⟩
 | exit i => exact h
 | goto l => exact h
 | ret => exact h
 | panic c => exact h
 | outgrown => exact h
theorem ci_meet2 {α : Type} {x y : Code} (Φ : α → Prop) (ec : α → List Ent) (E0 : List Ent) (ch : α → Slots) (L0 : Slots) (_hL : Sub L L0) (e0 : List Ent) (_hE : ∀ w, St w0 M E w → St w0 M (e0 ++ E0) w) (hx : WCi r P (Exit.then (Cut n w0 M Φ (fun x => ec x ++ E0) (fun x => ch x ++ L0)) Q) n x w0 M E L)
  (hy : ∀ t, Φ t → WCi r P Q n y w0 M (ec t ++ E0) (ch t ++ L0)) : WCi r P Q n (.seq x y) w0 M E L := ci_meet Φ ec E0 ch L0 hx hy
theorem ci_lit_t {c : Operand} {x y : Code} (hc : opv L c = some (.bool true)) (k : WCi r P Q n x w0 M E L) : WCi r P Q n (.cond c x y) w0 M E L := ci_cond hc (fun _ => k) (fun h => by cases h)
theorem ci_lit_f {c : Operand} {x y : Code} (hc : opv L c = some (.bool false)) (k : WCi r P Q n y w0 M E L) : WCi r P Q n (.cond c x y) w0 M E L := ci_cond hc (fun h => by cases h) (fun _ => k)
theorem ci_hyp_t {c : Operand} {x y : Code} {q : Bool} (hc : opv L c = some (.bool q)) (hq : q = true) (k : WCi r P Q n x w0 M E L) : WCi r P Q n (.cond c x y) w0 M E L := by subst hq; exact ci_lit_t hc k
theorem ci_hyp_f {c : Operand} {x y : Code} {q : Bool} (hc : opv L c = some (.bool q)) (hq : q = false) (k : WCi r P Q n y w0 M E L) : WCi r P Q n (.cond c x y) w0 M E L := by subst hq; exact ci_lit_f hc k
end

/-! ### Functions that are ranged over: what they read is all that is known of the world -/
def WS (P : Program) (Q : Exit → Act → World → Prop) (n : Nat) (c : Code) (S : World → Prop) (L : Slots) : Prop := ∀ a w, Has n a L → S w → c.wpIn Fence.wide 0 P Q a w
def WSL (P : Program) (ops : Array Oper) (Q : Exit → Act → World → Prop) (n : Nat) (rest : List Oper) (S : World → Prop) (L : Slots) : Prop := ∀ a w, Has n a L → S w → wpListIn Fence.wide 0 P ops Q rest a w
section
variable {P : Program} {ops : Array Oper} {Q : Exit → Act → World → Prop} {n : Nat} {rest : List Oper} {S S' : World → Prop} {L : Slots} {op : Op} {ty d : Nat} {pos : String} {af : Array Edge} {v : Value}
theorem ys_q (hr : Rd P S n L ⟨some d, op, ty, pos, af, none⟩ v) (hd : notDefer ⟨some d, op, ty, pos, af, none⟩ = true) (hn : Nat.blt d n = true) (k : WSL P ops Q n rest S ((d, v) :: L)) :
  WSL P ops Q n (⟨some d, op, ty, pos, af, none⟩ :: rest) S L := by
 intro a w hA hS
 refine wpListIn_plain rfl fun K hK => ?_
 refine ⟨fun _ _ => trivial, ?_⟩
 rw [show Fence.wide.round = none from rfl, semAt_r hd, hr a w hA hS]
 exact hK _ _ (k _ _ (hA.put hn) hS)
theorem ys_yield {l : Nat} {fo : Operand} {ax : List Operand} {ats : Array TypeId} {as1 : List Value} (hx : opv L fo = some (.func (.yield l) #[] #[])) (ha : opvs L ax = some as1) (hn : Nat.blt d n = true)
  (h : ∀ w, S w → YieldAt Fence.wide 0 P l as1.toArray w fun e W' => e = .returned v ∧ S' W') (k : WSL P ops Q n rest S' ((d, v) :: L)) :
  WSL P ops Q n (⟨some d, .call ⟨.value fo, ax.toArray, ats⟩, ty, pos, af, none⟩ :: rest) S L := by
 intro a w hA hS
 obtain ⟨fn, tmps, assign, body, hy, hR⟩ := h w hS
 refine wpListIn_plain rfl fun K hK => ?_
 refine ⟨fun _ _ => trivial, ?_⟩
 rw [show Fence.wide.round = none from rfl, semAt_r rfl]
 have e1 : (ax.toArray.map a.eval) = as1.toArray := by rw [List.map_toArray, hA.evals ha]
 have e2 : (execOp a.eval ⟨some d, .call ⟨.value fo, ax.toArray, ats⟩, ty, pos, af, none⟩).run P w = .ok (.round l fn tmps assign body) w := by
  simp only [execOp, resolve, hA.eval hx, Deferred.ofValue, Sem.run_bind, Sem.run_pure, Result.andThen_ok, invoke, e1]
  simpa using hy
 rw [e2]
 refine ⟨fun h => (by cases h), RoundIn.mono hR ?_⟩
 rintro e W' ⟨rfl, hS'⟩
 exact hK _ _ (k _ _ (hA.put hn) hS')
theorem ys_end (k : ∀ a w, Has n a L → S w → Q .normal a w) : WSL P ops Q n [] S L := fun a w hA hS => wpListIn_nil (k a w hA hS)
theorem yc_reg {id : Nat} {l : List Oper} (k : WSL P l.toArray Q n l S L) : WS P Q n (.region id l.toArray false) S L := fun a w hA hS => wpIn_region_lit (k a w hA hS)
theorem yc_seq {x y : Code} (k : WS P (Exit.then (y.wpIn Fence.wide 0 P Q) Q) n x S L) : WS P Q n (.seq x y) S L := fun a w hA hS => wpIn_seq (k a w hA hS)
theorem yc_block {id : Nat} {c : Code} (k : WS P (Exit.inBlock id Q) n c S L) : WS P Q n (.block id c) S L := fun a w hA hS => wpIn_block (k a w hA hS)
theorem yc_t {c : Operand} {x y : Code} {q : Bool} (hc : opv L c = some (.bool q)) (hq : q = true) (k : WS P Q n x S L) : WS P Q n (.cond c x y) S L := fun a w hA hS => by
 subst hq
 exact wpIn_cond_true (hA.eval hc) (k a w hA hS)
theorem yc_f {c : Operand} {x y : Code} {q : Bool} (hc : opv L c = some (.bool q)) (hq : q = false) (k : WS P Q n y S L) : WS P Q n (.cond c x y) S L := fun a w hA hS => by
 subst hq
 exact wpIn_cond_false (hA.eval hc) (k a w hA hS)
theorem yc_skip (k : ∀ a w, Has n a L → S w → Q .normal a w) : WS P Q n .skip S L := fun a w hA hS => wpIn_skip (k a w hA hS)
theorem yc_exit {i : Nat} (k : ∀ a w, Has n a L → S w → Q (.exit i) a w) : WS P Q n (.exit i) S L := fun a w hA hS => wpIn_exit (k a w hA hS)
theorem yc_loop {α : Type} {c : Code} (Φ : α → Prop) (S1 : α → World → Prop) (L1 : α → Slots) (μ : α → Nat) (x0 : α) (h0 : Φ x0) (hL : Sub L (L1 x0)) (hS0 : ∀ w, S w → S1 x0 w)
  (round : ∀ x, Φ x → WS P (Exit.then (fun a w => ∃ y, Φ y ∧ μ y < μ x ∧ Has n a (L1 y) ∧ S1 y w) Q) n c (S1 x) (L1 x)) : WS P Q n (.loop c) S L := by
 intro a w hA hS
 refine wpIn_loop_ghost (fun m a w => ∃ x, μ x = m ∧ Φ x ∧ Has n a (L1 x) ∧ S1 x w) (μ x0) ⟨x0, rfl, h0, hA.weaken hL.look, hS0 w hS⟩ ?_
 rintro m a w ⟨x, rfl, hx, h1, h2⟩
 refine wpIn_mono (round x hx a w h1 h2) fun e a w h => ?_
 cases e with
 | normal => obtain ⟨y, h1, h2, h3, h4⟩ := h; exact ⟨μ y, h2, y, rfl, h1, h3, h4⟩
 | exit i => exact h
 | goto l => exact h
 | ret => exact h
 | panic c => exact h
 | outgrown => exact h
/-- The entry of a function that is ranged over; it gives nothing back. -/
theorem ys_enter {f : FuncId} {fn : Func} {cd : Code} {vs : List Value} {R : World → Prop} (hf : P.funcs[f]? = some fn) (hb : fn.body = some cd) (hn : fn.ntmps = n) (hl : Nat.ble vs.length n = true)
  (h : WS P (bodyPost P fn fun e w' => (∃ v, e = .returned v) ∧ R w') n cd S (mkSlots 0 vs)) {w : World} (hS : S w) : Calls P f vs.toArray w fun e w' => (∃ v, e = .returned v) ∧ R w' := by
 have hle : vs.length ≤ n := by simpa [Nat.ble_eq] using hl
 refine (callsIn_wide (n := 0)).1 (callsIn_of_wp hf hb trivial (h _ _ ⟨by simp [hn]; omega, rfl, fun t v e => ?_⟩ hS))
 obtain ⟨h1, h2⟩ := look_mkSlots vs 0 t v e
 have h2' : vs[t]? = some v := by simpa using h2
 have hlt : t < vs.length := (List.getElem?_eq_some_iff.1 h2').1
 simp only [Array.getD_eq_getD_getElem?]
 rw [Array.getElem?_append_left (by simpa using hlt)]
 simp [h2']
theorem ys_done {fn : Func} {R : World → Prop} {a : Act} {w : World} (hr : fn.results = #[]) (hA : Has n a L) (h : R w) : bodyPost P fn (fun e w' => (∃ v, e = .returned v) ∧ R w') .normal a w :=
 bodyPost_end (v := .tuple #[]) (by unfold results; rw [hr]; simp) hA.2.1 ⟨⟨_, rfl⟩, h⟩
end
end Go.Proofs.YtfccnoccfhgcbaaGreatDoor
namespace Go.Proofs.YtfccnoccfhgcbaaGreatDoor
open Go Go.RowKit

/-- A number's bits, the highest first. -/
def nbits (n k : Nat) : List Bool := (List.range k).map fun i => n.testBit (k - 1 - i)
theorem nbits_len (n k : Nat) : (nbits n k).length = k := by simp [nbits]
theorem nbits_get {n m k : Nat} (h : k < m) : (nbits n m)[k]? = some (n.testBit (m - 1 - k)) := by simp [nbits, h]
theorem nbits_take {n m k : Nat} (h : k < m) : (nbits n m).take (k + 1) = (nbits n m).take k ++ [n.testBit (m - 1 - k)] := by
 rw [List.take_add_one, nbits_get h]
 rfl
/-- A byte of eight bits. -/
def oct (f : Nat → Bool) : Nat := (f 0).toNat * 128 + (f 1).toNat * 64 + (f 2).toNat * 32 + (f 3).toNat * 16 + (f 4).toNat * 8 + (f 5).toNat * 4 + (f 6).toNat * 2 + (f 7).toNat
def octAt (bs : List Bool) (i : Nat) : Nat := oct fun j => bs.getD (8 * i + j) false
def packN (bs : List Bool) (m : Nat) : List Nat := (List.range m).map (octAt bs)
def pack (bs : List Bool) : List Nat := packN bs ((bs.length + 7) / 8)
def u8s (l : List Nat) : List Value := l.map fun x : Nat => .int .u8 (x : Int)
theorem u8s_len (l : List Nat) : (u8s l).length = l.length := by simp [u8s]
theorem packN_len (bs : List Bool) (m : Nat) : (packN bs m).length = m := by simp [packN]
theorem pack_len (bs : List Bool) : (pack bs).length = (bs.length + 7) / 8 := packN_len _ _
theorem packN_get {bs : List Bool} {m i : Nat} (h : i < m) : (packN bs m)[i]? = some (octAt bs i) := by simp [packN, h]
theorem u8s_get {l : List Nat} {i x : Nat} (h : l[i]? = some x) : (u8s l)[i]? = some (.int .u8 (x : Int)) := by simp [u8s, h]
theorem u8s_cells (l : List Nat) : (u8s l).all Value.oneCell' = true := by
 induction l with
 | nil => rfl
 | cons x l ih => simp only [u8s, List.map_cons, List.all_cons] at *; rw [ih]; rfl
theorem oct_lt (f : Nat → Bool) : oct f < 256 := by
 have h : ∀ b : Bool, b.toNat ≤ 1 := fun b => by cases b <;> decide
 have := h (f 0); have := h (f 1); have := h (f 2); have := h (f 3); have := h (f 4); have := h (f 5); have := h (f 6); have := h (f 7)
 unfold oct
 omega
theorem oct_none {bs : List Bool} {i : Nat} (h : bs.length ≤ 8 * i) : octAt bs i = 0 := by
 have : ∀ j, bs.getD (8 * i + j) false = false := fun j => by
  rw [List.getD_eq_getElem?_getD, List.getElem?_eq_none (by omega)]
  rfl
 unfold octAt oct
 simp only [this]
 rfl
/-- A byte more. -/
theorem pack_zero {bs : List Bool} (h : bs.length % 8 = 0) : pack bs ++ [0] = packN bs (bs.length / 8 + 1) := by
 have e : (bs.length + 7) / 8 = bs.length / 8 := by omega
 unfold pack packN
 rw [e, List.range_succ, List.map_append]
 simp only [List.map_cons, List.map_nil]
 rw [oct_none (by omega)]
theorem pack_part {bs : List Bool} (h : bs.length % 8 ≠ 0) : pack bs = packN bs (bs.length / 8 + 1) := by
 have e : (bs.length + 7) / 8 = bs.length / 8 + 1 := by omega
 unfold pack
 rw [e]
theorem snoc_getD (bs : List Bool) (b : Bool) (k : Nat) : (bs ++ [b]).getD k false = if k = bs.length then b else bs.getD k false := by
 simp only [List.getD_eq_getElem?_getD]
 by_cases h : k < bs.length
 ·rw [List.getElem?_append_left h, if_neg (by omega)]
 ·by_cases h2 : k = bs.length
  ·subst h2; simp
  ·rw [if_neg h2, List.getElem?_eq_none (by simp; omega), List.getElem?_eq_none (by omega)]
theorem or_u8 (x c : Nat) (hx : x < 256) (hc : c < 256) : bits .or .u8 (x : Int) (c : Int) = ((x ||| c : Nat) : Int) := by
 have h : x ||| c < 2 ^ 8 := Nat.or_lt_two_pow (n := 8) hx hc
 have e : bits .or .u8 (x : Int) (c : Int) = IntKind.u8.wrap ((BitVec.ofInt 8 x ||| BitVec.ofInt 8 c).toNat : Int) := rfl
 have e1 : (BitVec.ofInt 8 (x : Int)).toNat = x := by simp; omega
 have e2 : (BitVec.ofInt 8 (c : Int)).toNat = c := by simp; omega
 rw [e, BitVec.toNat_or, e1, e2]
 exact wrap_u8 (by omega)
/-- The bit is put into its byte. -/
theorem oct_or (f : Nat → Bool) (b : Bool) (r : Nat) (hr : r < 8) (hf : ∀ j, r ≤ j → f j = false) :
  bits .or .u8 (oct f : Int) (IntKind.u8.wrap ((b.toNat : Int) * 2 ^ (min (7 - r) 8))) = (oct fun j => if j = r then b else f j : Int) := by
 have hb : b.toNat ≤ 1 := by cases b <;> decide
 have key : ∀ s y : Nat, s < 8 → oct f = 2 ^ (s + 1) * y → s = 7 - r → bits .or .u8 (oct f : Int) (IntKind.u8.wrap ((b.toNat : Int) * 2 ^ (min (7 - r) 8))) = ((oct f + b.toNat * 2 ^ s : Nat) : Int) := by
  intro s y hs hy e
  have e1 : min (7 - r) 8 = s := by omega
  have hp : 2 ^ s ≤ 128 := by
   have := Nat.pow_le_pow_right (n := 2) (by decide) (show s ≤ 7 by omega)
   exact this
  have h1 : b.toNat * 2 ^ s ≤ 128 := Nat.le_trans (Nat.mul_le_mul_right _ hb) (by omega)
  have e2 : (b.toNat : Int) * 2 ^ s = ((b.toNat * 2 ^ s : Nat) : Int) := by simp
  have hl : b.toNat * 2 ^ s < 2 ^ (s + 1) := by
   have : 0 < 2 ^ s := Nat.two_pow_pos s
   rw [Nat.pow_succ]
   have := Nat.mul_le_mul_right (2 ^ s) hb
   omega
  rw [e1, e2, wrap_u8 ⟨by omega, by omega⟩, or_u8 _ _ (oct_lt f) (by omega), hy, ← Nat.two_pow_add_eq_or_of_lt hl]
 have e : r = 0 ∨ r = 1 ∨ r = 2 ∨ r = 3 ∨ r = 4 ∨ r = 5 ∨ r = 6 ∨ r = 7 := by omega
 have h0 := hf 0; have h1 := hf 1; have h2 := hf 2; have h3 := hf 3; have h4 := hf 4; have h5 := hf 5; have h6 := hf 6; have h7 := hf 7
 have fin : ∀ s, s = 7 - r → ((oct f + b.toNat * 2 ^ s : Nat) : Int) = (oct fun j => if j = r then b else f j : Int) := by
  intro s hs
  unfold oct
  rcases e with rfl | rfl | rfl | rfl | rfl | rfl | rfl | rfl
  all_goals
   subst hs
   simp (config := { decide := true }) only [if_true, if_false]
   first | rw [h0 (by decide)] | skip
   first | rw [h1 (by decide)] | skip
   first | rw [h2 (by decide)] | skip
   first | rw [h3 (by decide)] | skip
   first | rw [h4 (by decide)] | skip
   first | rw [h5 (by decide)] | skip
   first | rw [h6 (by decide)] | skip
   rw [h7 (by decide)]
   simp only [Bool.toNat_false]
   omega
 have hy : ∃ y, oct f = 2 ^ (7 - r + 1) * y := by
  unfold oct
  rcases e with rfl | rfl | rfl | rfl | rfl | rfl | rfl | rfl
  all_goals
   first | rw [h0 (by decide)] | skip
   first | rw [h1 (by decide)] | skip
   first | rw [h2 (by decide)] | skip
   first | rw [h3 (by decide)] | skip
   first | rw [h4 (by decide)] | skip
   first | rw [h5 (by decide)] | skip
   first | rw [h6 (by decide)] | skip
   rw [h7 (by decide)]
   simp only [Bool.toNat_false, Nat.zero_mul, Nat.add_zero]
  ·exact ⟨0, rfl⟩
  ·exact ⟨(f 0).toNat, by omega⟩
  ·exact ⟨(f 0).toNat * 2 + (f 1).toNat, by omega⟩
  ·exact ⟨(f 0).toNat * 4 + (f 1).toNat * 2 + (f 2).toNat, by omega⟩
  ·exact ⟨(f 0).toNat * 8 + (f 1).toNat * 4 + (f 2).toNat * 2 + (f 3).toNat, by omega⟩
  ·exact ⟨(f 0).toNat * 16 + (f 1).toNat * 8 + (f 2).toNat * 4 + (f 3).toNat * 2 + (f 4).toNat, by omega⟩
  ·exact ⟨(f 0).toNat * 32 + (f 1).toNat * 16 + (f 2).toNat * 8 + (f 3).toNat * 4 + (f 4).toNat * 2 + (f 5).toNat, by omega⟩
  ·exact ⟨(f 0).toNat * 64 + (f 1).toNat * 32 + (f 2).toNat * 16 + (f 3).toNat * 8 + (f 4).toNat * 4 + (f 5).toNat * 2 + (f 6).toNat, by omega⟩
 obtain ⟨y, hy⟩ := hy
 rw [key (7 - r) y (by omega) hy rfl, fin (7 - r) rfl]
/-- One bit more. -/
theorem octAt_snoc (bs : List Bool) (b : Bool) : bits .or .u8 (octAt bs (bs.length / 8) : Int) (IntKind.u8.wrap ((b.toNat : Int) * 2 ^ (min (7 - bs.length % 8) 8))) = (octAt (bs ++ [b]) (bs.length / 8) : Int) := by
 unfold octAt
 rw [oct_or _ b (bs.length % 8) (by omega) (fun j hj => by rw [List.getD_eq_getElem?_getD, List.getElem?_eq_none (by omega)]; rfl)]
 congr 2
 funext j
 rw [snoc_getD]
 by_cases h : j = bs.length % 8
 ·rw [if_pos h, if_pos (by omega)]
 ·rw [if_neg h, if_neg (by omega)]
theorem octAt_front (bs : List Bool) (b : Bool) {i : Nat} (h : i < bs.length / 8) : octAt (bs ++ [b]) i = octAt bs i := by
 unfold octAt
 rw [show (fun j => (bs ++ [b]).getD (8 * i + j) false) = fun j => if 8 * i + j = bs.length then b else bs.getD (8 * i + j) false from funext fun j => snoc_getD bs b _]
 unfold oct
 dsimp only
 rw [if_neg (by omega), if_neg (by omega), if_neg (by omega), if_neg (by omega), if_neg (by omega), if_neg (by omega), if_neg (by omega), if_neg (by omega)]
theorem pack_snoc (bs : List Bool) (b : Bool) : pack (bs ++ [b]) = (packN bs (bs.length / 8 + 1)).set (bs.length / 8) (octAt (bs ++ [b]) (bs.length / 8)) := by
 have e : ((bs ++ [b]).length + 7) / 8 = bs.length / 8 + 1 := by simp; omega
 unfold pack
 rw [e]
 apply List.ext_getElem?
 intro i
 rw [List.getElem?_set]
 by_cases h : bs.length / 8 = i
 ·subst h
  rw [if_pos rfl, if_pos (by rw [packN_len]; omega), packN_get (by omega)]
 ·rw [if_neg h]
  by_cases h2 : i < bs.length / 8 + 1
  ·rw [packN_get h2, packN_get h2, octAt_front bs b (by omega)]
  ·rw [List.getElem?_eq_none (by rw [packN_len]; omega), List.getElem?_eq_none (by rw [packN_len]; omega)]
/-- The bit that is handed out. -/
theorem bit_shr (n i : Nat) (hi : i < 64) : IntKind.u8.wrap (bits .and .u64 ((n : Int).fdiv (2 ^ (min ((i : Int)).toNat IntKind.u64.bits))) 1) = ((n.testBit i).toNat : Int) := by
 rw [shrn n i (2 ^ i) hi rfl, show (1 : Int) = ((1 : Nat) : Int) from rfl]
 have h : bits .and .u64 ((n / 2 ^ i : Nat) : Int) ((1 : Nat) : Int) = (((n / 2 ^ i) % 2 : Nat) : Int) := by
  have e : bits .and .u64 ((n / 2 ^ i : Nat) : Int) ((1 : Nat) : Int) = IntKind.u64.wrap ((BitVec.ofInt 64 ((n / 2 ^ i : Nat) : Int) &&& BitVec.ofInt 64 ((1 : Nat) : Int)).toNat : Int) := rfl
  have e2 : (BitVec.ofInt 64 ((n / 2 ^ i : Nat) : Int) &&& BitVec.ofInt 64 ((1 : Nat) : Int)).toNat = (n / 2 ^ i) % 2 := by
   rw [BitVec.toNat_and, BitVec.toNat_ofInt, BitVec.toNat_ofInt]
   have a1 : (((1 : Nat) : Int) % ((2 ^ 64 : Nat) : Int)).toNat = 1 := rfl
   have a2 : (((n / 2 ^ i : Nat) : Int) % ((2 ^ 64 : Nat) : Int)).toNat = (n / 2 ^ i) % 2 ^ 64 := by
    rw [← Int.natCast_emod]; rfl
   rw [a1, a2, Nat.and_one_is_mod]
   omega
  rw [e, e2]
  exact wrap_u64 (by omega)
 rw [h, Nat.toNat_testBit]
 exact wrap_u8 (by omega)
end Go.Proofs.YtfccnoccfhgcbaaGreatDoor
namespace Go.Proofs.YtfccnoccfhgcbaaGreatDoor
open Go Go.RowKit

/-- The function that hands out a number's bits. -/
theorem c170 (n N b1 b2 : Nat) (hN : N ≤ 64) (hn : n ≤ 18446744073709551615) : Iter Tryz.prog 170 [.pointer (some ⟨b1, 0, none⟩), .pointer (some ⟨b2, 0, none⟩)] N (fun k => .int .u8 ((n.testBit (N - 1 - k)).toNat : Int)) (fun w => w.cell? ⟨b1, 0, none⟩ = some (.int .i64 (N : Int)) ∧ w.cell? ⟨b2, 0, none⟩ = some (.int .u64 (n : Int))) := by
 intro l J W hH hY h0
 refine ys_enter (vs := [.func (.yield l) #[] #[], .pointer (some ⟨b1, 0, none⟩), .pointer (some ⟨b2, 0, none⟩)]) (R := J N) Tryz.func170 rfl Tryz.ntmps170 rfl (S := J 0) ?_ h0
 refine yc_seq ?_
 refine yc_reg ?_
 refine ys_q (rd_load C3 rfl (fun w hS => (hH 0 w hS).1)) rfl rfl ?_
 refine ys_q (rd_sub rfl rfl rfl) rfl rfl ?_
 refine ys_q (rd_assign rfl) rfl rfl ?_
 refine ys_end ?_
 refine yc_block ?_
 have e0 : IntKind.i64.wrap ((N : Int) - 1) = ((N : Int) - 1) - ((0 : Nat) : Int) := by rw [wrap_i64 (by omega)]; omega
 refine yc_loop (α := Nat) (fun k => k ≤ N) (fun k => J k) (fun k => [(4, .int .i64 ((N : Int) - 1 - (k : Int))), (0, .func (.yield l) #[] #[]), (1, .pointer (some ⟨b1, 0, none⟩)), (2, .pointer (some ⟨b2, 0, none⟩))]) (fun k => N - k) 0 (Nat.zero_le _) (.cons (by rw [← e0]; rfl) (by repeat constructor)) (fun _ h => h) ?_
 intro k hk
 refine yc_seq ?_
 refine yc_seq ?_
 refine yc_reg ?_
 refine ys_q (rd_move rfl) rfl rfl ?_
 refine ys_q (rd_geq rfl rfl) rfl rfl ?_
 refine ys_end ?_
 by_cases hkN : k < N
 ·refine yc_t rfl (decide_eq_true (by omega)) ?_
  refine yc_skip ?_
  refine yc_seq ?_
  refine yc_block ?_
  refine yc_seq ?_
  refine yc_reg ?_
  have ei : (N : Int) - 1 - (k : Int) = ((N - 1 - k : Nat) : Int) := by omega
  refine ys_q (rd_move rfl) rfl rfl ?_
  refine ys_q (rd_load C118 rfl (fun w hS => (hH k w hS).2)) rfl rfl ?_
  refine ys_q (rd_move rfl) rfl rfl ?_
  refine ys_q (rd_shr rfl rfl (by omega) rfl) rfl rfl ?_
  refine ys_q (rd_and' rfl rfl rfl) rfl rfl ?_
  refine ys_q (rd_conv (c := ((n.testBit (N - 1 - k)).toNat : Int)) ⟨_, I118⟩ I5 rfl (by rw [ei]; exact bit_shr n (N - 1 - k) (by omega))) rfl rfl ?_
  refine ys_yield (v := .bool true) (S' := J (k + 1)) rfl rfl rfl (fun w hS => hY k w hkN hS) ?_
  refine ys_q (rd_not rfl) rfl rfl ?_
  refine ys_end ?_
  refine yc_f rfl rfl ?_
  refine yc_skip ?_
  refine yc_reg ?_
  refine ys_q (rd_move rfl) rfl rfl ?_
  refine ys_q (rd_sub rfl rfl rfl) rfl rfl ?_
  refine ys_q (rd_assign rfl) rfl rfl ?_
  refine ys_end ?_
  intro a w hA hS
  have e1 : IntKind.i64.wrap ((N : Int) - 1 - (k : Int) - 1) = (N : Int) - 1 - ((k + 1 : Nat) : Int) := by rw [wrap_i64 (by omega)]; omega
  exact ⟨k + 1, hkN, by omega, hA.weaken (Sub.look (.cons (by rw [← e1]; rfl) (by repeat constructor))), hS⟩
 ·refine yc_f rfl (decide_eq_false (by omega)) ?_
  refine yc_exit ?_
  intro a w hA hS
  have : k = N := by omega
  subst this
  exact ys_done rfl hA hS
end Go.Proofs.YtfccnoccfhgcbaaGreatDoor
namespace Go.Proofs.YtfccnoccfhgcbaaGreatDoor
open Go Go.RowKit
theorem K170 : callTy Tryz.prog 170 := by unfold callTy; kernel_rfl
theorem K140 : callTy Tryz.prog 140 := by unfold callTy; kernel_rfl
theorem K139 : callTy Tryz.prog 139 := by unfold callTy; kernel_rfl
theorem C92 : cellTy Tryz.prog 92 := ⟨by kernel_rfl, by kernel_rfl⟩
theorem F94_1 : fieldTy Tryz.prog 94 1 1 := fieldTy.mk' Tryz.underlying94 rfl (by kernel_rfl) rfl
theorem F94_0 : fieldTy Tryz.prog 94 0 0 := fieldTy.mk' Tryz.underlying94 rfl (by kernel_rfl) rfl
theorem C37 : cellTy Tryz.prog 37 := ⟨by kernel_rfl, by kernel_rfl⟩
theorem Rt37 : rowTy Tryz.prog 37 5 1 1 [.int .u8 0] := ⟨by kernel_rfl, by kernel_rfl, by kernel_rfl, by unfold zeroTy; kernel_rfl, by decide, rfl⟩
theorem S37 : sliceTy Tryz.prog 37 5 1 := ⟨by kernel_rfl, by kernel_rfl⟩
theorem C5 : cellTy Tryz.prog 5 := ⟨by kernel_rfl, by kernel_rfl⟩
theorem Sz5 : (Tryz.prog.info? 5).map (·.size) = some 1 := by kernel_rfl
theorem c140 (k : Nat) (h : k ≤ 64) : Pu Tryz.prog 140 [.int .i64 (k : Int)] (.int .i64 (k : Int)) := by
 refine Pu.enter Tryz.func140 rfl Tryz.ntmps140 rfl (fun w => ?_)
 refine c_seq ?_
 refine c_reg ?_
 refine sq (rd_assign rfl) rfl ?_
 refine s_end ?_
 refine f_then ?_
 refine c_seq ?_
 refine c_reg ?_
 refine sq (rd_move rfl) rfl ?_
 refine sq (rd_min' (r := (k : Int)) rfl rfl (by split <;> omega)) rfl ?_
 refine sq (rd_max' (r := (k : Int)) rfl rfl (by split <;> omega)) rfl ?_
 refine sq (rd_assign rfl) rfl ?_
 refine s_end ?_
 refine f_then ?_
 refine c_ret ?_
 refine f_ret rfl (.tmp rfl .nil) ?_
 exact pu_end rfl

theorem c139 (w : World) (n N : Nat) (hS : St w (fpOf []) [] w) : Calls Tryz.prog 139 [.int .u64 (n : Int), .int .i64 (N : Int)].toArray w (RtE fun v w' => ∃ x : Nat × Nat, v = (fun x => .func (.func 170) #[] #[.pointer (some ⟨x.1, 0, none⟩), .pointer (some ⟨x.2, 0, none⟩)]) x ∧ (fun _ => True) x ∧ St w (fpOf []) ((fun x => [.blk x.1 [.int .i64 (N : Int)] 3, .blk x.2 [.int .u64 (n : Int)] 118]) x) w') := by
 refine enter Tryz.func139 rfl Tryz.ntmps139 rfl hS ?_
 refine c_seq ?_
 refine c_reg ?_
 refine sx (ef_box rfl rfl rfl) rfl ?_
 rintro b2 hb2
 refine sx (ef_box rfl rfl rfl) rfl ?_
 rintro b3 hb3
 refine sq (rd_assign rfl) rfl ?_
 refine s_end ?_
 refine f_then ?_
 refine c_seq ?_
 refine c_reg ?_
 refine sq (rd_func rfl rfl) rfl ?_
 refine sq (rd_assign rfl) rfl ?_
 refine s_end ?_
 refine f_then ?_
 refine c_ret ?_
 refine f_ret rfl (.tmp rfl .nil) ?_
 exact fun w' hS => ⟨_, rfl, (b3, b2), rfl, trivial, St.sub (E' := [_, _]) hS (by repeat (first | exact .refl _ | apply List.Sublist.cons_cons | apply List.Sublist.cons))⟩

theorem u8s_set {l : List Nat} {i x : Nat} (h : i < l.length) : (u8s l).take i ++ [.int .u8 (x : Int)] ++ (u8s l).drop (i + 1) = u8s (l.set i x) := by
 rw [List.set_eq_take_append_cons_drop, if_pos h]
 simp [u8s]

theorem c91 (w : World) (bw : Nat) (A : Option Addr) (cap : Nat) (bs : List Bool) (n N : Nat) (hN : N ≤ 64) (hn : n ≤ 18446744073709551615) (hbs : bs.length ≤ 100000000) (hS : St w (fpOf [.blk bw [.slice A (pack bs).length cap, .int .i64 ((bs).length : Int)] 94, .row 5 1 A (pack bs).length cap (u8s (pack bs))]) [.blk bw [.slice A (pack bs).length cap, .int .i64 ((bs).length : Int)] 94, .row 5 1 A (pack bs).length cap (u8s (pack bs))] w) : Calls Tryz.prog 91 [.pointer (some ⟨bw, 0, none⟩), .int .u64 (n : Int), .int .i64 (N : Int)].toArray w (RtE fun v w' => ∃ x : Option Addr × Nat, v = (fun _ => .tuple #[]) x ∧ (fun _ => True) x ∧ St w (fpOf [.blk bw [.slice A (pack bs).length cap, .int .i64 ((bs).length : Int)] 94, .row 5 1 A (pack bs).length cap (u8s (pack bs))]) ((fun x => [.blk bw [.slice x.1 (pack (bs ++ nbits n N)).length x.2, .int .i64 (((bs ++ nbits n N)).length : Int)] 94, .row 5 1 x.1 (pack (bs ++ nbits n N)).length x.2 (u8s (pack (bs ++ nbits n N)))]) x) w') := by
 refine enterM Tryz.func91 rfl Tryz.ntmps91 rfl hS ?_
 refine ci_seq ?_
 refine ci_reg (by rfl) ?_
 refine sx (ef_box rfl rfl rfl) rfl ?_
 rintro b3 hb3
 refine s_end ?_
 refine fi_then ?_
 refine ci_seq ?_
 refine ci_reg (by rfl) ?_
 refine sq (rd_move rfl) rfl ?_
 refine sq (rd_move rfl) rfl ?_
 refine se (ef_pure rfl rfl K140 rfl (by exact c140 N hN)) rfl ?_
 refine sx (ef_call rfl rfl K139 (fun _ e => by cases e; rfl) [] _ (.refl _) _ _ _ (fun w hS => by exact c139 w n N hS.own)) rfl ?_
 rintro ⟨bk, bn⟩ _
 refine s_end ?_
 refine fi_then ?_
 refine ci_block ?_
 refine ci_front (.row 5 _ _ _ _ _) (by repeat constructor) ?_
 refine ci_front (.blk bw _ _) (by repeat constructor) ?_
 refine ci_front (.blk bn _ _) (by repeat constructor) ?_
 refine ci_front (.blk bk _ _) (by repeat constructor) ?_
 refine ci_front (.blk b3 _ _) (by repeat constructor) ?_
 refine ci_keep (L' := [(3, _), (10, _)]) (.cons rfl (.cons rfl .nil)) ?_
 refine ci_range (α := Option Addr × Nat) (v := 6) rfl K170 (c170 n N bk bn hN hn) (fun k ⟨A1, c1⟩ => True) (fun k ⟨A1, c1⟩ => [.blk b3 [.pointer (some ⟨bw, 0, none⟩)] 92, .blk bk [.int .i64 (N : Int)] 3, .blk bn [.int .u64 (n : Int)] 118, .blk bw [.slice A1 (pack (bs ++ (nbits n N).take k)).length c1, .int .i64 (((bs ++ (nbits n N).take k)).length : Int)] 94, .row 5 1 A1 (pack (bs ++ (nbits n N).take k)).length c1 (u8s (pack (bs ++ (nbits n N).take k)))]) ((A, cap)) (trivial) (fun _ h => by dsimp only; rw [List.take_zero, List.append_nil]; exact h) (fun k x Ex w hS => ⟨hS.cell (b := bk) (vs := [.int .i64 (N : Int)]) (te := 3) (.tail _ (.head _)) 0, hS.cell (b := bn) (vs := [.int .u64 (n : Int)]) (te := 118) (.tail _ (.tail _ (.head _))) 0⟩) rfl ?_ ?_ ?_
 ·intro l k ⟨A1, c1⟩ Ex hk hx
  refine ci_reg (by rfl) ?_
  refine sq (rd_assign rfl) rfl ?_
  refine s_end ?_
  exact fun a w hA hS => ⟨hA, hS⟩
 ·rintro l k ⟨A1, c1⟩ Ex hk hx
  refine ci_ents (E' := _ :: _ :: _ :: _ :: _ :: Ex) (fun _ h => h) ?_
  obtain ⟨B, hB⟩ : ∃ B, B = (bs ++ (nbits n N).take k) := ⟨_, rfl⟩
  have hBl : B.length ≤ 1000000000 := by rw [hB, List.length_append, List.length_take, nbits_len]; omega
  obtain ⟨b, hb⟩ : ∃ b, b = (n.testBit (N - 1 - k)) := ⟨_, rfl⟩
  refine ci_ents (fun _ h => by rw [← hB] at h; exact h) ?_
  refine ci_block ?_
  refine ci_front (.blk bn _ _) (by repeat constructor) ?_
  refine ci_front (.blk bk _ _) (by repeat constructor) ?_
  refine ci_front (.blk b3 _ _) (by repeat constructor) ?_
  refine ci_front (.row 5 _ _ _ _ _) (by repeat constructor) ?_
  refine ci_front (.blk bw _ _) (by repeat constructor) ?_
  refine ci_meet2 (α := Option Addr × Nat) (fun ⟨A2, c2⟩ => True) (fun ⟨A2, c2⟩ => [.blk bw [.slice A2 (B.length / 8 + 1) c2, .int .i64 (B.length : Int)] 94, .row 5 1 A2 (B.length / 8 + 1) c2 (u8s (packN B (B.length / 8 + 1)))]) (.blk b3 _ _ :: .blk bk _ _ :: .blk bn _ _ :: Ex) (fun ⟨A2, c2⟩ => []) [(6, _), (3, _)] (.cons rfl (.cons rfl .nil)) [.blk bw _ _, .row 5 _ _ _ _ _] (fun _ h => h) ?_ ?_
  ·refine ci_seq ?_
   refine ci_reg (by rfl) ?_
   refine sq (rd_ldb C92 rfl (by repeat constructor) rfl) rfl ?_
   refine sq (rd_nil rfl) rfl ?_
   refine sq (rd_field F94_1 rfl) rfl ?_
   refine sq (rd_ldb C3 rfl (by repeat constructor) rfl) rfl ?_
   refine sq (rd_rem rfl rfl (by omega) (by first | exact Int.tmod_eq_emod_of_nonneg (by omega) | exact rfl)) rfl ?_
   refine sq (rd_eql rfl rfl) rfl ?_
   refine s_end ?_
   refine fi_then ?_
   refine ci_if rfl (fun h17 => ?_) (fun h17 => ?_)
   ·refine ci_regd (.blk b3 _ _ :: .blk bk _ _ :: .blk bn _ _ :: Ex) (.q 0 (.q 1 (.q 2 (.q 3 (.alt 4 (.alt 5 (.alt 6 (.q 7 (.q 8 (.alt 9 .done .stop))) .stop) .stop) (.alt 5 (.alt 4 (.alt 6 (.q 7 (.q 8 (.alt 9 .done .stop))) .stop) .stop) .stop)))))) (by rfl) (by kernel_rfl) (by kernel_rfl) (by kernel_rfl) (by kernel_rfl) (fun _ h => h.sb) ?_
    refine dq rfl (rd_ldb C92 rfl (by repeat constructor) rfl) rfl ?_
    refine dq rfl (rd_ldb C92 rfl (by repeat constructor) rfl) rfl ?_
    refine dq rfl (rd_nil rfl) rfl ?_
    refine dq rfl (rd_field F94_0 rfl) rfl ?_
    refine de rfl rfl (ef_quiet (rd_ldb C37 rfl (by repeat constructor) rfl) rfl) (fun _ h => h.sb) ?_ ?_
    ·refine dx rfl rfl (ef_slice Rt37 rfl (by repeat constructor) rfl rfl) (fun _ _ _ h => h.sb) ?_ d_stop
     rintro b23 hb23
     refine d_front (.row 5 _ _ _ _ _) (by repeat constructor) ?_
     refine dx rfl rfl (ef_append Rt37 rfl rfl rfl rfl (src_blk (by repeat constructor) rfl) rfl (by rw [pack_len]; omega) (by rw [pack_len]; unfold maxLen; omega) rfl) (fun _ _ _ h => h.sb) ?_ d_stop
     rintro ⟨A', c'⟩ hA'
     refine dq rfl (rd_nil rfl) rfl ?_
     refine dq rfl (rd_field F94_0 rfl) rfl ?_
     refine de rfl rfl (ef_store C37 rfl rfl (by repeat constructor) (by repeat constructor) rfl) (fun _ h => h.sb) ?_ d_stop
     refine d_end ?_
     have e1 := pack_zero (bs := B) (by omega)
     have e2 : (pack B).length + 1 = B.length / 8 + 1 := by rw [pack_len]; omega
     have e3 : u8s (packN B (B.length / 8 + 1)) = u8s (pack B) ++ [.int .u8 0] := by rw [← e1]; simp [u8s]
     refine f_front (.blk bn _ _) (by repeat constructor) ?_
     refine f_front (.blk bk _ _) (by repeat constructor) ?_
     refine f_front (.blk b3 _ _) (by repeat constructor) ?_
     refine f_front (.row 5 _ A' _ c' _) (by repeat constructor) ?_
     refine f_front (.blk bw _ _) (by repeat constructor) ?_
     refine f_cut ((A', c')) (trivial) (.cons rfl (.cons rfl .nil)) (fun _ h => by dsimp only; rw [e3, ← e2]; exact h.sb)
    refine dx rfl rfl (ef_slice Rt37 rfl (by repeat constructor) rfl rfl) (fun _ _ _ h => h.sb) ?_ ?_
    ·rintro b23_1 hb23_1
     refine de rfl rfl (ef_quiet (rd_ldb C37 rfl (by repeat constructor) rfl) rfl) (fun _ h => h.sb) ?_ d_stop
     refine d_front (.row 5 _ _ _ _ _) (by repeat constructor) ?_
     refine dx rfl rfl (ef_append Rt37 rfl rfl rfl rfl (src_blk (by repeat constructor) rfl) rfl (by rw [pack_len]; omega) (by rw [pack_len]; unfold maxLen; omega) rfl) (fun _ _ _ h => h.sb) ?_ d_stop
     rintro ⟨A', c'⟩ hA'
     refine dq rfl (rd_nil rfl) rfl ?_
     refine dq rfl (rd_field F94_0 rfl) rfl ?_
     refine de rfl rfl (ef_store C37 rfl rfl (by repeat constructor) (by repeat constructor) rfl) (fun _ h => h.sb) ?_ d_stop
     refine d_end ?_
     have e1 := pack_zero (bs := B) (by omega)
     have e2 : (pack B).length + 1 = B.length / 8 + 1 := by rw [pack_len]; omega
     have e3 : u8s (packN B (B.length / 8 + 1)) = u8s (pack B) ++ [.int .u8 0] := by rw [← e1]; simp [u8s]
     refine f_front (.blk bn _ _) (by repeat constructor) ?_
     refine f_front (.blk bk _ _) (by repeat constructor) ?_
     refine f_front (.blk b3 _ _) (by repeat constructor) ?_
     refine f_front (.row 5 _ A' _ c' _) (by repeat constructor) ?_
     refine f_front (.blk bw _ _) (by repeat constructor) ?_
     refine f_cut ((A', c')) (trivial) (.cons rfl (.cons rfl .nil)) (fun _ h => by dsimp only; rw [e3, ← e2]; exact h.sb)
    exact d_stop
   ·refine ci_skip ?_
    have e1 := pack_part (bs := B) (by omega)
    have e2 : (pack B).length = B.length / 8 + 1 := by rw [pack_len]; omega
    refine f_cut ((A1, c1)) (trivial) (.cons rfl (.cons rfl .nil)) (fun _ h => by dsimp only; rw [← e1, ← e2]; exact h.sb)
  ·rintro ⟨A2, c2⟩ _
   refine ci_seq ?_
   refine ci_know (fun _ h => (row_know (e := 5) (sz := 1) (A := A2) (m := B.length / 8 + 1) (cap := c2) (by repeat constructor) _ h).2.2.2 (by omega)) (fun hpl => ?_)
   refine ci_regd (.blk bw _ _ :: .blk b3 _ _ :: .blk bk _ _ :: .blk bn _ _ :: Ex) (.q 0 (.q 1 (.q 2 (.q 3 (.q 4 (.q 5 (.q 6 (.q 7 (.q 8 (.q 9 (.q 11 (.q 12 (.q 13 (.q 14 (.q 15 (.q 16 (.q 17 (.q 18 (.alt 10 (.q 19 (.q 20 (.alt 21 .done .stop))) .stop))))))))))))))))))) (by rfl) (by kernel_rfl) (by kernel_rfl) (by kernel_rfl) (by kernel_rfl) (fun _ h => h.sb) ?_
   refine dq rfl (rd_ldb C92 rfl (by repeat constructor) rfl) rfl ?_
   refine dq rfl (rd_nil rfl) rfl ?_
   refine dq rfl (rd_field F94_0 rfl) rfl ?_
   refine dq rfl (rd_ldb C37 rfl (by repeat constructor) rfl) rfl ?_
   refine dq rfl (rd_ldb C92 rfl (by repeat constructor) rfl) rfl ?_
   refine dq rfl (rd_nil rfl) rfl ?_
   refine dq rfl (rd_field F94_1 rfl) rfl ?_
   refine dq rfl (rd_ldb C3 rfl (by repeat constructor) rfl) rfl ?_
   refine dq rfl (rd_quo rfl rfl (by omega) (quon B.length 8 (by omega) (by omega))) rfl ?_
   refine dq rfl (rd_index S37 rfl rfl (fun _ => hpl.1) (by omega) (by omega)) rfl ?_
   refine dq rfl (rd_move rfl) rfl ?_
   refine dq rfl (rd_ldb C92 rfl (by repeat constructor) rfl) rfl ?_
   refine dq rfl (rd_nil rfl) rfl ?_
   refine dq rfl (rd_field F94_1 rfl) rfl ?_
   refine dq rfl (rd_ldb C3 rfl (by repeat constructor) rfl) rfl ?_
   refine dq rfl (rd_rem rfl rfl (by omega) (by first | exact Int.tmod_eq_emod_of_nonneg (by omega) | exact rfl)) rfl ?_
   refine dq rfl (rd_sub rfl rfl (by first | exact wrap_i64 (by omega) | exact rfl)) rfl ?_
   refine dq rfl (rd_shl (c := IntKind.u8.wrap ((b.toNat : Int) * 2 ^ (min (7 - B.length % 8) 8))) rfl rfl (by omega) (by rw [show (7 - (B.length : Int) % 8).toNat = 7 - B.length % 8 from by omega, hb]; rfl)) rfl ?_
   refine de rfl rfl (ef_quiet (rd_ldr C5 (by repeat constructor) rfl (by simp only [Int.toNat_natCast, Nat.mul_one]; exact u8s_get (packN_get (by omega)))) rfl) (fun _ h => h.sb) ?_ d_stop
   refine dq rfl (rd_or' rfl rfl (octAt_snoc B b)) rfl ?_
   refine dq rfl (rd_index S37 rfl rfl (fun _ => hpl.1) (by omega) (by omega)) rfl ?_
   refine d_front (.row 5 _ _ _ _ _) (by repeat constructor) ?_
   refine de rfl rfl (ef_storer (ys := u8s (pack (B ++ [b]))) Sz5 rfl rfl rfl rfl rfl (by simp only [Int.toNat_natCast]; omega) (by decide) rfl (by simp only [Int.toNat_natCast, Nat.mul_one]; rw [pack_snoc]; exact u8s_set (by rw [packN_len]; omega))) (fun _ h => h.sb) ?_ d_stop
   refine d_end ?_
   refine fi_then ?_
   refine ci_reg (by rfl) ?_
   refine sq (rd_ldb C92 rfl (by repeat constructor) rfl) rfl ?_
   refine sq (rd_nil rfl) rfl ?_
   refine sq (rd_field F94_1 rfl) rfl ?_
   refine sq (rd_ldb C3 rfl (by repeat constructor) rfl) rfl ?_
   refine sq (rd_add rfl rfl (by first | exact wrap_i64 (by omega) | exact rfl)) rfl ?_
   refine sq (rd_nil rfl) rfl ?_
   refine sq (rd_field F94_1 rfl) rfl ?_
   refine se (ef_store C3 rfl rfl (by repeat constructor) (by repeat constructor) rfl) rfl ?_
   refine s_end ?_
   refine f_blk ?_
   have e1 : (bs ++ (nbits n N).take (k + 1)) = B ++ [b] := by rw [nbits_take hk, hB, hb, List.append_assoc]
   have e2 : (pack (B ++ [b])).length = B.length / 8 + 1 := by rw [pack_len, List.length_append]; simp only [List.length_cons, List.length_nil]; omega
   have e3 : ((B ++ [b]).length : Int) = (B.length : Int) + 1 := by simp
   refine f_front (.blk bw _ _) (by repeat constructor) ?_
   refine f_front (.blk bn _ _) (by repeat constructor) ?_
   refine f_front (.blk bk _ _) (by repeat constructor) ?_
   refine f_front (.blk b3 _ _) (by repeat constructor) ?_
   refine f_round ((A2, c2)) (trivial) (fun _ h => by dsimp only; rw [e1, e2, e3]; exact h.sb)
 ·rintro D ⟨A2, c2⟩ _ a w hA hS
  refine endM rfl hA hS .nil (fun w' hS => ⟨_, rfl, (A2, c2), rfl, trivial, ?_⟩)
  dsimp only at hS
  rw [List.take_of_length_le (by rw [nbits_len]; exact Nat.le_refl _)] at hS
  exact St.sub (E' := [_, _]) hS (by repeat (first | exact .refl _ | apply List.Sublist.cons_cons | apply List.Sublist.cons))

end Go.Proofs.YtfccnoccfhgcbaaGreatDoor
namespace Go.Proofs.YtfccnoccfhgcbaaGreatDoor
open Go Go.RowKit

section
variable {P : Program} {S : World → Prop} {ops : Array Oper} {Q : Exit → Act → World → Prop} {n : Nat} {rest : List Oper} {w0 w : World} {M : Nat → Prop} {E E' ES : List Ent} {L L' : Slots} {d ty : Nat} {dst : Option Nat} {pos : String} {af : Array Edge} {x y z : Operand} {v u : Value} {t t' e sz bytes m cap c : Nat} {g : Option (Nat × Bool)}
 {zs xs us cs news : List Value} {A A2 : Option Addr} {k : IntKind}

theorem rd_isnil (ht : P.underlying t = some (.slice e)) (hx : opv L x = some (.slice A m cap)) (hy : opv L y = some (.slice none 0 0)) : Rd P S n L ⟨dst, .binOp .eql t x y t', ty, pos, af, g⟩ (.bool A.isNone) :=
 rd_bin hx hy fun w => by
  have h : (eqGuard .eql t x y (.slice A m cap) (.slice none 0 0)).run P w = .ok () w := by unfold eqGuard; simp
  rw [Sem.run_bind, h]
  exact Lib.run_eql_slice_nil w t e A m cap 0 0 ht
theorem Sl.isnil {cs : List Value} (h : Sl w M A m sz cs) (hA : A.isNone = true) : A = none ∧ m = 0 ∧ cs = [] := by
 have h1 : A = none := by cases A <;> simp_all
 have h2 : m = 0 := by
  rcases Nat.eq_zero_or_pos m with h0 | h0
  ·exact h0
  ·have := h.plain h0
   rw [h1] at this
   cases this
 refine ⟨h1, h2, ?_⟩
 have := h.len
 rw [h2, Nat.zero_mul] at this
 exact List.length_eq_zero_iff.1 this
theorem zrep_zero (zs : List Value) : zrep 0 zs = [] := by simp [zrep]
theorem zrep_one (z : Value) (k : Nat) : zrep k [z] = List.replicate k z := by
 unfold zrep
 apply List.ext_getElem
 ·simp
 ·intro i h1 h2
  simp [Nat.mod_one]
theorem madeCells_rep {zs : List Value} {k : Nat} (hz : 0 < zs.length) : madeCells zs.toArray (k * zs.length) = (zrep k zs).toArray := by
 unfold madeCells zrep
 apply Array.ext_getElem?
 intro i
 rw [← List.toArray_range]
 simp only [List.map_toArray, List.getElem?_toArray]
 simp
/-- A slice that is made, of a size that is known. -/
theorem ef_make {kl kc : IntKind} {k : Nat} {a b : Int} (ht : rowTy P t e sz bytes zs) (hx : opv L x = some (.int kl a)) (hy : opv L y = some (.int kc b)) (h1 : (k : Int) = a) (h2 : (k : Int) = b) (hb : bytes * k ≤ 281474976710656) (hk : k ≤ 9223372036854775807) (hd : Nat.blt d n = true) :
  Ef P n w0 M E L ⟨some d, .makeSlice t x y, ty, pos, af, g⟩ (fun K => ∀ bl : Nat, w0.heap.size ≤ bl → To n w0 M (.blk bl (zrep k zs) e :: E) ((d, .slice (some ⟨bl, 0, none⟩) k k) :: L) K) := by
 subst h1 h2
 intro K Q A w hK hA hS
 obtain ⟨i, z, hi, hz, hs, hby, hzs⟩ := ht.info
 have hzc : z.cells = zs.toArray := by
  have := ht.2.2.2.1
  unfold zeroTy at this
  rw [hi] at this
  simpa [hz] using this
 have hbb : (i.bytes : Int) * (k : Int) ≤ 281474976710656 := by
  rw [hby]
  have h : ((bytes * k : Nat) : Int) ≤ 281474976710656 := by omega
  rwa [Int.natCast_mul] at h
 have hr := run_make (P := P) w t e i z ht.1 hi hz kl kc (k : Int) (k : Int) (by omega) (Int.le_refl _) hbb (by omega)
 simp only [Int.toNat_natCast, hs, hzc] at hr
 have hsz : sz = zs.length := ht.2.2.2.2.2.symm
 rw [hsz, madeCells_rep (by rw [ht.2.2.2.2.2]; exact ht.2.2.2.2.1)] at hr
 unfold Oper.wp
 simp only [execOp, hA.eval hx, hA.eval hy, Sem.run_bind, hr, Result.andThen_ok, Sem.run_pure, Oper.upon]
 exact hK w.heap.size hS.size _ _ (hA.put hd) (hS.alloc (zrep k zs) e)
/-- What stands behind a place of a row is cleared. -/
theorem ef_clear {ats : Array TypeId} {j : Nat} (ht : rowTy P t e sz bytes zs) (hat : ats = #[t]) (hE : E = .row e sz A m cap xs :: E') (hx : opv L x = some (.slice (subA A cap j sz) (m - j) (cap - j))) (hj : j ≤ m) (h1 : zs.all Value.oneCell' = true) :
  Ef P n w0 M E L ⟨none, .call ⟨.builtin .clear, #[x], ats⟩, ty, pos, af, g⟩ (fun K => To n w0 M (.row e sz A m cap (xs.take (j * sz) ++ zrep (m - j) zs) :: E') L K) := by
 subst hE hat
 intro K Q a w hK hA hS
 unfold Oper.wp
 have hk := row_know (List.mem_cons_self ..) w hS
 obtain ⟨z, hz1, hz2⟩ := ht.2.2.2.1.run w
 have hzl : zs.length = sz := ht.2.2.2.2.2
 have hpos : 0 < sz := ht.2.2.2.2.1
 have hzr : (zrep (m - j) zs).length = (m - j) * sz := by simp [zrep, hzl]
 by_cases h0 : m - j = 0
 ·have ej : j = m := by omega
  have hc : (Builtin.clear_ #[t] ty #[.slice (subA A cap j sz) (m - j) (cap - j)]).run P w = .ok (.tuple #[]) w := by
   rw [h0]
   cases hs : subA A cap j sz <;> simp [Builtin.clear_, run_underlying ht.1]
  simp only [execOp, resolve, invoke, builtin, hA.eval hx, Sem.run_bind, Sem.run_pure, Result.andThen_ok, List.map_toArray, List.map_cons, List.map_nil, hc, Oper.upon]
  have e1 : xs.take (j * sz) ++ zrep (m - j) zs = xs := by
   rw [h0, ej, ← hk.1, List.take_length]
   simp [zrep]
  rw [e1] at hK
  exact hK _ _ hA hS
 ·have hp := (hk.2.2.2 (by omega)).1
  have hsub : subA A cap j sz = some ⟨ab A, ao A + j * sz, none⟩ := subA_plain hp (by omega)
  have hcells : (Builtin.zeroCells z.cells (m - j)).toList = zrep (m - j) zs := by
   rw [hz2]
   unfold Builtin.zeroCells zrep
   rw [Array.toList_map, Array.toList_range]
   simp
  have hle : j * sz + (m - j) * sz = m * sz := by rw [← Nat.add_mul]; congr 1; omega
  obtain ⟨w', hr, hS'⟩ := run_store_row (P := P) hS (o := j * sz) (cs := zrep (m - j) zs) (by rw [hzr]; omega) (by
   intro u hu
   unfold zrep at hu
   obtain ⟨i, _, rfl⟩ := List.mem_map.1 hu
   rw [List.all_eq_true] at h1
   have hi : i % zs.length < zs.length := Nat.mod_lt _ (by omega)
   rw [getElem!_pos zs (i % zs.length) hi]
   exact h1 _ (List.getElem_mem hi)) (by rw [hzr]; exact Nat.mul_pos (by omega) hpos)
  have hc : (Builtin.clear_ #[t] ty #[.slice (subA A cap j sz) (m - j) (cap - j)]).run P w = .ok (.tuple #[]) w' := by
   obtain ⟨q, hq⟩ : ∃ q, m - j = q + 1 := ⟨m - j - 1, by omega⟩
   rw [hq] at hr hcells ⊢
   rw [hsub]
   simp [Builtin.clear_, run_underlying ht.1, hz1, hcells, hr]
  simp only [execOp, resolve, invoke, builtin, hA.eval hx, Sem.run_bind, Sem.run_pure, Result.andThen_ok, List.map_toArray, List.map_cons, List.map_nil, hc, Oper.upon]
  have e1 : xs.drop (j * sz + (zrep (m - j) zs).length) = [] := List.drop_of_length_le (by rw [hzr, hk.1, hle]; exact Nat.le_refl _)
  rw [e1, List.append_nil] at hS'
  exact hK _ _ hA hS'
/-- A cell of a row, however its place is spelt. -/
theorem rd_ldr2 {b o : Nat} (c : Nat) (ht : cellTy P t) (hm : Ent.row e sz A m cap xs ∈ E) (hx : opv L x = some (.pointer (some ⟨b, o, none⟩))) (hb : b = ab A) (ho : o = ao A + c) (hv : xs[c]? = some v) : Rd P (St w0 M E) n L ⟨dst, .load t x, ty, pos, af, g⟩ v := by
 subst hb ho
 exact rd_ldr ht hm hx hv
theorem rd_ldsl2 {b o : Nat} (c : Nat) (ht : cellTy P t) (hsl : Sl w0 M A m sz cs) (hx : opv L x = some (.pointer (some ⟨b, o, none⟩))) (hb : b = ab A) (ho : o = ao A + c) (hv : cs[c]? = some v) : Rd P (St w0 M E) n L ⟨dst, .load t x, ty, pos, af, g⟩ v := by
 subst hb ho
 exact rd_ldsl ht hsl hx hv
end
end Go.Proofs.YtfccnoccfhgcbaaGreatDoor
namespace Go.Proofs.YtfccnoccfhgcbaaGreatDoor
open Go Go.RowKit
theorem K91 : callTy Tryz.prog 91 := by unfold callTy; kernel_rfl
theorem K93 : callTy Tryz.prog 93 := by unfold callTy; kernel_rfl
theorem c93 (w : World) (A : Option Addr) (n cap : Nat) (cs : List Value) (hsl : Sl w none' A n 1 cs) (hcs : cs.all Value.oneCell' = true) (hb : n ≤ 1000000000) (hS : St w (fpOf []) [] w) : Calls Tryz.prog 93 [.slice A n cap].toArray w (RtE fun v w' => ∃ x : Option Addr × Nat, v = (fun x => .slice x.1 n x.2) x ∧ (fun _ => True) x ∧ St w (fpOf []) ((fun x => [.row 5 1 x.1 n x.2 cs]) x) w') := by
 refine enter Tryz.func93 rfl Tryz.ntmps93 rfl hS ?_
 refine c_seq ?_
 refine c_reg ?_
 refine sq (rd_assign rfl) rfl ?_
 refine s_end ?_
 refine f_then ?_
 refine c_seq ?_
 refine c_seq ?_
 refine c_reg ?_
 refine sq (rd_move rfl) rfl ?_
 refine sq (rd_isnil S37.1 rfl rfl) rfl ?_
 refine s_end ?_
 refine f_then ?_
 refine c_cond rfl (fun h4 => ?_) (fun h4 => ?_)
 ·obtain ⟨rfl, rfl, rfl⟩ := hsl.isnil h4
  refine c_seq ?_
  refine c_reg ?_
  refine sq (rd_assign rfl) rfl ?_
  refine s_end ?_
  refine f_then ?_
  refine c_ret ?_
  refine f_then_r ?_
  refine f_ret rfl (.tmp rfl .nil) ?_
  exact fun w' hS => ⟨_, rfl, (none, 0), rfl, trivial, (hS.sub (E' := []) (List.nil_sublist _)).nilrow 5 1⟩
 ·refine c_skip ?_
  refine f_then ?_
  refine c_seq ?_
  refine c_reg ?_
  refine sx (ef_slice Rt37 rfl (by repeat constructor) rfl rfl) rfl ?_
  rintro b5 hb5
  refine s_asRow 1 0 rfl rfl ?_
  refine sq (rd_move rfl) rfl ?_
  refine sx (ef_append Rt37 rfl rfl rfl rfl (src_sl hsl (Nat.le_refl n)) (cells_take hcs) (by omega) (by unfold maxLen; omega) rfl) rfl ?_
  rintro ⟨A1, c1⟩ hA1
  refine sq (rd_assign rfl) rfl ?_
  refine s_end ?_
  refine f_then ?_
  refine c_ret ?_
  refine f_ret rfl (.tmp rfl .nil) ?_
  refine fun w' hS => ⟨_, rfl, (A1, c1), by simp only [resVal_one, Nat.zero_add], trivial, ?_⟩
  rw [Nat.zero_add, zrep_zero, List.nil_append, List.take_of_length_le (by rw [hsl.len]; exact Nat.le_refl _)] at hS
  exact St.sub (E' := [_]) hS (by repeat (first | exact .refl _ | apply List.Sublist.cons_cons | apply List.Sublist.cons))

theorem c85 (w : World) (A : Option Addr) (n cap : Nat) (cs : List Value) (hsl : Sl w none' A n 2 cs) (hcs : cs.all Value.oneCell' = true) (hb : n ≤ 100000000) (hS : St w (fpOf []) [] w) : Calls Tryz.prog 85 [.slice A n cap].toArray w (RtE fun v w' => ∃ x : Option Addr × Nat, v = (fun x => .slice x.1 n x.2) x ∧ (fun _ => True) x ∧ St w (fpOf []) ((fun x => [.row 84 2 x.1 n x.2 cs]) x) w') := by
 refine enter Tryz.func85 rfl Tryz.ntmps85 rfl hS ?_
 refine c_seq ?_
 refine c_reg ?_
 refine sq (rd_assign rfl) rfl ?_
 refine s_end ?_
 refine f_then ?_
 refine c_seq ?_
 refine c_seq ?_
 refine c_reg ?_
 refine sq (rd_move rfl) rfl ?_
 refine sq (rd_isnil S80.1 rfl rfl) rfl ?_
 refine s_end ?_
 refine f_then ?_
 refine c_cond rfl (fun h4 => ?_) (fun h4 => ?_)
 ·obtain ⟨rfl, rfl, rfl⟩ := hsl.isnil h4
  refine c_seq ?_
  refine c_reg ?_
  refine sq (rd_assign rfl) rfl ?_
  refine s_end ?_
  refine f_then ?_
  refine c_ret ?_
  refine f_then_r ?_
  refine f_ret rfl (.tmp rfl .nil) ?_
  exact fun w' hS => ⟨_, rfl, (none, 0), rfl, trivial, (hS.sub (E' := []) (List.nil_sublist _)).nilrow 84 2⟩
 ·refine c_skip ?_
  refine f_then ?_
  refine c_seq ?_
  refine c_reg ?_
  refine sx (ef_slice Rt80 rfl (by repeat constructor) rfl rfl) rfl ?_
  rintro b5 hb5
  refine s_asRow 2 0 rfl rfl ?_
  refine sq (rd_move rfl) rfl ?_
  refine sx (ef_append Rt80 rfl rfl rfl rfl (src_sl hsl (Nat.le_refl n)) (cells_take hcs) (by omega) (by unfold maxLen; omega) rfl) rfl ?_
  rintro ⟨A1, c1⟩ hA1
  refine sq (rd_assign rfl) rfl ?_
  refine s_end ?_
  refine f_then ?_
  refine c_ret ?_
  refine f_ret rfl (.tmp rfl .nil) ?_
  refine fun w' hS => ⟨_, rfl, (A1, c1), by simp only [resVal_one, Nat.zero_add], trivial, ?_⟩
  rw [Nat.zero_add, zrep_zero, List.nil_append, List.take_of_length_le (by rw [hsl.len]; exact Nat.le_refl _)] at hS
  exact St.sub (E' := [_]) hS (by repeat (first | exact .refl _ | apply List.Sublist.cons_cons | apply List.Sublist.cons))

theorem c100 (w : World) (A : Option Addr) (n cap : Nat) (cs : List Value) (hsl : Sl w none' A n 1 cs) (hcs : cs.all Value.oneCell' = true) (hb : n ≤ 1000000000) (hS : St w (fpOf []) [] w) : Calls Tryz.prog 100 [.slice A n cap].toArray w (RtE fun v w' => ∃ x : Option Addr × Nat, v = (fun x => .slice x.1 n x.2) x ∧ (fun _ => True) x ∧ St w (fpOf []) ((fun x => [.row 2 1 x.1 n x.2 cs]) x) w') := by
 refine enter Tryz.func100 rfl Tryz.ntmps100 rfl hS ?_
 refine c_seq ?_
 refine c_reg ?_
 refine sq (rd_assign rfl) rfl ?_
 refine s_end ?_
 refine f_then ?_
 refine c_seq ?_
 refine c_seq ?_
 refine c_reg ?_
 refine sq (rd_move rfl) rfl ?_
 refine sq (rd_isnil S82.1 rfl rfl) rfl ?_
 refine s_end ?_
 refine f_then ?_
 refine c_cond rfl (fun h4 => ?_) (fun h4 => ?_)
 ·obtain ⟨rfl, rfl, rfl⟩ := hsl.isnil h4
  refine c_seq ?_
  refine c_reg ?_
  refine sq (rd_assign rfl) rfl ?_
  refine s_end ?_
  refine f_then ?_
  refine c_ret ?_
  refine f_then_r ?_
  refine f_ret rfl (.tmp rfl .nil) ?_
  exact fun w' hS => ⟨_, rfl, (none, 0), rfl, trivial, (hS.sub (E' := []) (List.nil_sublist _)).nilrow 2 1⟩
 ·refine c_skip ?_
  refine f_then ?_
  refine c_seq ?_
  refine c_reg ?_
  refine sx (ef_slice Rt82 rfl (by repeat constructor) rfl rfl) rfl ?_
  rintro b5 hb5
  refine s_asRow 1 0 rfl rfl ?_
  refine sq (rd_move rfl) rfl ?_
  refine sx (ef_append Rt82 rfl rfl rfl rfl (src_sl hsl (Nat.le_refl n)) (cells_take hcs) (by omega) (by unfold maxLen; omega) rfl) rfl ?_
  rintro ⟨A1, c1⟩ hA1
  refine sq (rd_assign rfl) rfl ?_
  refine s_end ?_
  refine f_then ?_
  refine c_ret ?_
  refine f_ret rfl (.tmp rfl .nil) ?_
  refine fun w' hS => ⟨_, rfl, (A1, c1), by simp only [resVal_one, Nat.zero_add], trivial, ?_⟩
  rw [Nat.zero_add, zrep_zero, List.nil_append, List.take_of_length_le (by rw [hsl.len]; exact Nat.le_refl _)] at hS
  exact St.sub (E' := [_]) hS (by repeat (first | exact .refl _ | apply List.Sublist.cons_cons | apply List.Sublist.cons))

/-- The bits of a number with a sign. -/
def sbits (x : Int) (k : Nat) : List Bool := nbits (IntKind.u64.wrap x).toNat k
theorem u64_nat (x : Int) : ((IntKind.u64.wrap x).toNat : Int) = IntKind.u64.wrap x := by
 have := wrap_u64_range x
 omega

theorem c92 (w : World) (bw : Nat) (A : Option Addr) (cap : Nat) (bs : List Bool) (num : Int) (N : Nat) (hN : N ≤ 64) (hbs : bs.length ≤ 100000000) (hS : St w (fpOf [.blk bw [.slice A (pack bs).length cap, .int .i64 ((bs).length : Int)] 94, .row 5 1 A (pack bs).length cap (u8s (pack bs))]) [.blk bw [.slice A (pack bs).length cap, .int .i64 ((bs).length : Int)] 94, .row 5 1 A (pack bs).length cap (u8s (pack bs))] w) : Calls Tryz.prog 92 [.pointer (some ⟨bw, 0, none⟩), .int .i64 num, .int .i64 (N : Int)].toArray w (RtE fun v w' => ∃ x : Option Addr × Nat, v = (fun _ => .tuple #[]) x ∧ (fun _ => True) x ∧ St w (fpOf [.blk bw [.slice A (pack bs).length cap, .int .i64 ((bs).length : Int)] 94, .row 5 1 A (pack bs).length cap (u8s (pack bs))]) ((fun x => [.blk bw [.slice x.1 (pack (bs ++ sbits num N)).length x.2, .int .i64 (((bs ++ sbits num N)).length : Int)] 94, .row 5 1 x.1 (pack (bs ++ sbits num N)).length x.2 (u8s (pack (bs ++ sbits num N)))]) x) w') := by
 refine enter Tryz.func92 rfl Tryz.ntmps92 rfl hS ?_
 have hu := wrap_u64_range num
 refine c_reg ?_
 refine sq (rd_move rfl) rfl ?_
 refine sq (rd_move rfl) rfl ?_
 refine sq (rd_conv ⟨_, I2⟩ I118 rfl (u64_nat num).symm) rfl ?_
 refine sq (rd_move rfl) rfl ?_
 refine sx (ef_call rfl rfl K91 (fun _ e => by cases e; rfl) [.blk bw _ _, .row 5 _ _ _ _ _] _ (.refl _) _ _ _ (fun w hS => by exact c91 w bw A cap bs (IntKind.u64.wrap num).toNat N hN (by omega) hbs hS.own)) rfl ?_
 rintro ⟨A1, c1⟩ _
 refine s_end ?_
 refine f_end rfl .nil ?_
 exact fun w' hS => ⟨_, rfl, (A1, c1), rfl, trivial, St.sub (E' := [_, _]) hS (by repeat (first | exact .refl _ | apply List.Sublist.cons_cons | apply List.Sublist.cons))⟩

/-- A row of the call's own, as1 a callee reads it. -/
theorem Sl.ofRow' {w0 w : World} {M : Nat → Prop} {E : List Ent} {e sz m cap : Nat} {A : Option Addr} {xs : List Value} (hS : St w0 M E w) (hm : Ent.row e sz A m cap xs ∈ E) : Sl w none' A m sz xs := Sl.ofRow hS hm none' (fun _ _ h => none'_no _ h)

theorem c50 (w : World) (bw : Nat) (A : Option Addr) (cap : Nat) (bs : List Bool) (hbs : bs.length ≤ 100000000) (hS : St w (fpOf [.blk bw [.slice A (pack bs).length cap, .int .i64 ((bs).length : Int)] 94, .row 5 1 A (pack bs).length cap (u8s (pack bs))]) [.blk bw [.slice A (pack bs).length cap, .int .i64 ((bs).length : Int)] 94, .row 5 1 A (pack bs).length cap (u8s (pack bs))] w) : Calls Tryz.prog 50 [.pointer (some ⟨bw, 0, none⟩)].toArray w (RtE fun v w' => ∃ x : Option Addr × Nat, v = (fun x => .slice x.1 (pack bs).length x.2) x ∧ (fun _ => True) x ∧ St w (fpOf [.blk bw [.slice A (pack bs).length cap, .int .i64 ((bs).length : Int)] 94, .row 5 1 A (pack bs).length cap (u8s (pack bs))]) ((fun x => [.row 5 1 x.1 (pack bs).length x.2 (u8s (pack bs)), .blk bw [.slice A (pack bs).length cap, .int .i64 ((bs).length : Int)] 94, .row 5 1 A (pack bs).length cap (u8s (pack bs))]) x) w') := by
 refine enter Tryz.func50 rfl Tryz.ntmps50 rfl hS ?_
 refine c_seq ?_
 refine c_reg ?_
 refine sq (rd_assign rfl) rfl ?_
 refine s_end ?_
 refine f_then ?_
 refine c_seq ?_
 refine c_reg ?_
 refine sq (rd_move rfl) rfl ?_
 refine sq (rd_nil rfl) rfl ?_
 refine sq (rd_field F94_0 rfl) rfl ?_
 refine sq (rd_ldb C37 rfl (by repeat constructor) rfl) rfl ?_
 refine sx (ef_call rfl rfl K93 (fun _ e => by cases e; rfl) [] _ (.refl _) _ _ _ (fun w hS => by exact c93 w A (pack bs).length cap (u8s (pack bs)) (Sl.ofRow' hS (by repeat constructor)) (u8s_cells _) (by rw [pack_len]; omega) hS.own)) rfl ?_
 rintro ⟨A1, c1⟩ _
 refine sq (rd_assign rfl) rfl ?_
 refine s_end ?_
 refine f_then ?_
 refine c_ret ?_
 refine f_ret rfl (.tmp rfl .nil) ?_
 exact fun w' hS => ⟨_, rfl, (A1, c1), rfl, trivial, St.sub (E' := [_, _, _]) hS (by repeat (first | exact .refl _ | apply List.Sublist.cons_cons | apply List.Sublist.cons))⟩

end Go.Proofs.YtfccnoccfhgcbaaGreatDoor
namespace Go.Proofs.YtfccnoccfhgcbaaGreatDoor
open Go Go.RowKit

structure FD where
 fp : Nat → Prop
 own : Bool
 a : Option Addr
 c : Nat
/-- What is known of fields of the call's own; of others nothing. -/
def fldE (x : FD) (fs : List Int) : Ent := .abs x.fp fun w => x.own = true → Sl w (fun b => ¬ x.fp b) x.a fs.length 1 (ints fs)
theorem fldE_loc (x : FD) (fs : List Int) : (fldE x fs).loc := fun _ _ hw h ho => (h ho).agree (by decide) hw
section
variable {w0 w : World} {M : Nat → Prop} {E : List Ent} {x : FD} {fs : List Int}
/-- Fields that were there. -/
theorem St.fldOld (h : St w0 M E w) (a : Option Addr) (c : Nat) (fs : List Int) : St w0 M (fldE ⟨fun _ => False, false, a, c⟩ fs :: E) w :=
 h.add (fldE_loc _ _) (fun h => by cases h) (fun _ hb => hb.elim) (fun _ _ _ hb => hb.elim)
/-- Fields in a block of the call's own. -/
theorem St.fldNew {b te : Nat} {fs : List Int} (h : St w0 M (.blk b (ints fs) te :: E) w) (hl : fs.length ≤ 9223372036854775807) (c : Nat) : St w0 M (fldE ⟨fun k => k = b, true, some ⟨b, 0, none⟩, c⟩ fs :: E) w := by
 refine h.turn (fldE_loc _ _) (fun k _ => ⟨by simp [ints_len], hl, fun _ => rfl, fun j hj => ?_, fun _ hn => hn rfl⟩) (fun k hk => hk)
 show w.cell? ⟨b, 0 + j, none⟩ = _
 have hb : w.heap[b]? = some (.cells (ints fs).toArray te (0, 0)) := k
 rw [Nat.zero_add, cell_of_row w b j _ te (0, 0) hb]
 simp
/-- Fields in a row of the call's own. -/
theorem St.fldRow {e n cap : Nat} {A : Option Addr} {fs : List Int} (h : St w0 M (.row e 1 A n cap (ints fs) :: E) w) (hl : fs.length = n) (c : Nat) : St w0 M (fldE ⟨fun k => A.map (·.block) = some k, true, A, c⟩ fs :: E) w := by
 subst hl
 refine (h.rowSl (by decide)).turn (fldE_loc _ _) (fun k _ => k) (fun k hk => hk)
theorem Fld.sl (h : x.own = false → Sl w0 M x.a fs.length 1 (ints fs)) (hS : St w0 M E w) (hm : fldE x fs ∈ E) {Ec Er : List Ent} (hE : E = Ec ++ Er) (hr : fldE x fs ∈ Er) : Sl w (fpOf Ec) x.a fs.length 1 (ints fs) := by
 subst hE
 cases ho : x.own with
 | false => exact (h ho).hand hS (by decide)
 | true =>
  have h1 : Sl w (fun b => ¬ x.fp b) x.a fs.length 1 (ints fs) := (hS.ents _ hm).2.1 ho
  have hp := List.pairwise_append.1 hS.pair
  exact h1.mono fun b hb ⟨e, he, hfp⟩ => hp.2.2 e he _ hr b hfp (Classical.not_not.1 hb)
/-- For a callee that takes nothing. -/
theorem Fld.hand (h : x.own = false → Sl w0 M x.a fs.length 1 (ints fs)) (hS : St w0 M E w) (hm : fldE x fs ∈ E) : Sl w none' x.a fs.length 1 (ints fs) := Fld.sl h hS hm (Ec := []) (Er := E) rfl hm
theorem Fld.plain (h : x.own = false → Sl w0 M x.a fs.length 1 (ints fs)) (hS : St w0 M E w) (hm : fldE x fs ∈ E) : 0 < fs.length → plainA x.a := (Fld.hand h hS hm).plain
/-- A field is read. -/
theorem rd_fld {P : Program} {n ty t k : Nat} {L : Slots} {dst : Option Nat} {pos : String} {af : Array Edge} {g : Option (Nat × Bool)} {y : Operand} {v : Int} (ht : cellTy P t) (h : x.own = false → Sl w0 M x.a fs.length 1 (ints fs)) (hm : fldE x fs ∈ E)
  (hx : opv L y = some (.pointer (some ⟨ab x.a, ao x.a + k, none⟩))) (hv : fs[k]? = some v) : Rd P (St w0 M E) n L ⟨dst, .load t y, ty, pos, af, g⟩ (.int .i64 v) :=
 rd_load ht hx fun w hS => by
  have := (Fld.hand h hS hm).get (St.start w none') (ints_get hv)
  exact this
end
/-- The fields of the first row of an ID; as1 many noughts, if there is none. -/
def hasR (rs : List RW) (id : Int) : Bool := (rs.find? fun r => decide (r.1 = id)).isSome
def fndR (nf : Nat) (rs : List RW) (id : Int) : List Int := match rs.find? fun r => decide (r.1 = id) with
 | some r => r.2
 | none => List.replicate nf 0
theorem fndR_len {nf : Nat} {rs : List RW} (h : ∀ r ∈ rs, r.2.length = nf) (id : Int) : (fndR nf rs id).length = nf := by
 unfold fndR
 split
 ·rename_i r hr
  exact h r (List.mem_of_find?_eq_some hr)
 ·simp
theorem ints_rep (k : Nat) : ints (List.replicate k 0) = List.replicate k (.int .i64 0) := by simp [ints]
theorem find_ix {rs : List RW} {id : Int} {i : Nat} (h : rs.findIdx? (fun r => decide (r.1 = id)) = some i) : ∃ r, rs[i]? = some r ∧ r.1 = id ∧ rs.find? (fun r => decide (r.1 = id)) = some r := by
 obtain ⟨hi, hp, hno⟩ := List.findIdx?_eq_some_iff_getElem.1 h
 refine ⟨rs[i], by simp, by simpa using hp, ?_⟩
 rw [List.find?_eq_some_iff_getElem]
 exact ⟨hp, i, hi, rfl, fun j hj => by simpa using hno j hj⟩
theorem find_none {rs : List RW} {id : Int} (h : rs.findIdx? (fun r => decide (r.1 = id)) = none) : rs.find? (fun r => decide (r.1 = id)) = none := by
 rw [List.findIdx?_eq_none_iff] at h
 rw [List.find?_eq_none]
 intro r hr
 have := h r hr
 simp_all
end Go.Proofs.YtfccnoccfhgcbaaGreatDoor
namespace Go.Proofs.YtfccnoccfhgcbaaGreatDoor
open Go Go.RowKit

abbrev PRw := (Option Addr × Nat) × RW
def pc (p : PRw) : List Value := [.int .i64 p.2.1, .slice p.1.1 p.2.2.length p.1.2]
theorem pc_len (p : PRw) : (pc p).length = 2 := rfl
theorem pc_cells (p : PRw) : (pc p).all Value.oneCell' = true := rfl
theorem rowCells_zip : ∀ (hd : List (Option Addr × Nat)) (rs : List RW), rowCells hd rs = flat pc (hd.zip rs)
 | [], _ => by simp [rowCells, flat]
 | _ :: _, [] => by simp [rowCells, flat]
 | h :: hd, r :: rs => by
  have := rowCells_zip hd rs
  simp only [rowCells, List.zip_cons_cons, flat, List.map_cons, List.flatten_cons] at *
  rw [this]
  rfl
theorem zip_parts (ps : List PRw) : (ps.map (·.1)).zip (ps.map (·.2)) = ps := by
 induction ps with
 | nil => rfl
 | cons p ps ih => simp only [List.map_cons, List.zip_cons_cons, ih]
theorem zip_snd {hd : List (Option Addr × Nat)} {rs : List RW} (h : hd.length = rs.length) : (hd.zip rs).map (·.2) = rs := by
 rw [List.map_snd_zip]
 omega
theorem pair_of {ps : List PRw} {i : Nat} {h : Option Addr × Nat} {r : RW} (h1 : (ps.map (·.1))[i]? = some h) (h2 : (ps.map (·.2))[i]? = some r) : ps[i]? = some (h, r) := by
 rw [List.getElem?_map] at h1 h2
 cases hp : ps[i]? with
 | none => rw [hp] at h1; cases h1
 | some p =>
  rw [hp] at h1 h2
  simp only [Option.map_some, Option.some.injEq] at h1 h2
  rw [← h1, ← h2]
theorem zip_ix {hd : List (Option Addr × Nat)} {rs : List RW} (h : hd.length = rs.length) (id : Int) : (hd.zip rs).findIdx? (fun p : PRw => decide (p.2.1 = id)) = rs.findIdx? (fun r : RW => decide (r.1 = id)) := by
 conv => rhs; rw [← zip_snd h]
 rw [List.findIdx?_map]
 rfl
/-- Each row's fields: those of a row that was there, or of the call's own. -/
def poolE (qs : List PRw) (fp : Nat → Prop) (ps : List PRw) : Ent := .abs fp fun w => ∀ p ∈ ps, p ∈ qs ∨ (p.2.2.length ≤ p.1.2 ∧ Sl w (fun b => ¬ fp b) p.1.1 p.2.2.length 1 (ints p.2.2))
theorem poolE_loc (qs : List PRw) (fp : Nat → Prop) (ps : List PRw) : (poolE qs fp ps).loc := fun _ _ hw h p hp => (h p hp).imp id fun k => ⟨k.1, k.2.agree (by decide) hw⟩
section
variable {w0 w : World} {M : Nat → Prop} {E : List Ent} {qs ps : List PRw} {fp : Nat → Prop}
theorem St.poolStart (h : St w0 M E w) (qs : List PRw) : St w0 M (poolE qs (fun _ => False) qs :: E) w :=
 h.add (poolE_loc _ _ _) (fun _ hp => .inl hp) (fun _ hb => hb.elim) (fun _ _ _ hb => hb.elim)
theorem St.poolSub {ps' : List PRw} (h : St w0 M (poolE qs fp ps :: E) w) (hs : ∀ p ∈ ps', p ∈ ps) : St w0 M (poolE qs fp ps' :: E) w :=
 h.turn (poolE_loc _ _ _) (fun k p hp => k p (hs p hp)) (fun _ hb => hb)
/-- A row more, whose fields lie in a row of the call's own. -/
theorem St.poolAdd {e n c : Nat} {A : Option Addr} {fs : List Int} {id : Int} {ps' : List PRw} (h : St w0 M (.row e 1 A n c (ints fs) :: poolE qs fp ps :: E) w) (hl : fs.length = n) (hs : ∀ p ∈ ps', p ∈ ps ∨ p = ((A, c), (id, fs))) : St w0 M (poolE qs (fun k => fp k ∨ A.map (·.block) = some k) ps' :: E) w := by
 have hk := row_know (List.mem_cons_self ..) w h
 refine (h.rowSl (by decide)).merge (poolE_loc _ _ _) (fun k1 k2 p hp => ?_) (fun k hk => hk.symm)
 rcases hs p hp with hp | rfl
 ·exact (k2 p hp).imp (fun h => h) fun k => ⟨k.1, k.2.mono fun b hb hn => hn (.inl (Classical.not_not.1 hb))⟩
 ·subst hl
  exact .inr ⟨hk.2.1, k1.mono fun b hb hn => hn (.inr (Classical.not_not.1 hb))⟩
/-- Rows of the call's own, as1 a callee reads them. -/
theorem RowsAt.ofPool {A0 A : Option Addr} {n0 e c : Nat} {hdb : List (Option Addr × Nat)} {rb : List RW} (hb : RowsAt w none' A0 n0 hdb rb) (hS : St w0 M E w) (hm1 : Ent.row e 2 A ps.length c (flat pc ps) ∈ E) (hm2 : poolE (hdb.zip rb) fp ps ∈ E) : RowsAt w none' A ps.length (ps.map (·.1)) (ps.map (·.2)) := by
 refine ⟨?_, by simp, fun i h r h1 h2 => ?_⟩
 ·rw [rowCells_zip, zip_parts]
  exact Sl.ofRow' hS hm1
 ·have hp := List.mem_of_getElem? (pair_of h1 h2)
  have k : ∀ p ∈ ps, p ∈ hdb.zip rb ∨ (p.2.2.length ≤ p.1.2 ∧ Sl w (fun b => ¬ fp b) p.1.1 p.2.2.length 1 (ints p.2.2)) := (hS.ents _ hm2).2.1
  rcases k _ hp with k | k
  ·obtain ⟨j, hj⟩ := List.getElem?_of_mem k
   obtain ⟨j1, j2⟩ := List.getElem?_zip_eq_some.1 hj
   exact hb.ins.2 j h r j1 j2
  ·exact ⟨k.2.mono fun b _ h => none'_no _ h, k.1⟩
end
/-- Where an ID belongs, among rows whose IDs rise. -/
def lbP (ps : List PRw) (id : Int) : Nat := ps.findIdx fun p => !decide (p.2.1 < id)
def thereP (ps : List PRw) (id : Int) : Bool := match ps[lbP ps id]? with
 | some p => decide (p.2.1 = id)
 | none => false
def putP (ps : List PRw) (p : PRw) : List PRw := if thereP ps p.2.1 = true then ps.set (lbP ps p.2.1) p else ps.take (lbP ps p.2.1) ++ [p] ++ ps.drop (lbP ps p.2.1)
theorem lbP_le (ps : List PRw) (id : Int) : lbP ps id ≤ ps.length := List.findIdx_le_length
theorem lbP_of {ps : List PRw} {id : Int} {i : Nat} (hi : i ≤ ps.length) (h1 : ∀ (j : Nat) (p : PRw), j < i → ps[j]? = some p → p.2.1 < id) (h2 : ∀ p, ps[i]? = some p → ¬ p.2.1 < id) : lbP ps id = i := by
 unfold lbP
 rcases Nat.lt_or_ge i ps.length with hlt | hge
 ·rw [List.findIdx_eq hlt]
  refine ⟨by simpa using h2 ps[i] (by simp), fun j hj => ?_⟩
  have := h1 j (ps[j]'(by omega)) hj (by simp)
  simpa using this
 ·have : i = ps.length := by omega
  subst this
  rw [List.findIdx_eq_length]
  intro p hp
  obtain ⟨j, hj⟩ := List.getElem?_of_mem hp
  have := h1 j p (List.getElem?_eq_some_iff.1 hj).1 hj
  simpa using this
theorem putP_mem {ps : List PRw} {p q : PRw} (h : q ∈ putP ps p) : q ∈ ps ∨ q = p := by
 unfold putP at h
 split at h
 ·rcases List.mem_or_eq_of_mem_set h with h | h
  ·exact .inl h
  ·exact .inr h
 ·simp only [List.append_assoc, List.mem_append, List.mem_cons, List.not_mem_nil, or_false] at h
  rcases h with h | h | h
  ·exact .inl (List.mem_of_mem_take h)
  ·exact .inr h
  ·exact .inl (List.mem_of_mem_drop h)
end Go.Proofs.YtfccnoccfhgcbaaGreatDoor
namespace Go.Proofs.YtfccnoccfhgcbaaGreatDoor
open Go Go.RowKit
theorem K138 : callTy Tryz.prog 138 := by unfold callTy; kernel_rfl
theorem K137 : callTy Tryz.prog 137 := by unfold callTy; kernel_rfl
theorem F78_0 : fieldTy Tryz.prog 78 0 0 := fieldTy.mk' Tryz.underlying78 rfl (by kernel_rfl) rfl
theorem c90 (w : World) (A B : Option Addr) (n m c d : Nat) (fs gs : List Int) (h1 : Sl w none' A n 1 (ints fs)) (h2 : Sl w none' B m 1 (ints gs)) : Pw Tryz.prog w 90 [.slice A n c, .slice B m d] (.bool (decide (fs = gs))) := by
 refine Pw.enter Tryz.func90 rfl Tryz.ntmps90 rfl ?_
 refine c_seq ?_
 refine c_reg ?_
 refine sq (rd_assign rfl) rfl ?_
 refine s_end ?_
 refine f_then ?_
 refine c_seq ?_
 refine c_seq ?_
 have l1 : fs.length = n := by have := h1.len; rw [ints_len] at this; omega
 have l2 : gs.length = m := by have := h2.len; rw [ints_len] at this; omega
 have x1 := h1.max
 have x2 := h2.max
 refine c_reg ?_
 refine sq (rd_move rfl) rfl ?_
 refine sq (rd_len S82 rfl rfl) rfl ?_
 refine sq (rd_move rfl) rfl ?_
 refine sq (rd_len S82 rfl rfl) rfl ?_
 refine sq (rd_neq rfl rfl) rfl ?_
 refine s_end ?_
 refine f_then ?_
 refine c_if rfl (fun h10 => ?_) (fun h10 => ?_)
 ·refine c_seq ?_
  refine c_reg ?_
  refine sq (rd_assign rfl) rfl ?_
  refine s_end ?_
  refine f_then ?_
  refine c_ret ?_
  refine f_then_r ?_
  refine f_ret rfl (.tmp rfl .nil) ?_
  refine pu_end ?_
  simp only [resVal_one]
  congr 1
  symm
  exact decide_eq_false (fun h => by subst h; omega)
 ·have hnm : n = m := by omega
  refine c_skip ?_
  refine f_then ?_
  refine c_seq ?_
  refine c_seq ?_
  refine c_reg ?_
  refine sq (rd_move rfl) rfl ?_
  refine sq (rd_len S82 rfl rfl) rfl ?_
  refine sq (rd_move rfl) rfl ?_
  refine s_end ?_
  refine f_then ?_
  refine c_block ?_
  refine c_keep (L' := [(0, _), (1, _), (4, _), (12, _), (13, _)]) (by repeat constructor) ?_
  refine c_for (α := Nat) (fun k => k ≤ n ∧ fs.take k = gs.take k) (fun k => []) [] (fun k => [(13, .int .i64 (k : Int))]) [(0, _), (1, _), (4, _), (12, _)] (fun k => n - k) (0) (⟨Nat.zero_le _, rfl⟩) (by repeat constructor) (fun _ h => h) ?_
  rintro k ⟨hk, hq⟩
  refine c_seq ?_
  refine c_reg ?_
  refine sq (rd_lss rfl rfl) rfl ?_
  refine s_end ?_
  refine f_then ?_
  refine c_seq ?_
  refine c_if rfl (fun h14 => ?_) (fun h14 => ?_)
  ·have hkn : k < n := by omega
   obtain ⟨p, hp⟩ : ∃ p, fs[k]? = some p := ⟨fs[k]'(by omega), by simp⟩
   obtain ⟨q, hq2⟩ : ∃ q, gs[k]? = some q := ⟨gs[k]'(by omega), by simp⟩
   refine c_skip ?_
   refine f_then ?_
   refine c_seq ?_
   refine c_block ?_
   refine c_seq ?_
   refine c_reg ?_
   refine sq (rd_move rfl) rfl ?_
   refine sq (rd_assign rfl) rfl ?_
   refine s_end ?_
   refine f_then ?_
   refine c_seq ?_
   refine c_regd [] (.q 0 (.q 1 (.q 2 (.q 3 (.q 4 (.q 5 (.q 6 (.q 7 (.q 8 .done))))))))) (by kernel_rfl) (by kernel_rfl) (by kernel_rfl) (by kernel_rfl) (fun _ h => h.sb) ?_
   refine dq rfl (rd_move rfl) rfl ?_
   refine dq rfl (rd_move rfl) rfl ?_
   refine dq rfl (rd_index S82 rfl rfl h1.plain (by omega) (by omega)) rfl ?_
   refine dq rfl (rd_ldsl C2 h1 rfl (by simp only [Int.toNat_natCast, Nat.mul_one]; exact ints_get hp)) rfl ?_
   refine dq rfl (rd_move rfl) rfl ?_
   refine dq rfl (rd_move rfl) rfl ?_
   refine dq rfl (rd_index S82 rfl rfl h2.plain (by omega) (by omega)) rfl ?_
   refine dq rfl (rd_ldsl C2 h2 rfl (by simp only [Int.toNat_natCast, Nat.mul_one]; exact ints_get hq2)) rfl ?_
   refine dq rfl (rd_neq rfl rfl) rfl ?_
   refine d_end ?_
   refine f_then ?_
   refine c_if rfl (fun h24 => ?_) (fun h24 => ?_)
   ·refine c_seq ?_
    refine c_reg ?_
    refine sq (rd_assign rfl) rfl ?_
    refine s_end ?_
    refine f_then ?_
    refine c_ret ?_
    refine f_blk_r ?_
    refine f_then_r ?_
    refine f_then_r ?_
    refine f_blk_r ?_
    refine f_then_r ?_
    refine f_ret rfl (.tmp rfl .nil) ?_
    refine pu_end ?_
    simp only [resVal_one]
    congr 1
    symm
    exact decide_eq_false (fun h => by subst h; rw [hp] at hq2; injection hq2 with h9; exact h24 h9)
   ·refine c_skip ?_
    refine f_blk ?_
    refine f_then ?_
    refine c_reg ?_
    refine sq (rd_add rfl rfl (by first | exact wrap_i64 (by omega) | exact rfl)) rfl ?_
    refine sq (rd_move rfl) rfl ?_
    refine s_end ?_
    refine f_again (k + 1) (⟨by omega, take_step hq hp (by rw [hq2]; exact congrArg some (by omega))⟩) (by omega) (by repeat constructor) (fun _ h => h.sb)
  ·have hkn : k = n := by omega
   refine c_exit ?_
   refine f_then_x ?_
   refine f_then_x ?_
   refine f_blk_x ?_
   refine f_then ?_
   refine c_seq ?_
   refine c_reg ?_
   refine sq (rd_assign rfl) rfl ?_
   refine s_end ?_
   refine f_then ?_
   refine c_ret ?_
   refine f_ret rfl (.tmp rfl .nil) ?_
   refine pu_end ?_
   simp only [resVal_one]
   congr 1
   symm
   exact decide_eq_true (by rwa [List.take_of_length_le (by omega), List.take_of_length_le (by omega)] at hq)

theorem c138 (w : World) (b : Nat) (id rid : Int) (A : Option Addr) (m c : Nat) (hc : w.cell? ⟨b, 0, none⟩ = some (.int .i64 id)) : Pw Tryz.prog w 138 [.agg #[.int .i64 rid, .slice A m c], .pointer (some ⟨b, 0, none⟩)] (.bool (decide (rid = id))) := by
 refine Pw.enter Tryz.func138 rfl Tryz.ntmps138 rfl ?_
 refine c_seq ?_
 refine c_reg ?_
 refine sx (ef_box rfl rfl rfl) rfl ?_
 rintro b2 hb2
 refine sq (rd_assign rfl) rfl ?_
 refine s_end ?_
 refine f_then ?_
 refine c_seq ?_
 refine c_reg ?_
 refine sq (rd_field F84_0 rfl) rfl ?_
 refine sq (rd_ldb C3 rfl (by first | exact .head _) rfl) rfl ?_
 refine sq (rd_ldbase C3 rfl rfl hc (none'_no _)) rfl ?_
 refine sq (rd_eql rfl rfl) rfl ?_
 refine sq (rd_assign rfl) rfl ?_
 refine s_end ?_
 refine f_then ?_
 refine c_ret ?_
 refine f_ret rfl (.tmp rfl .nil) ?_
 exact pu_end rfl

theorem c137 (w : World) (A : Option Addr) (n cap b g : Nat) (id : Int) (ps : List PRw) (hg : callTy Tryz.prog g) (hgc : ∀ (w : World) (rid : Int) (A : Option Addr) (m c : Nat), w.cell? ⟨b, 0, none⟩ = some (.int .i64 id) → Pw Tryz.prog w g [.agg #[.int .i64 rid, .slice A m c], .pointer (some ⟨b, 0, none⟩)] (.bool (decide (rid = id)))) (hc : w.cell? ⟨b, 0, none⟩ = some (.int .i64 id)) (hsl : Sl w none' A n 2 (flat pc ps)) : Pw Tryz.prog w 137 [.slice A n cap, .func (.func g) #[] #[.pointer (some ⟨b, 0, none⟩)]] (.int .i64 (ix (ps.findIdx? (fun p : PRw => decide (p.2.1 = id))))) := by
 refine Pw.enter Tryz.func137 rfl Tryz.ntmps137 rfl ?_
 refine c_seq ?_
 refine c_reg ?_
 refine sq (rd_assign rfl) rfl ?_
 refine s_end ?_
 refine f_then ?_
 refine c_seq ?_
 refine c_seq ?_
 have hlen : ps.length = n := by have := hsl.len; rw [flat_len pc_len] at this; omega
 have hmax := hsl.max
 refine c_reg ?_
 refine sq (rd_move rfl) rfl ?_
 refine sq (rd_len S80 rfl rfl) rfl ?_
 refine sq (rd_move rfl) rfl ?_
 refine s_end ?_
 refine f_then ?_
 refine c_block ?_
 refine c_keep (L' := [(0, _), (1, _), (4, _), (7, _), (8, _)]) (by repeat constructor) ?_
 refine c_for (α := Nat) (fun k => k ≤ n ∧ ∀ (j : Nat) (y : PRw), j < k → ps[j]? = some y → (fun p : PRw => decide (p.2.1 = id)) y = false) (fun k => []) [] (fun k => [(8, .int .i64 (k : Int))]) [(0, _), (1, _), (4, _), (7, _)] (fun k => n - k) (0) (⟨Nat.zero_le _, fun _ _ h => absurd h (Nat.not_lt_zero _)⟩) (by repeat constructor) (fun _ h => h) ?_
 rintro k ⟨hk, hno⟩
 refine c_seq ?_
 refine c_reg ?_
 refine sq (rd_lss rfl rfl) rfl ?_
 refine s_end ?_
 refine f_then ?_
 refine c_seq ?_
 refine c_if rfl (fun h9 => ?_) (fun h9 => ?_)
 ·have hkn : k < n := by omega
  obtain ⟨x, hx⟩ : ∃ x, ps[k]? = some x := ⟨ps[k]'(by omega), by simp⟩
  refine c_skip ?_
  refine f_then ?_
  refine c_seq ?_
  refine c_block ?_
  refine c_seq ?_
  refine c_reg ?_
  refine sq (rd_move rfl) rfl ?_
  refine sq (rd_assign rfl) rfl ?_
  refine s_end ?_
  refine f_then ?_
  refine c_seq ?_
  refine c_reg ?_
  refine sq (rd_move rfl) rfl ?_
  refine sq (rd_move rfl) rfl ?_
  refine sq (rd_move rfl) rfl ?_
  refine sq (rd_index S80 rfl rfl hsl.plain (by omega) (by omega)) rfl ?_
  refine sq (rd_ldssl A84 hsl rfl (flat_part pc_len ps _ x hx)) rfl ?_
  refine se (ef_pw rfl rfl hg rfl (fun w hS => by exact hgc w x.2.1 x.1.1 _ x.1.2 (hS.base_cell hc (none'_no _)))) rfl ?_
  refine s_end ?_
  refine f_then ?_
  refine c_cond rfl (fun h16 => ?_) (fun h16 => ?_)
  ·refine c_seq ?_
   refine c_reg ?_
   refine sq (rd_move rfl) rfl ?_
   refine sq (rd_assign rfl) rfl ?_
   refine s_end ?_
   refine f_then ?_
   refine c_ret ?_
   refine f_blk_r ?_
   refine f_then_r ?_
   refine f_then_r ?_
   refine f_blk_r ?_
   refine f_then_r ?_
   refine f_ret rfl (.tmp rfl .nil) ?_
   refine pu_end (int_eq ?_)
   rw [findp_hit hno hx (by simpa using h16)]
   rfl
  ·refine c_skip ?_
   refine f_blk ?_
   refine f_then ?_
   refine c_reg ?_
   refine sq (rd_add rfl rfl (by first | exact wrap_i64 (by omega) | exact rfl)) rfl ?_
   refine sq (rd_move rfl) rfl ?_
   refine s_end ?_
   refine f_again (k + 1) (⟨by omega, fun j y hj hy => by rcases Nat.lt_succ_iff_lt_or_eq.1 hj with h | h; exact hno j y h hy; subst h; rw [hx] at hy; injection hy with hy; subst hy; simpa using h16⟩) (by omega) (by repeat constructor) (fun _ h => h.sb)
 ·have hkn : k = n := by omega
  subst hkn
  refine c_exit ?_
  refine f_then_x ?_
  refine f_then_x ?_
  refine f_blk_x ?_
  refine f_then ?_
  refine c_seq ?_
  refine c_reg ?_
  refine sq (rd_assign rfl) rfl ?_
  refine s_end ?_
  refine f_then ?_
  refine c_ret ?_
  refine f_ret rfl (.tmp rfl .nil) ?_
  refine pu_end (int_eq ?_)
  rw [findp_miss (fun j y hj => hno j y (by omega))]
  rfl

theorem c89 (w : World) (A : Option Addr) (n cap nf : Nat) (id fl most : Int) (hd : List (Option Addr × Nat)) (rs : List RW) (hrs : RowsAt w none' A n hd rs) (hnf : nf ≤ 100000) (hS : St w (fpOf []) [] w) : Calls Tryz.prog 89 [.agg #[.int .i64 (nf : Int), .int .i64 fl, .int .i64 most], .slice A n cap, .int .i64 id].toArray w (RtE fun v w' => ∃ x : FD, v = (fun x => .tuple #[.agg #[.int .i64 id, .slice x.a (fndR nf rs id).length x.c], .bool (hasR rs id)]) x ∧ (fun x => x.own = false → ∃ (i : Nat) (r : RW), hd[i]? = some (x.a, x.c) ∧ rs[i]? = some r ∧ r.2 = fndR nf rs id) x ∧ St w (fpOf []) ((fun x => [fldE x (fndR nf rs id)]) x) w') := by
 refine enter Tryz.func89 rfl Tryz.ntmps89 rfl hS ?_
 refine c_seq ?_
 refine c_reg ?_
 refine sx (ef_box rfl rfl rfl) rfl ?_
 rintro b3 hb3
 refine sx (ef_box rfl rfl rfl) rfl ?_
 rintro b5 hb5
 refine sx (ef_alloc Z84 rfl) rfl ?_
 rintro b6 hb6
 refine sq (rd_assign rfl) rfl ?_
 refine s_end ?_
 refine f_then ?_
 refine c_seq ?_
 refine c_seq ?_
 obtain ⟨mi, hmi⟩ : ∃ mi, ix (rs.findIdx? (fun r : RW => decide (r.1 = id))) = mi := ⟨_, rfl⟩
 refine c_reg ?_
 refine sq (rd_move rfl) rfl ?_
 refine sq (rd_func rfl rfl) rfl ?_
 refine se (ef_pw rfl rfl K137 rfl (fun w hS => by exact (by have h9 := c137 w A n cap b5 138 id (hd.zip rs) K138 (fun w rid A m c h => c138 w b5 id rid A m c h) (hS.cell (vs := [.int .i64 id]) (te := 3) (by repeat constructor) 0) (by rw [← rowCells_zip]; exact (hrs.hand (Ec := []) hS).sl); rw [zip_ix hrs.ins.1, hmi] at h9; exact h9))) rfl ?_
 refine sq (rd_assign rfl) rfl ?_
 refine s_end ?_
 refine f_then ?_
 refine c_seq ?_
 refine c_reg ?_
 refine sq (rd_move rfl) rfl ?_
 refine sq (rd_geq rfl rfl) rfl ?_
 refine s_end ?_
 refine f_then ?_
 refine c_if rfl (fun h13 => ?_) (fun h13 => ?_)
 ·obtain ⟨i, rfl, hfi⟩ : ∃ i : Nat, mi = (i : Int) ∧ rs.findIdx? (fun r : RW => decide (r.1 = id)) = some i := by
   cases hf : rs.findIdx? (fun r : RW => decide (r.1 = id)) with
   | none => rw [hf] at hmi; simp [ix] at hmi; omega
   | some i => rw [hf] at hmi; exact ⟨i, hmi.symm, rfl⟩
  obtain ⟨r, hr, hid, hfr⟩ := find_ix hfi
  subst hid
  obtain ⟨y, hy, hpt, hsl, hyc⟩ := hrs.get hr
  have hin : i < n := by have h8 := (List.getElem?_eq_some_iff.1 hr).1; have h9 := hrs.sl.len; rw [rowCells_len _ _ hrs.ins.1] at h9; omega
  have hmax := hrs.sl.max
  refine c_seq ?_
  refine c_reg ?_
  refine sq (rd_move rfl) rfl ?_
  refine sq (rd_move rfl) rfl ?_
  refine sq (rd_index S80 rfl rfl hrs.sl.plain (by omega) (by omega)) rfl ?_
  refine sq (rd_ldssl A84 hrs.sl rfl hpt) rfl ?_
  refine se (ef_stores A84 rfl rfl rfl (by repeat constructor) (by first | exact SetR.all rfl | repeat constructor) rfl) rfl ?_
  refine sq (rd_assign rfl) rfl ?_
  refine s_end ?_
  refine f_then ?_
  refine c_ret ?_
  refine f_then_r ?_
  refine f_ret rfl (.cell (res_ldsb A84 rfl (by repeat constructor) (by first | exact GetR.all _ | repeat constructor)) (.tmp rfl .nil)) ?_
  refine fun w' hS => ⟨_, rfl, ⟨fun _ => False, false, y.1, y.2⟩, ?_, fun _ => ⟨i, r, hy, hr, ?_⟩, ?_⟩
  ·unfold fndR hasR; rw [hfr]; rfl
  ·unfold fndR; rw [hfr]
  ·exact ((hS.sub (E' := []) (List.nil_sublist _)).fldOld _ _ _)
 ·have hf : rs.findIdx? (fun r : RW => decide (r.1 = id)) = none := by
   cases hf : rs.findIdx? (fun r : RW => decide (r.1 = id)) with
   | none => rfl
   | some i => rw [hf] at hmi; simp [ix] at hmi; omega
  have hfr := find_none hf
  refine c_skip ?_
  refine f_then ?_
  refine c_seq ?_
  refine c_regd [.blk b5 _ _, .blk b3 _ _] (.q 0 (.q 1 (.q 2 (.alt 3 (.q 4 (.alt 5 (.q 6 .done) .stop)) .stop)))) (by kernel_rfl) (by kernel_rfl) (by kernel_rfl) (by kernel_rfl) (fun _ h => h.sb) ?_
  refine dq rfl (rd_ldb C3 rfl (by repeat constructor) rfl) rfl ?_
  refine dq rfl (rd_field F78_0 rfl) rfl ?_
  refine dq rfl (rd_ldb C3 rfl (by repeat constructor) rfl) rfl ?_
  refine dx rfl rfl (ef_make (k := nf) Rt82 rfl rfl rfl rfl (by omega) (by omega) rfl) (fun _ _ _ h => h.sb) ?_ d_stop
  rintro b21 hb21
  refine dq rfl (rd_build St84 rfl (by repeat constructor)) rfl ?_
  refine de rfl rfl (ef_stores A84 rfl rfl rfl (by repeat constructor) (by first | exact SetR.all rfl | repeat constructor) rfl) (fun _ h => h.sb) ?_ d_stop
  refine dq rfl (rd_assign rfl) rfl ?_
  refine d_end ?_
  refine f_then ?_
  refine c_ret ?_
  refine f_ret rfl (.cell (res_ldsb A84 rfl (by repeat constructor) (by first | exact GetR.all _ | repeat constructor)) (.tmp rfl .nil)) ?_
  refine fun w' hS => ⟨_, rfl, ⟨fun k => k = b21, true, some ⟨b21, 0, none⟩, nf⟩, ?_, fun h => (by cases h), ?_⟩
  ·unfold fndR hasR; rw [hfr]; simp
  ·have h9 : fndR nf rs id = List.replicate nf 0 := by unfold fndR; rw [hfr]
   rw [h9]
   rw [zrep_one, ← ints_rep] at hS
   exact (hS.sub (E' := [.blk b21 (ints (List.replicate nf 0)) 2]) (by repeat (first | exact .refl _ | apply List.Sublist.cons_cons | apply List.Sublist.cons))).fldNew (by simp; omega) nf

end Go.Proofs.YtfccnoccfhgcbaaGreatDoor
namespace Go.Proofs.YtfccnoccfhgcbaaGreatDoor
open Go Go.RowKit
/-- Neighbours that are alike, once. -/
def cstep (acc : List Int) (x : Int) : List Int := if acc.getLast? = some x then acc else acc ++ [x]
def compactL (l : List Int) : List Int := l.foldl cstep []
theorem compact_take {l : List Int} {k : Nat} {x : Int} (h : l[k]? = some x) : compactL (l.take (k + 1)) = cstep (compactL (l.take k)) x := by
 unfold compactL
 rw [List.take_add_one, h]
 simp
theorem compact_last {l : List Int} {k : Nat} {x : Int} (h : l[k]? = some x) : (compactL (l.take (k + 1))).getLast? = some x := by
 rw [compact_take h]
 unfold cstep
 split
 ·assumption
 ·simp
theorem cstep_len (acc : List Int) (x : Int) : (cstep acc x).length ≤ acc.length + 1 := by
 unfold cstep
 split <;> simp
theorem compact_len (l : List Int) : ∀ k, (compactL (l.take k)).length ≤ k := by
 intro k
 induction k with
 | zero => simp [compactL]
 | succ k ih =>
  cases h : l[k]? with
  | none => rw [List.take_add_one, h]; simp only [Option.toList_none, List.append_nil]; omega
  | some x =>
   rw [compact_take h]
   have := cstep_len (compactL (l.take k)) x
   omega
theorem compact_same {l : List Int} {k : Nat} {x p : Int} (h : l[k + 1]? = some x) (hp : l[k]? = some p) (hx : x = p) : compactL (l.take (k + 1 + 1)) = compactL (l.take (k + 1)) := by
 rw [compact_take h]
 unfold cstep
 rw [if_pos (by rw [compact_last hp, hx])]
theorem compact_other {l : List Int} {k : Nat} {x p : Int} (h : l[k + 1]? = some x) (hp : l[k]? = some p) (hx : x ≠ p) : compactL (l.take (k + 1 + 1)) = compactL (l.take (k + 1)) ++ [x] := by
 rw [compact_take h]
 unfold cstep
 rw [if_neg (by rw [compact_last hp]; intro h9; injection h9 with h9; exact hx h9.symm)]
theorem ints_set {l : List Int} {i : Nat} {x : Int} (h : i < l.length) : (ints l).take i ++ [.int .i64 x] ++ (ints l).drop (i + 1) = ints (l.set i x) := by
 rw [List.set_eq_take_append_cons_drop, if_pos h]
 simp [ints]
theorem ints_take (l : List Int) (i : Nat) : (ints l).take i = ints (l.take i) := by simp [ints, List.map_take]

theorem c88 (w : World) (A : Option Addr) (n cap : Nat) (l : List Int) (hl : l.length = n) (hn : n ≤ 1000000) (hS : St w (fpOf [.row 3 1 A n cap (ints l)]) [.row 3 1 A n cap (ints l)] w) : Calls Tryz.prog 88 [.slice A n cap].toArray w (RtE fun v w' => ∃ x : Unit, v = (fun _ => .slice A (compactL l).length cap) x ∧ (fun _ => True) x ∧ St w (fpOf [.row 3 1 A n cap (ints l)]) ((fun _ => [.row 3 1 A (compactL l).length cap (ints (compactL l))]) x) w') := by
 refine enter Tryz.func88 rfl Tryz.ntmps88 rfl hS ?_
 refine c_seq ?_
 refine c_reg ?_
 refine sq (rd_assign rfl) rfl ?_
 refine s_end ?_
 refine f_then ?_
 refine c_seq ?_
 refine c_seq ?_
 refine c_know (fun _ h => row_know (e := 3) (sz := 1) (A := A) (m := n) (cap := cap) (by first | exact .head _) _ h) (fun hk0 => ?_)
 have hA0 : 0 < n → plainA A := fun h => (hk0.2.2.2 h).1
 have hcap := hk0.2.1
 have hone : compactL (l.take 1) = l.take 1 := by
  cases l with
  | nil => rfl
  | cons x l => rfl
 refine c_reg ?_
 refine sq (rd_move rfl) rfl ?_
 refine sq (rd_len S128 rfl rfl) rfl ?_
 refine sq (rd_lss rfl rfl) rfl ?_
 refine s_end ?_
 refine f_then ?_
 refine c_if rfl (fun h8 => ?_) (fun h8 => ?_)
 ·refine c_seq ?_
  refine c_reg ?_
  refine sq (rd_move rfl) rfl ?_
  refine sq (rd_assign rfl) rfl ?_
  refine s_end ?_
  refine f_then ?_
  refine c_ret ?_
  refine f_then_r ?_
  refine f_ret rfl (.tmp rfl .nil) ?_
  have e9 : compactL l = l := by
   match l, hl with
   | [], _ => rfl
   | [x], _ => rfl
   | _ :: _ :: _, h => simp at h; omega
  exact fun w' hS => ⟨_, rfl, (), by rw [e9, hl]; rfl, trivial, by rw [e9, hl]; exact hS⟩
 ·refine c_skip ?_
  refine f_then ?_
  refine c_seq ?_
  refine c_seq ?_
  refine c_reg ?_
  refine sq (rd_assign rfl) rfl ?_
  refine s_end ?_
  refine f_then ?_
  refine c_block ?_
  refine c_keep (L' := [(0, _), (2, _), (3, _)]) (by repeat constructor) ?_
  refine c_for (α := Nat) (fun k => 1 ≤ k ∧ k ≤ n ∧ compactL (l.take k) = l.take k) (fun k => []) [.row 3 _ A n cap _] (fun k => [(3, .int .i64 (k : Int))]) [(0, _), (2, _)] (fun k => n - k) (1) (⟨Nat.le_refl _, by omega, hone⟩) (by repeat constructor) (fun _ h => h) ?_
  rintro k ⟨hk1, hk, hq⟩
  refine c_seq ?_
  refine c_seq ?_
  refine c_reg ?_
  refine sq (rd_move rfl) rfl ?_
  refine sq (rd_move rfl) rfl ?_
  refine sq (rd_len S128 rfl rfl) rfl ?_
  refine sq (rd_lss rfl rfl) rfl ?_
  refine s_end ?_
  refine f_then ?_
  refine c_if rfl (fun h13 => ?_) (fun h13 => ?_)
  ·have hkn : k < n := by omega
   obtain ⟨x, hx⟩ : ∃ x, l[k]? = some x := ⟨l[k]'(by omega), by simp⟩
   obtain ⟨p, hp⟩ : ∃ p, l[k - 1]? = some p := ⟨l[k - 1]'(by omega), by simp⟩
   refine c_skip ?_
   refine f_then ?_
   refine c_seq ?_
   refine c_block ?_
   refine c_seq ?_
   refine c_regd [.row 3 _ A n cap _] (.q 0 (.q 1 (.q 2 (.q 3 (.q 4 (.q 5 (.q 6 (.q 7 (.q 8 (.q 9 .done)))))))))) (by kernel_rfl) (by kernel_rfl) (by kernel_rfl) (by kernel_rfl) (fun _ h => h.sb) ?_
   refine dq rfl (rd_move rfl) rfl ?_
   refine dq rfl (rd_move rfl) rfl ?_
   refine dq rfl (rd_index S128 rfl rfl hA0 (by omega) (by omega)) rfl ?_
   refine dq rfl (rd_ldr2 (A := A) (e := 3) (sz := 1) (m := n) (cap := cap) (k) C3 (by first | exact .head _) rfl rfl (by omega) (ints_get hx)) rfl ?_
   refine dq rfl (rd_move rfl) rfl ?_
   refine dq rfl (rd_move rfl) rfl ?_
   refine dq rfl (rd_sub rfl rfl (by first | exact wrap_i64 (by omega) | exact rfl)) rfl ?_
   refine dq rfl (rd_index S128 rfl rfl hA0 (by omega) (by omega)) rfl ?_
   refine dq rfl (rd_ldr2 (A := A) (e := 3) (sz := 1) (m := n) (cap := cap) (k - 1) C3 (by first | exact .head _) rfl rfl (by omega) (ints_get hp)) rfl ?_
   refine dq rfl (rd_eql rfl rfl) rfl ?_
   refine d_end ?_
   refine f_then ?_
   refine c_if rfl (fun h25 => ?_) (fun h25 => ?_)
   ·refine c_seq ?_
    refine c_reg ?_
    refine sq (rd_move rfl) rfl ?_
    refine sq (rd_move rfl) rfl ?_
    refine sq (rd_slice_lon S128 rfl rfl (by omega)) rfl ?_
    refine sq (rd_assign rfl) rfl ?_
    refine s_end ?_
    refine f_then ?_
    refine c_seq ?_
    refine c_seq ?_
    have hsub : subA A cap k 1 = some ⟨ab A, ao A + k * 1, none⟩ := subA_plain (hA0 (by omega)) (by omega)
    refine c_keep (L' := [(3, _), (0, _), (2, _), (10, _), (11, _), (12, _), (13, _), (16, _), (17, _), (18, _), (19, _), (20, _), (21, _), (22, _), (23, _), (24, _), (25, _), (26, _), (27, _), (28, _), (4, .slice (some ⟨ab A, ao A + k * 1, none⟩) (n - k) (cap - k))]) (.cons rfl (.cons rfl (.cons rfl (.cons rfl (.cons rfl (.cons rfl (.cons rfl (.cons rfl (.cons rfl (.cons rfl (.cons rfl (.cons rfl (.cons rfl (.cons rfl (.cons rfl (.cons rfl (.cons rfl (.cons rfl (.cons rfl (.cons rfl (.cons (by rw [← hsub]; rfl) .nil))))))))))))))))))))) ?_
    refine c_reg ?_
    refine sq (rd_assign rfl) rfl ?_
    refine s_end ?_
    refine f_then ?_
    refine c_block ?_
    refine c_keep (L' := [(3, _), (0, _), (2, _), (10, _), (11, _), (12, _), (13, _), (16, _), (17, _), (18, _), (19, _), (20, _), (21, _), (22, _), (23, _), (24, _), (25, _), (26, _), (27, _), (28, _), (4, _), (5, _)]) (by repeat constructor) ?_
    refine c_for (α := Nat × Nat × List Int) (fun ⟨kk, j, xs⟩ => k ≤ kk ∧ kk + 1 ≤ k + j ∧ 1 ≤ j ∧ k + j ≤ n ∧ xs.length = n ∧ xs.take kk = compactL (l.take (k + j)) ∧ ∀ i, kk ≤ i → xs[i]? = l[i]?) (fun ⟨kk, j, xs⟩ => [.row 3 1 A n cap (ints xs)]) [] (fun ⟨kk, j, xs⟩ => [(3, .int .i64 (kk : Int)), (5, .int .i64 (j : Int))]) [(0, _), (2, _), (10, _), (11, _), (12, _), (13, _), (16, _), (17, _), (18, _), (19, _), (20, _), (21, _), (22, _), (23, _), (24, _), (25, _), (26, _), (27, _), (28, _), (4, _)] (fun ⟨kk, j, xs⟩ => n - (k + j)) ((k, 1, l)) (⟨Nat.le_refl _, by omega, Nat.le_refl _, by omega, hl, by obtain ⟨k, rfl⟩ : ∃ m, k = m + 1 := ⟨k - 1, by omega⟩; rw [compact_same hx hp h25, hq], fun _ _ => rfl⟩) (by repeat constructor) (fun _ h => h) ?_
    rintro ⟨kk, j, xs⟩ ⟨hj1, hj2, hj3, hj4, hj5, hj6, hj7⟩
    refine c_seq ?_
    refine c_seq ?_
    refine c_reg ?_
    refine sq (rd_move rfl) rfl ?_
    refine sq (rd_move rfl) rfl ?_
    refine sq (rd_len S128 rfl rfl) rfl ?_
    refine sq (rd_lss rfl rfl) rfl ?_
    refine s_end ?_
    refine f_then ?_
    refine c_if rfl (fun h32 => ?_) (fun h32 => ?_)
    ·have hjn : k + j < n := by omega
     obtain ⟨u, hu⟩ : ∃ u, l[k + j]? = some u := ⟨l[k + j]'(by omega), by simp⟩
     obtain ⟨v, hv⟩ : ∃ v, l[k + j - 1]? = some v := ⟨l[k + j - 1]'(by omega), by simp⟩
     have hxu := (hj7 (k + j) (by omega)).trans hu
     have hxv := (hj7 (k + j - 1) (by omega)).trans hv
     refine c_skip ?_
     refine f_then ?_
     refine c_seq ?_
     refine c_block ?_
     refine c_seq ?_
     refine c_regd [.row 3 _ A n cap _] (.q 0 (.q 1 (.q 2 (.q 3 (.q 4 (.q 5 (.q 6 (.q 7 (.q 8 (.q 9 .done)))))))))) (by kernel_rfl) (by kernel_rfl) (by kernel_rfl) (by kernel_rfl) (fun _ h => h.sb) ?_
     refine dq rfl (rd_move rfl) rfl ?_
     refine dq rfl (rd_move rfl) rfl ?_
     refine dq rfl (rd_index S128 rfl rfl (fun _ => rfl) (by omega) (by omega)) rfl ?_
     refine dq rfl (rd_ldr2 (A := A) (e := 3) (sz := 1) (m := n) (cap := cap) (k + j) C3 (by first | exact .head _) rfl rfl (by show ao A + k * 1 + ((j : Int)).toNat * 1 = _; omega) (ints_get hxu)) rfl ?_
     refine dq rfl (rd_move rfl) rfl ?_
     refine dq rfl (rd_move rfl) rfl ?_
     refine dq rfl (rd_sub rfl rfl (by first | exact wrap_i64 (by omega) | exact rfl)) rfl ?_
     refine dq rfl (rd_index S128 rfl rfl (fun _ => rfl) (by omega) (by omega)) rfl ?_
     refine dq rfl (rd_ldr2 (A := A) (e := 3) (sz := 1) (m := n) (cap := cap) (k + j - 1) C3 (by first | exact .head _) rfl rfl (by show ao A + k * 1 + ((j : Int) - 1).toNat * 1 = _; omega) (ints_get hxv)) rfl ?_
     refine dq rfl (rd_neq rfl rfl) rfl ?_
     refine d_end ?_
     refine f_then ?_
     refine c_if rfl (fun h44 => ?_) (fun h44 => ?_)
     ·refine c_seq ?_
      refine c_reg ?_
      refine sq (rd_move rfl) rfl ?_
      refine sq (rd_move rfl) rfl ?_
      refine sq (rd_move rfl) rfl ?_
      refine sq (rd_move rfl) rfl ?_
      refine sq (rd_index S128 rfl rfl (fun _ => rfl) (by omega) (by omega)) rfl ?_
      refine sq (rd_ldr2 (A := A) (e := 3) (sz := 1) (m := n) (cap := cap) (k + j) C3 (by first | exact .head _) rfl rfl (by show ao A + k * 1 + ((j : Int)).toNat * 1 = _; omega) (ints_get hxu)) rfl ?_
      refine sq (rd_index S128 rfl rfl hA0 (by omega) (by omega)) rfl ?_
      refine se (ef_storer (ys := ints (xs.set kk u)) Sz3 rfl rfl rfl rfl rfl (by simp only [Int.toNat_natCast]; omega) (by decide) rfl (by simp only [Int.toNat_natCast, Nat.mul_one]; exact ints_set (by omega))) rfl ?_
      refine s_end ?_
      refine f_then ?_
      refine c_reg ?_
      refine sq (rd_move rfl) rfl ?_
      refine sq (rd_add rfl rfl (by first | exact wrap_i64 (by omega) | exact rfl)) rfl ?_
      refine sq (rd_assign rfl) rfl ?_
      refine s_end ?_
      refine f_blk ?_
      refine f_then ?_
      refine c_reg ?_
      refine sq (rd_move rfl) rfl ?_
      refine sq (rd_add rfl rfl (by first | exact wrap_i64 (by omega) | exact rfl)) rfl ?_
      refine sq (rd_assign rfl) rfl ?_
      refine s_end ?_
      have hc : compactL (l.take (k + (j + 1))) = compactL (l.take (k + j)) ++ [u] := by
       obtain ⟨q, hq9⟩ : ∃ q, k + j = q + 1 := ⟨k + j - 1, by omega⟩
       rw [show k + (j + 1) = q + 1 + 1 from by omega, hq9]
       exact compact_other (by rw [← hq9]; exact hu) (by rw [show q = k + j - 1 from by omega]; exact hv) (by simpa using h44)
      refine f_again ((kk + 1, j + 1, xs.set kk u)) (⟨by omega, by omega, by omega, by omega, by simpa using hj5, by rw [hc, ← hj6, List.take_add_one, List.take_set_of_le (Nat.le_refl _), List.getElem?_set_self (by omega)]; rfl, fun i hi => by rw [List.getElem?_set_ne (by omega)]; exact hj7 i (by omega)⟩) (by show n - (k + (j + 1)) < n - (k + j); omega) (by repeat constructor) (fun _ h => h.sb)
     ·refine c_skip ?_
      refine f_blk ?_
      refine f_then ?_
      refine c_reg ?_
      refine sq (rd_move rfl) rfl ?_
      refine sq (rd_add rfl rfl (by first | exact wrap_i64 (by omega) | exact rfl)) rfl ?_
      refine sq (rd_assign rfl) rfl ?_
      refine s_end ?_
      have hc : compactL (l.take (k + (j + 1))) = compactL (l.take (k + j)) := by
       obtain ⟨q, hq9⟩ : ∃ q, k + j = q + 1 := ⟨k + j - 1, by omega⟩
       rw [show k + (j + 1) = q + 1 + 1 from by omega, hq9]
       exact compact_same (by rw [← hq9]; exact hu) (by rw [show q = k + j - 1 from by omega]; exact hv) (by simpa using h44)
      refine f_again ((kk, j + 1, xs)) (⟨hj1, by omega, by omega, by omega, hj5, by rw [hj6, hc], hj7⟩) (by show n - (k + (j + 1)) < n - (k + j); omega) (by repeat constructor) (fun _ h => h.sb)
    ·have hjn : k + j = n := by omega
     refine c_exit ?_
     refine f_then_x ?_
     refine f_then_x ?_
     refine f_blk_x ?_
     refine f_then ?_
     refine c_seq ?_
     refine c_reg ?_
     refine sq (rd_move rfl) rfl ?_
     refine sq (rd_move rfl) rfl ?_
     refine sq (rd_slice_lon S128 rfl rfl (by omega)) rfl ?_
     refine se (ef_clear (j := kk) Rt128 rfl rfl rfl (by omega) rfl) rfl ?_
     refine s_end ?_
     refine f_then ?_
     refine c_seq ?_
     refine c_reg ?_
     refine sq (rd_move rfl) rfl ?_
     refine sq (rd_move rfl) rfl ?_
     refine sq (rd_slice_hin S128 rfl rfl (by omega)) rfl ?_
     refine sq (rd_assign rfl) rfl ?_
     refine s_end ?_
     refine f_then ?_
     refine c_ret ?_
     refine f_blk_r ?_
     refine f_then_r ?_
     refine f_then_r ?_
     refine f_blk_r ?_
     refine f_then_r ?_
     refine f_ret rfl (.tmp rfl .nil) ?_
     have e9 : compactL l = xs.take kk := by rw [hj6, List.take_of_length_le (by omega)]
     have e8 : (compactL l).length = kk := by rw [e9, List.length_take]; omega
     refine fun w' hS => ⟨_, rfl, (), by rw [e8]; rfl, trivial, ?_⟩
     rw [e8, e9]
     have h9 := St.rowTake hS kk (by omega)
     rw [Nat.mul_one, List.take_append_of_le_length (by rw [List.length_take, ints_len]; omega), List.take_take, Nat.min_self, ints_take] at h9
     exact h9
   ·refine c_skip ?_
    refine f_blk ?_
    refine f_then ?_
    refine c_reg ?_
    refine sq (rd_move rfl) rfl ?_
    refine sq (rd_add rfl rfl (by first | exact wrap_i64 (by omega) | exact rfl)) rfl ?_
    refine sq (rd_assign rfl) rfl ?_
    refine s_end ?_
    obtain ⟨k, rfl⟩ : ∃ m, k = m + 1 := ⟨k - 1, by omega⟩
    refine f_again (k + 1 + 1) (⟨by omega, by omega, by rw [compact_other hx hp (by simpa using h25), hq, show l.take (k + 1 + 1) = l.take (k + 1) ++ l[k + 1]?.toList from List.take_add_one, hx]; rfl⟩) (by omega) (by repeat constructor) (fun _ h => h.sb)
  ·have hkn : k = n := by omega
   refine c_exit ?_
   refine f_then_x ?_
   refine f_then_x ?_
   refine f_blk_x ?_
   refine f_then ?_
   refine c_seq ?_
   refine c_reg ?_
   refine sq (rd_move rfl) rfl ?_
   refine sq (rd_assign rfl) rfl ?_
   refine s_end ?_
   refine f_then ?_
   refine c_ret ?_
   refine f_ret rfl (.tmp rfl .nil) ?_
   have e9 : compactL l = l := by rw [List.take_of_length_le (by omega)] at hq; exact hq
   exact fun w' hS => ⟨_, rfl, (), by rw [e9, hl]; rfl, trivial, by rw [e9, hl]; exact hS⟩

end Go.Proofs.YtfccnoccfhgcbaaGreatDoor
namespace Go.Proofs.YtfccnoccfhgcbaaGreatDoor
open Go Go.RowKit

def sortI (l : List Int) : List Int := l.mergeSort fun x y => !Sort.ltInt y x
theorem ltInt_total (x y : Int) (h1 : Sort.ltInt x y = false) (h2 : Sort.ltInt y x = false) : x = y := by
 simp only [Sort.ltInt, decide_eq_false_iff_not] at *
 omega
theorem sortI_of {l : List Int} {n : Nat} {x : Array Int} (hl : l.length = n) (hp : Sort.PermIn 0 n l.toArray x) (hs : Sort.SortedIn Sort.ltInt 0 n x) : x.toList = sortI l := by
 subst hl
 exact Sort.sorted_unique_holds Sort.swo_ltInt ltInt_total l.toArray x (by simpa using hp) (by simpa using hs)
/-- All IDs, rising. -/
def idsL (rb rn : List RW) : List Int := compactL (sortI ((rb ++ rn).map (·.1)))
/-- A field of an entry. -/
def fieldB (fl : Int) (was is : List Int) (k : Nat) : List Bool :=
 decide (is.getD k 0 ≠ was.getD k 0) :: if is.getD k 0 ≠ was.getD k 0 ∧ (k : Int) ≠ fl then sbits (is.getD k 0) 32 else []
def fieldsB (fl : Int) (was is : List Int) (k : Nat) : List Bool := (List.range k).flatMap (fieldB fl was is)
/-- An entry. -/
def entB (nf : Nat) (fl : Int) (rb rn : List RW) (id : Int) : List Bool :=
 if hasR rb id = hasR rn id ∧ fndR nf rb id = fndR nf rn id then [] else
  [true] ++ sbits id 31 ++ [!hasR rn id] ++ if hasR rn id = true then fieldsB fl (fndR nf rb id) (fndR nf rn id) nf else []
def entsB (nf : Nat) (fl : Int) (rb rn : List RW) (ids : List Int) : List Bool := ids.flatMap (entB nf fl rb rn)
def writeB (nf : Nat) (fl : Int) (rb rn : List RW) : List Bool := entsB nf fl rb rn (idsL rb rn) ++ [false]
theorem fieldsB_succ (fl : Int) (was is : List Int) (k : Nat) : fieldsB fl was is (k + 1) = fieldsB fl was is k ++ fieldB fl was is k := by
 unfold fieldsB
 rw [List.range_succ]
 simp
theorem entsB_take {nf : Nat} {fl : Int} {rb rn : List RW} {ids : List Int} {k : Nat} {id : Int} (h : ids[k]? = some id) : entsB nf fl rb rn (ids.take (k + 1)) = entsB nf fl rb rn (ids.take k) ++ entB nf fl rb rn id := by
 unfold entsB
 rw [List.take_add_one, h]
 simp
theorem bit1 (q : Bool) : nbits (IntKind.u64.wrap (flg q)).toNat 1 = [q] := by
 cases q
 ·rfl
 ·rfl
theorem nbits_one : nbits 1 1 = [true] := rfl
theorem nbits_zero : nbits 0 1 = [false] := rfl
theorem sbits_len (x : Int) (k : Nat) : (sbits x k).length = k := nbits_len _ _
theorem getD_of {l : List Int} {k : Nat} {x : Int} (h : l[k]? = some x) : l.getD k 0 = x := by simp [h]
/-- Two slices of rows, one behind the other. -/
theorem RowsIn.both {w : World} {M : Nat → Prop} {h1 h2 : List (Option Addr × Nat)} {r1 r2 : List RW} (k1 : RowsIn w M h1 r1) (k2 : RowsIn w M h2 r2) : RowsIn w M (h1 ++ h2) (r1 ++ r2) := by
 refine ⟨by simp [k1.1, k2.1], fun i x r e1 e2 => ?_⟩
 have hl := k1.1
 rcases Nat.lt_or_ge i h1.length with hi | hi
 ·rw [List.getElem?_append_left hi] at e1
  rw [List.getElem?_append_left (by omega)] at e2
  exact k1.2 i x r e1 e2
 ·rw [List.getElem?_append_right hi] at e1
  rw [List.getElem?_append_right (by omega), ← hl] at e2
  exact k2.2 _ x r e1 e2
theorem RowsAt.both {w0 w : World} {M : Nat → Prop} {E : List Ent} {e A1 n1 A2 n2 c A n} {h1 h2 : List (Option Addr × Nat)} {r1 r2 : List RW} (k1 : RowsAt w0 M A1 n1 h1 r1) (k2 : RowsAt w0 M A2 n2 h2 r2) (hS : St w0 M E w) (hm : Ent.row e 2 A n c (rowCells h1 r1 ++ (rowCells h2 r2).take (n2 * 2)) ∈ E) : RowsAt w none' A n (h1 ++ h2) (r1 ++ r2) := by
 have e2 : (rowCells h2 r2).take (n2 * 2) = rowCells h2 r2 := List.take_of_length_le (by rw [k2.sl.len]; exact Nat.le_refl _)
 rw [e2, ← rowCells_append _ _ _ _ k1.ins.1] at hm
 exact ⟨Sl.ofRow' hS hm, RowsIn.both (k1.hand (Ec := []) hS).ins (k2.hand (Ec := []) hS).ins⟩
theorem RowsAt.fld {w0 : World} {M : Nat → Prop} {A : Option Addr} {n nf : Nat} {hd : List (Option Addr × Nat)} {rs : List RW} {id : Int} {x : FD} (h : RowsAt w0 M A n hd rs) (hx : x.own = false → ∃ (i : Nat) (r : RW), hd[i]? = some (x.a, x.c) ∧ rs[i]? = some r ∧ r.2 = fndR nf rs id) (ho : x.own = false) : Sl w0 M x.a (fndR nf rs id).length 1 (ints (fndR nf rs id)) := by
 obtain ⟨i, r, h1, h2, h3⟩ := hx ho
 rw [← h3]
 exact (h.ins.2 i (x.a, x.c) r h1 h2).1
end Go.Proofs.YtfccnoccfhgcbaaGreatDoor
namespace Go.Proofs.YtfccnoccfhgcbaaGreatDoor
open Go Go.RowKit
theorem K85 : callTy Tryz.prog 85 := by unfold callTy; kernel_rfl
theorem K84 : callTy Tryz.prog 84 := by unfold callTy; kernel_rfl
theorem K87 : callTy Tryz.prog 87 := by unfold callTy; kernel_rfl
theorem K88 : callTy Tryz.prog 88 := by unfold callTy; kernel_rfl
theorem K89 : callTy Tryz.prog 89 := by unfold callTy; kernel_rfl
theorem K90 : callTy Tryz.prog 90 := by unfold callTy; kernel_rfl
theorem F78_1 : fieldTy Tryz.prog 78 1 1 := fieldTy.mk' Tryz.underlying78 rfl (by kernel_rfl) rfl
theorem K92 : callTy Tryz.prog 92 := by unfold callTy; kernel_rfl
theorem c49 (w : World) (bw : Nat) (Aw : Option Addr) (cw : Nat) (bs : List Bool) (nf : Nat) (fl most : Int) (A D : Option Addr) (nb capb nn capn : Nat) (hdb hdn : List (Option Addr × Nat)) (rb rn : List RW) (hb : RowsAt w (fpOf [.blk bw [.slice Aw (pack bs).length cw, .int .i64 ((bs).length : Int)] 94, .row 5 1 Aw (pack bs).length cw (u8s (pack bs))]) A nb hdb rb) (hn : RowsAt w (fpOf [.blk bw [.slice Aw (pack bs).length cw, .int .i64 ((bs).length : Int)] 94, .row 5 1 Aw (pack bs).length cw (u8s (pack bs))]) D nn hdn rn) (hnf : nf ≤ 20) (hNb : ∀ r ∈ rb, r.2.length = nf) (hN : ∀ r ∈ rn, r.2.length = nf) (hnb : nb ≤ 1000) (hnn : nn ≤ 1000) (hbs : bs.length ≤ 10000000) (hS : St w (fpOf [.blk bw [.slice Aw (pack bs).length cw, .int .i64 ((bs).length : Int)] 94, .row 5 1 Aw (pack bs).length cw (u8s (pack bs))]) [.blk bw [.slice Aw (pack bs).length cw, .int .i64 ((bs).length : Int)] 94, .row 5 1 Aw (pack bs).length cw (u8s (pack bs))] w) : Calls Tryz.prog 49 [.agg #[.int .i64 (nf : Int), .int .i64 fl, .int .i64 most], .pointer (some ⟨bw, 0, none⟩), .slice A nb capb, .slice D nn capn].toArray w (RtE fun v w' => ∃ x : Option Addr × Nat, v = (fun _ => .tuple #[]) x ∧ (fun _ => True) x ∧ St w (fpOf [.blk bw [.slice Aw (pack bs).length cw, .int .i64 ((bs).length : Int)] 94, .row 5 1 Aw (pack bs).length cw (u8s (pack bs))]) ((fun x => [.blk bw [.slice x.1 (pack (bs ++ writeB nf fl rb rn)).length x.2, .int .i64 (((bs ++ writeB nf fl rb rn)).length : Int)] 94, .row 5 1 x.1 (pack (bs ++ writeB nf fl rb rn)).length x.2 (u8s (pack (bs ++ writeB nf fl rb rn)))]) x) w') := by
 refine enter Tryz.func49 rfl Tryz.ntmps49 rfl hS ?_
 refine c_seq ?_
 refine c_reg ?_
 refine sx (ef_box rfl rfl rfl) rfl ?_
 rintro b4 hb4
 refine s_end ?_
 refine f_then ?_
 refine c_seq ?_
 have lb : rb.length = nb := by have := hb.sl.len; rw [rowCells_len _ _ hb.ins.1] at this; omega
 have ln : rn.length = nn := by have := hn.sl.len; rw [rowCells_len _ _ hn.ins.1] at this; omega
 have hmb := hb.sl.max
 have hmn := hn.sl.max
 refine c_reg ?_
 refine sq (rd_move rfl) rfl ?_
 refine sx (ef_call rfl rfl K85 (fun _ e => by cases e; rfl) [] _ (.refl _) _ _ _ (fun w hS => by exact c85 w A nb capb (rowCells hdb rb) (hb.sl.hand hS (by decide)) (rowCells_cells _ _) (by omega) hS.own)) rfl ?_
 rintro ⟨A1, c1⟩ _
 refine sq (rd_move rfl) rfl ?_
 refine sx (ef_append Rt80 rfl rfl rfl rfl (src_sl hn.sl (Nat.le_refl nn)) (cells_take (rowCells_cells _ _)) (by omega) (by unfold maxLen; omega) rfl) rfl ?_
 rintro ⟨A2, c2⟩ _
 refine sx (ef_call rfl rfl K84 (fun _ e => by cases e; rfl) [] _ (.refl _) _ _ _ (fun w hS => by exact c84 w A2 (nb + nn) c2 (hdb ++ hdn) (rb ++ rn) (RowsAt.both hb hn hS (by repeat constructor)) (by omega) hS.own)) rfl ?_
 rintro ⟨A3, c3⟩ _
 refine sq (rd_assign rfl) rfl ?_
 refine s_end ?_
 refine f_then ?_
 refine c_seq ?_
 refine c_know (fun _ h => row_know (e := 3) (sz := 1) (A := A3) (m := nb + nn) (cap := c3) (by repeat constructor) _ h) (fun hk3 => ?_)
 refine c_reg ?_
 refine sq (rd_move rfl) rfl ?_
 refine sx (ef_call rfl rfl K87 (fun _ e => by cases e; rfl) [.row 3 _ A3 _ c3 _] _ (.refl _) _ _ _ (fun w hS => by exact c87 w A3 c3 (nb + nn) (((rb ++ rn).map (·.1)).toArray) (by simp; omega) (by omega) Sort.swo_ltInt hS.own)) rfl ?_
 rintro y ⟨hy1, hy2, hy3⟩
 refine s_end ?_
 refine f_then ?_
 refine c_seq ?_
 refine c_seq ?_
 have hyl := sortI_of (by simp; omega) hy2 hy3
 refine c_reg ?_
 refine sq (rd_move rfl) rfl ?_
 refine sx (ef_call rfl rfl K88 (fun _ e => by cases e; rfl) [.row 3 _ A3 _ c3 _] _ (.refl _) _ _ _ (fun w hS => by exact c88 w A3 (nb + nn) c3 y.toList (by simpa using hy1) (by omega) hS.own)) rfl ?_
 rintro _ _
 obtain ⟨ids, hids⟩ : ∃ ids, ids = compactL y.toList := ⟨_, rfl⟩
 have hidl : ids.length ≤ nb + nn := by
  rw [hids]
  have h9 := compact_len y.toList y.toList.length
  rw [List.take_length] at h9
  have h8 : y.toList.length = nb + nn := by simpa using hy1
  omega
 refine s_ents (fun _ h => by rw [← hids] at h; exact h) ?_
 refine s_keep (L' := [(0, _), (1, _), (2, _), (3, _), (4, _), (17, _), (18, _), (19, _), (20, _), (21, _), (8, _), (22, _), (23, _), (24, _), (25, .slice A3 ids.length c3)]) (.cons rfl (.cons rfl (.cons rfl (.cons rfl (.cons rfl (.cons rfl (.cons rfl (.cons rfl (.cons rfl (.cons rfl (.cons rfl (.cons rfl (.cons rfl (.cons rfl (.cons (by rw [hids]; rfl) .nil))))))))))))))) ?_
 refine sq (rd_len S128 rfl rfl) rfl ?_
 refine sq (rd_move rfl) rfl ?_
 refine s_end ?_
 refine f_then ?_
 refine c_block ?_
 refine c_keep (L' := [(1, _), (2, _), (3, _), (4, _), (25, _), (26, _), (27, _)]) (by repeat constructor) ?_
 refine c_front (.blk b4 _ _) (by repeat constructor) ?_
 refine c_front (.row 84 _ A2 _ c2 _) (by repeat constructor) ?_
 refine c_front (.row 3 _ A3 _ c3 _) (by repeat constructor) ?_
 refine c_front (.row 5 _ _ _ _ _) (by repeat constructor) ?_
 refine c_front (.blk bw _ _) (by repeat constructor) ?_
 refine c_for (α := Nat × Option Addr × Nat) (fun ⟨k, A4, c4⟩ => k ≤ ids.length ∧ (bs ++ entsB nf fl rb rn (ids.take k)).length ≤ bs.length + 700 * k) (fun ⟨k, A4, c4⟩ => [.blk bw [.slice A4 (pack (bs ++ entsB nf fl rb rn (ids.take k))).length c4, .int .i64 (((bs ++ entsB nf fl rb rn (ids.take k))).length : Int)] 94, .row 5 1 A4 (pack (bs ++ entsB nf fl rb rn (ids.take k))).length c4 (u8s (pack (bs ++ entsB nf fl rb rn (ids.take k))))]) [.row 3 _ A3 _ c3 _, .row 84 _ A2 _ c2 _, .blk b4 _ _] (fun ⟨k, A4, c4⟩ => [(27, .int .i64 (k : Int))]) [(1, _), (2, _), (3, _), (4, _), (25, _), (26, _)] (fun ⟨k, A4, c4⟩ => ids.length - k) ((0, Aw, cw)) (⟨Nat.zero_le _, by simp [entsB]⟩) (by repeat constructor) (fun _ h => by (try dsimp only); rw [show (bs ++ entsB nf fl rb rn (ids.take 0)) = bs from by simp [entsB]]; exact h) ?_
 rintro ⟨k, A4, c4⟩ ⟨hk, hkl⟩
 obtain ⟨B, hB⟩ : ∃ B, B = (bs ++ entsB nf fl rb rn (ids.take k)) := ⟨_, rfl⟩
 rw [← hB] at hkl
 refine c_ents (fun _ h => by (try dsimp only at h); rw [← hB] at h; exact h) ?_
 refine c_seq ?_
 refine c_reg ?_
 refine sq (rd_lss rfl rfl) rfl ?_
 refine s_end ?_
 refine f_then ?_
 refine c_seq ?_
 refine c_if rfl (fun h28 => ?_) (fun h28 => ?_)
 ·have hkn : k < ids.length := by omega
  obtain ⟨id, hid⟩ : ∃ id, ids[k]? = some id := ⟨ids[k], by simp⟩
  refine c_skip ?_
  refine f_then ?_
  refine c_seq ?_
  refine c_block ?_
  refine c_seq ?_
  refine c_reg ?_
  refine sq (rd_index S128 rfl rfl (fun h => (hk3.2.2.2 (by omega)).1) (by omega) (by omega)) rfl ?_
  refine sq (rd_ldr C3 (by repeat constructor) rfl (by simp only [Int.toNat_natCast, Nat.mul_one]; exact ints_get hid)) rfl ?_
  refine sq (rd_assign rfl) rfl ?_
  refine s_end ?_
  refine f_then ?_
  refine c_seq ?_
  refine c_reg ?_
  refine sq (rd_ldsb A78 rfl (by repeat constructor) (by first | exact GetR.all _ | repeat constructor)) rfl ?_
  refine sq (rd_move rfl) rfl ?_
  refine sq (rd_move rfl) rfl ?_
  refine sx (ef_call rfl rfl K89 (fun _ e => by cases e; rfl) [] _ (.refl _) _ _ _ (fun w hS => by exact c89 w A nb capb nf id fl most hdb rb (hb.hand (Ec := []) hS) (by omega) hS.own)) rfl ?_
  rintro xb hxb0
  have hxb := RowsAt.fld hb hxb0
  refine sq (rd_move rfl) rfl ?_
  refine sq (rd_extract rfl rfl) rfl ?_
  refine sq (rd_extract rfl rfl) rfl ?_
  refine sx (ef_alloc Z84 rfl) rfl ?_
  rintro b11 hb11
  refine se (ef_stores A84 rfl rfl rfl (by repeat constructor) (by first | exact SetR.all rfl | repeat constructor) rfl) rfl ?_
  refine sq (rd_assign rfl) rfl ?_
  refine s_end ?_
  refine f_then ?_
  refine c_seq ?_
  refine c_reg ?_
  refine sq (rd_ldsb A78 rfl (by repeat constructor) (by first | exact GetR.all _ | repeat constructor)) rfl ?_
  refine sq (rd_move rfl) rfl ?_
  refine sq (rd_move rfl) rfl ?_
  refine sx (ef_call rfl rfl K89 (fun _ e => by cases e; rfl) [] _ (.refl _) _ _ _ (fun w hS => by exact c89 w D nn capn nf id fl most hdn rn (hn.hand (Ec := []) hS) (by omega) hS.own)) rfl ?_
  rintro xn hxn0
  have hxn := RowsAt.fld hn hxn0
  refine sq (rd_move rfl) rfl ?_
  refine sq (rd_extract rfl rfl) rfl ?_
  refine sq (rd_extract rfl rfl) rfl ?_
  refine sx (ef_alloc Z84 rfl) rfl ?_
  rintro b13 hb13
  refine se (ef_stores A84 rfl rfl rfl (by repeat constructor) (by first | exact SetR.all rfl | repeat constructor) rfl) rfl ?_
  refine sq (rd_assign rfl) rfl ?_
  refine s_end ?_
  refine f_then ?_
  refine c_seq ?_
  refine c_seq ?_
  refine c_reg ?_
  refine sq (rd_move rfl) rfl ?_
  refine sq (rd_move rfl) rfl ?_
  refine sq (rd_eqb B4 rfl rfl) rfl ?_
  refine sq (rd_move rfl) rfl ?_
  refine s_split (d := 48) rfl (fun g48 => ?_) (fun g48 => ?_)
  ·try have g48p := of_decide_eq_true g48
   refine sg1 (fun a hA => wanted_yes hA rfl rfl rfl g48) (rd_field F84_1 rfl) rfl ?_
   refine sg1 (fun a hA => wanted_yes hA rfl rfl rfl g48) (rd_ldb C82 rfl (by repeat constructor) rfl) rfl ?_
   refine sg1 (fun a hA => wanted_yes hA rfl rfl rfl g48) (rd_field F84_1 rfl) rfl ?_
   refine sg1 (fun a hA => wanted_yes hA rfl rfl rfl g48) (rd_ldb C82 rfl (by repeat constructor) rfl) rfl ?_
   refine seg (fun a hA => wanted_yes hA rfl rfl rfl g48) (ef_pw rfl rfl K90 rfl (fun w hS => by exact c90 w xb.a xn.a _ _ xb.c xn.c _ _ (Fld.hand hxb hS (by repeat constructor)) (Fld.hand hxn hS (by repeat constructor)))) ?_
   refine sq (rd_pick_tt rfl g48 rfl) rfl ?_
   refine s_end ?_
   refine f_then ?_
   refine c_cond rfl (fun h54 => ?_) (fun h54 => ?_)
   ·have e0 : entB nf fl rb rn id = [] := by
     unfold entB
     exact if_pos ⟨by simpa using g48, by simpa using h54⟩
    refine c_exit ?_
    refine f_then_x ?_
    refine f_blk_x ?_
    refine f_then ?_
    refine c_reg ?_
    refine sq (rd_add rfl rfl (by first | exact wrap_i64 (by omega) | exact rfl)) rfl ?_
    refine sq (rd_move rfl) rfl ?_
    refine s_end ?_
    have e1 : (bs ++ entsB nf fl rb rn (ids.take (k + 1))) = B := by rw [entsB_take hid, e0, List.append_nil, hB]
    
    refine f_front (.blk b4 _ _) (by repeat constructor) ?_
    refine f_front (.row 84 _ A2 _ c2 _) (by repeat constructor) ?_
    refine f_front (.row 3 _ A3 _ c3 _) (by repeat constructor) ?_
    refine f_front (.row 5 _ _ _ _ _) (by repeat constructor) ?_
    refine f_front (.blk bw _ _) (by repeat constructor) ?_
    refine f_again ((k + 1, A4, c4)) (⟨by omega, by (try dsimp only); rw [e1]; omega⟩) (by show _ - (k + 1) < _ - k; omega) (by repeat constructor) (fun _ h => by (try dsimp only); rw [e1]; exact h.sb)
   ·have hne : ¬ (hasR rb id = hasR rn id ∧ fndR nf rb id = fndR nf rn id) := fun h => by
     simp [h.2] at h54
    refine c_skip ?_
    refine f_then ?_
    refine c_seq ?_
    refine c_reg ?_
    refine sq (rd_move rfl) rfl ?_
    refine s_front (.row 5 _ _ _ _ _) (by repeat constructor) ?_
    refine s_front (.blk bw _ _) (by repeat constructor) ?_
    refine sx (ef_call rfl rfl K91 (fun _ e => by cases e; rfl) [.blk bw _ _, .row 5 _ _ _ _ _] _ (.refl _) _ _ _ (fun w hS => by exact c91 w bw A4 c4 B 1 1 (by decide) (by decide) (by omega) hS.own)) rfl ?_
    rintro ⟨AB1, cB1⟩ _
    obtain ⟨B1, hB1⟩ : ∃ Z, Z = B ++ nbits 1 1 := ⟨_, rfl⟩
    have hB1l : B1.length = B.length + 1 := by rw [hB1, List.length_append]; rfl
    refine s_ents (fun _ h => by rw [← hB1] at h; exact h) ?_
    refine s_end ?_
    refine f_then ?_
    refine c_seq ?_
    refine c_reg ?_
    refine sq (rd_move rfl) rfl ?_
    refine sq (rd_move rfl) rfl ?_
    refine sq (rd_conv ⟨_, I3⟩ I118 rfl (u64_nat id).symm) rfl ?_
    refine sx (ef_call rfl rfl K91 (fun _ e => by cases e; rfl) [.blk bw _ _, .row 5 _ _ _ _ _] _ (.refl _) _ _ _ (fun w hS => by exact c91 w bw AB1 cB1 B1 (IntKind.u64.wrap id).toNat 31 (by decide) (by have := wrap_u64_range id; omega) (by omega) hS.own)) rfl ?_
    rintro ⟨AB2, cB2⟩ _
    obtain ⟨B2, hB2⟩ : ∃ Z, Z = B1 ++ nbits (IntKind.u64.wrap id).toNat 31 := ⟨_, rfl⟩
    have hB2l : B2.length = B1.length + 31 := by rw [hB2, List.length_append]; exact congrArg _ (nbits_len _ _)
    refine s_ents (fun _ h => by rw [← hB2] at h; exact h) ?_
    have hB2 : B2 = B1 ++ sbits id 31 := hB2
    refine s_end ?_
    refine f_then ?_
    refine c_seq ?_
    refine c_reg ?_
    refine sq (rd_move rfl) rfl ?_
    refine sq (rd_move rfl) rfl ?_
    refine sq ((by first | exact rd_notd rfl | exact rd_not rfl)) rfl ?_
    refine se (ef_pure rfl rfl K82 rfl (by exact c82 _)) rfl ?_
    refine sq (rd_conv ⟨_, I2⟩ I118 rfl (u64_nat (flg (!hasR rn id))).symm) rfl ?_
    refine sx (ef_call rfl rfl K91 (fun _ e => by cases e; rfl) [.blk bw _ _, .row 5 _ _ _ _ _] _ (.refl _) _ _ _ (fun w hS => by exact c91 w bw AB2 cB2 B2 (IntKind.u64.wrap (flg (!hasR rn id))).toNat 1 (by decide) (by have := wrap_u64_range (flg (!hasR rn id)); omega) (by omega) hS.own)) rfl ?_
    rintro ⟨AB3, cB3⟩ _
    obtain ⟨B3, hB3⟩ : ∃ Z, Z = B2 ++ nbits (IntKind.u64.wrap (flg (!hasR rn id))).toNat 1 := ⟨_, rfl⟩
    have hB3l : B3.length = B2.length + 1 := by rw [hB3, List.length_append]; rfl
    refine s_ents (fun _ h => by rw [← hB3] at h; exact h) ?_
    refine s_end ?_
    refine f_then ?_
    refine c_seq ?_
    refine c_seq ?_
    refine c_reg ?_
    refine sq (rd_move rfl) rfl ?_
    refine sq ((by first | exact rd_notd rfl | exact rd_not rfl)) rfl ?_
    refine s_end ?_
    refine f_then ?_
    refine c_cond rfl (fun h68 => ?_) (fun h68 => ?_)
    ·refine c_exit ?_
     refine f_then_x ?_
     refine f_blk_x ?_
     refine f_then ?_
     refine c_reg ?_
     refine sq (rd_add rfl rfl (by first | exact wrap_i64 (by omega) | exact rfl)) rfl ?_
     refine sq (rd_move rfl) rfl ?_
     refine s_end ?_
     have e1 : (bs ++ entsB nf fl rb rn (ids.take (k + 1))) = B3 := by
      rw [entsB_take hid, ← List.append_assoc, ← hB, entB, if_neg hne, hB3, hB2, hB1, bit1, nbits_one]
      have h69 : hasR rn id = false := by simpa using h68
      simp [h69]
     
     refine f_front (.blk b4 _ _) (by repeat constructor) ?_
     refine f_front (.row 84 _ A2 _ c2 _) (by repeat constructor) ?_
     refine f_front (.row 3 _ A3 _ c3 _) (by repeat constructor) ?_
     refine f_front (.row 5 _ _ _ _ _) (by repeat constructor) ?_
     refine f_front (.blk bw _ _) (by repeat constructor) ?_
     refine f_again ((k + 1, AB3, cB3)) (⟨by omega, by (try dsimp only); rw [e1]; omega⟩) (by show _ - (k + 1) < _ - k; omega) (by repeat constructor) (fun _ h => by (try dsimp only); rw [e1]; exact h.sb)
    ·refine c_skip ?_
     refine f_then ?_
     refine c_seq ?_
     have hlb := fndR_len hNb id
     have hln := fndR_len hN id
     refine c_know (fun w hS => Fld.plain hxb hS (by repeat constructor)) (fun hpb => ?_)
     refine c_know (fun w hS => Fld.plain hxn hS (by repeat constructor)) (fun hpn => ?_)
     refine c_reg ?_
     refine sq (rd_field F84_1 rfl) rfl ?_
     refine sq (rd_ldb C82 rfl (by repeat constructor) rfl) rfl ?_
     refine sq (rd_len S82 rfl rfl) rfl ?_
     refine sq (rd_move rfl) rfl ?_
     refine s_end ?_
     refine f_then ?_
     refine c_block ?_
     refine c_keep (L' := [(27, _), (1, _), (2, _), (3, _), (4, _), (25, _), (26, _), (28, _), (29, _), (30, _), (10, _), (32, _), (33, _), (34, _), (35, _), (31, _), (36, _), (37, _), (11, _), (12, _), (39, _), (40, _), (41, _), (42, _), (38, _), (43, _), (44, _), (13, _), (14, _), (45, _), (46, _), (47, _), (48, _), (49, _), (50, _), (51, _), (52, _), (53, _), (54, _), (55, _), (57, _), (58, _), (59, _), (61, _), (62, _), (63, _), (64, _), (65, _), (67, _), (68, _), (69, _), (70, _), (71, _), (72, _)]) (by repeat constructor) ?_
     refine c_for (α := Nat × Option Addr × Nat) (fun ⟨i, A5, c5⟩ => i ≤ nf ∧ (B3 ++ fieldsB fl (fndR nf rb id) (fndR nf rn id) i).length ≤ B3.length + 33 * i) (fun ⟨i, A5, c5⟩ => [.blk bw [.slice A5 (pack (B3 ++ fieldsB fl (fndR nf rb id) (fndR nf rn id) i)).length c5, .int .i64 (((B3 ++ fieldsB fl (fndR nf rb id) (fndR nf rn id) i)).length : Int)] 94, .row 5 1 A5 (pack (B3 ++ fieldsB fl (fndR nf rb id) (fndR nf rn id) i)).length c5 (u8s (pack (B3 ++ fieldsB fl (fndR nf rb id) (fndR nf rn id) i)))]) [.blk b13 _ _, fldE xn _, .blk b11 _ _, fldE xb _, .row 3 _ A3 _ c3 _, .row 84 _ A2 _ c2 _, .blk b4 _ _] (fun ⟨i, A5, c5⟩ => [(72, .int .i64 (i : Int))]) [(27, _), (1, _), (2, _), (3, _), (4, _), (25, _), (26, _), (28, _), (29, _), (30, _), (10, _), (32, _), (33, _), (34, _), (35, _), (31, _), (36, _), (37, _), (11, _), (12, _), (39, _), (40, _), (41, _), (42, _), (38, _), (43, _), (44, _), (13, _), (14, _), (45, _), (46, _), (47, _), (48, _), (49, _), (50, _), (51, _), (52, _), (53, _), (54, _), (55, _), (57, _), (58, _), (59, _), (61, _), (62, _), (63, _), (64, _), (65, _), (67, _), (68, _), (69, _), (70, _), (71, _)] (fun ⟨i, A5, c5⟩ => nf - i) ((0, AB3, cB3)) (⟨Nat.zero_le _, by simp [fieldsB]⟩) (by repeat constructor) (fun _ h => by (try dsimp only); rw [show (B3 ++ fieldsB fl (fndR nf rb id) (fndR nf rn id) 0) = B3 from by simp [fieldsB]]; exact h) ?_
     rintro ⟨i, A5, c5⟩ ⟨hi, hil⟩
     obtain ⟨C, hC⟩ : ∃ C, C = (B3 ++ fieldsB fl (fndR nf rb id) (fndR nf rn id) i) := ⟨_, rfl⟩
     rw [← hC] at hil
     refine c_ents (fun _ h => by (try dsimp only at h); rw [← hC] at h; exact h) ?_
     refine c_seq ?_
     refine c_reg ?_
     refine sq (rd_lss rfl rfl) rfl ?_
     refine s_end ?_
     refine f_then ?_
     refine c_seq ?_
     refine c_if rfl (fun h73 => ?_) (fun h73 => ?_)
     ·have hin : i < nf := by omega
      obtain ⟨x, hx⟩ : ∃ x, (fndR nf rn id)[i]? = some x := ⟨(fndR nf rn id)[i]'(by rw [fndR_len hN]; exact hin), by simp⟩
      obtain ⟨z, hz⟩ : ∃ z, (fndR nf rb id)[i]? = some z := ⟨(fndR nf rb id)[i]'(by rw [fndR_len hNb]; exact hin), by simp⟩
      refine c_skip ?_
      refine f_then ?_
      refine c_seq ?_
      refine c_block ?_
      refine c_seq ?_
      refine c_reg ?_
      refine sq (rd_move rfl) rfl ?_
      refine sq (rd_index S82 rfl rfl hpn (by omega) (by omega)) rfl ?_
      refine sq (rd_fld (k := i) C2 hxn (by repeat constructor) (by simp only [Int.toNat_natCast, Nat.mul_one]; rfl) hx) rfl ?_
      refine sq (rd_assign rfl) rfl ?_
      refine sq (rd_assign rfl) rfl ?_
      refine s_end ?_
      refine f_then ?_
      refine c_seq ?_
      refine c_reg ?_
      refine sq (rd_move rfl) rfl ?_
      refine sq (rd_move rfl) rfl ?_
      refine sq (rd_field F84_1 rfl) rfl ?_
      refine sq (rd_ldb C82 rfl (by repeat constructor) rfl) rfl ?_
      refine sq (rd_move rfl) rfl ?_
      refine sq (rd_index S82 rfl rfl hpb (by omega) (by omega)) rfl ?_
      refine sq (rd_fld (k := i) C2 hxb (by repeat constructor) (by simp only [Int.toNat_natCast, Nat.mul_one]; rfl) hz) rfl ?_
      refine sq (rd_neq rfl rfl) rfl ?_
      refine se (ef_pure rfl rfl K82 rfl (by exact c82 _)) rfl ?_
      refine sq (rd_conv ⟨_, I2⟩ I118 rfl (u64_nat (flg (decide (x ≠ z)))).symm) rfl ?_
      refine sx (ef_call rfl rfl K91 (fun _ e => by cases e; rfl) [.blk bw _ _, .row 5 _ _ _ _ _] _ (.refl _) _ _ _ (fun w hS => by exact c91 w bw A5 c5 C (IntKind.u64.wrap (flg (decide (x ≠ z)))).toNat 1 (by decide) (by have := wrap_u64_range (flg (decide (x ≠ z))); omega) (by omega) hS.own)) rfl ?_
      rintro ⟨AC1, cC1⟩ _
      obtain ⟨C1, hC1⟩ : ∃ Z, Z = C ++ nbits (IntKind.u64.wrap (flg (decide (x ≠ z)))).toNat 1 := ⟨_, rfl⟩
      have hC1l : C1.length = C.length + 1 := by rw [hC1, List.length_append]; rfl
      refine s_ents (fun _ h => by rw [← hC1] at h; exact h) ?_
      refine s_end ?_
      refine f_then ?_
      refine c_seq ?_
      refine c_reg ?_
      refine sq (rd_move rfl) rfl ?_
      refine sq (rd_field F84_1 rfl) rfl ?_
      refine sq (rd_ldb C82 rfl (by repeat constructor) rfl) rfl ?_
      refine sq (rd_move rfl) rfl ?_
      refine sq (rd_index S82 rfl rfl hpb (by omega) (by omega)) rfl ?_
      refine sq (rd_fld (k := i) C2 hxb (by repeat constructor) (by simp only [Int.toNat_natCast, Nat.mul_one]; rfl) hz) rfl ?_
      refine sq (rd_neq rfl rfl) rfl ?_
      refine sq (rd_move rfl) rfl ?_
      refine s_split (d := 95) rfl (fun g95 => ?_) (fun g95 => ?_)
      ·try have g95p := of_decide_eq_true g95
       refine sg1 (fun a hA => wanted_yes hA rfl rfl rfl g95) (rd_move rfl) rfl ?_
       refine sg1 (fun a hA => wanted_yes hA rfl rfl rfl g95) (rd_field F78_1 rfl) rfl ?_
       refine sg1 (fun a hA => wanted_yes hA rfl rfl rfl g95) (rd_ldb C3 rfl (by repeat constructor) rfl) rfl ?_
       refine sg1 (fun a hA => wanted_yes hA rfl rfl rfl g95) (rd_neq rfl rfl) rfl ?_
       refine sq (rd_pick_tt rfl g95 rfl) rfl ?_
       refine s_end ?_
       refine f_then ?_
       refine c_cond rfl (fun h100 => ?_) (fun h100 => ?_)
       ·refine c_reg ?_
        refine sq (rd_move rfl) rfl ?_
        refine sq (rd_move rfl) rfl ?_
        refine sx (ef_call rfl rfl K92 (fun _ e => by cases e; rfl) [.blk bw _ _, .row 5 _ _ _ _ _] _ (.refl _) _ _ _ (fun w hS => by exact c92 w bw AC1 cC1 C1 x 32 (by decide) (by omega) hS.own)) rfl ?_
        rintro ⟨AC2, cC2⟩ _
        obtain ⟨C2, hC2⟩ : ∃ Z, Z = C1 ++ sbits x 32 := ⟨_, rfl⟩
        have hC2l : C2.length = C1.length + 32 := by rw [hC2, List.length_append]; exact congrArg _ (nbits_len _ _)
        refine s_ents (fun _ h => by rw [← hC2] at h; exact h) ?_
        refine s_end ?_
        refine f_blk ?_
        refine f_then ?_
        refine c_reg ?_
        refine sq (rd_add rfl rfl (by first | exact wrap_i64 (by omega) | exact rfl)) rfl ?_
        refine sq (rd_move rfl) rfl ?_
        refine s_end ?_
        have e2 : (B3 ++ fieldsB fl (fndR nf rb id) (fndR nf rn id) (i + 1)) = C2 := by
         rw [fieldsB_succ, ← List.append_assoc, ← hC]
         unfold fieldB
         rw [getD_of hx, getD_of hz, hC2, hC1, bit1, if_pos ⟨of_decide_eq_true g95, by simpa using h100⟩]
         simp
        refine f_again ((i + 1, AC2, cC2)) (⟨by omega, by (try dsimp only); rw [e2]; omega⟩) (by show _ - (i + 1) < _ - i; omega) (by repeat constructor) (fun _ h => by (try dsimp only); rw [e2]; exact h.sb)
       ·refine c_skip ?_
        refine f_blk ?_
        refine f_then ?_
        refine c_reg ?_
        refine sq (rd_add rfl rfl (by first | exact wrap_i64 (by omega) | exact rfl)) rfl ?_
        refine sq (rd_move rfl) rfl ?_
        refine s_end ?_
        have e2 : (B3 ++ fieldsB fl (fndR nf rb id) (fndR nf rn id) (i + 1)) = C1 := by
         rw [fieldsB_succ, ← List.append_assoc, ← hC]
         unfold fieldB
         rw [getD_of hx, getD_of hz, hC1, bit1, if_neg (fun h => by have := h.2; simp [this] at h100)]
        refine f_again ((i + 1, AC1, cC1)) (⟨by omega, by (try dsimp only); rw [e2]; omega⟩) (by show _ - (i + 1) < _ - i; omega) (by repeat constructor) (fun _ h => by (try dsimp only); rw [e2]; exact h.sb)
      ·try have g95p := of_decide_eq_false g95
       refine sg0 (fun a hA => wanted_no hA rfl rfl rfl g95 rfl) rfl ?_
       refine sg0 (fun a hA => wanted_no hA rfl rfl rfl g95 rfl) rfl ?_
       refine sg0 (fun a hA => wanted_no hA rfl rfl rfl g95 rfl) rfl ?_
       refine sg0 (fun a hA => wanted_no hA rfl rfl rfl g95 rfl) rfl ?_
       refine sq (rd_pick_ff rfl g95 rfl) rfl ?_
       refine s_end ?_
       refine f_then ?_
       refine c_lit_f rfl ?_
       refine c_skip ?_
       refine f_blk ?_
       refine f_then ?_
       refine c_reg ?_
       refine sq (rd_add rfl rfl (by first | exact wrap_i64 (by omega) | exact rfl)) rfl ?_
       refine sq (rd_move rfl) rfl ?_
       refine s_end ?_
       have e2 : (B3 ++ fieldsB fl (fndR nf rb id) (fndR nf rn id) (i + 1)) = C1 := by
        rw [fieldsB_succ, ← List.append_assoc, ← hC]
        unfold fieldB
        rw [getD_of hx, getD_of hz, hC1, bit1, if_neg (fun h => of_decide_eq_false g95 h.1)]
       refine f_again ((i + 1, AC1, cC1)) (⟨by omega, by (try dsimp only); rw [e2]; omega⟩) (by show _ - (i + 1) < _ - i; omega) (by repeat constructor) (fun _ h => by (try dsimp only); rw [e2]; exact h.sb)
     ·refine c_exit ?_
      refine f_then_x ?_
      refine f_then_x ?_
      refine f_blk_x ?_
      refine f_blk ?_
      refine f_then ?_
      refine c_reg ?_
      refine sq (rd_add rfl rfl (by first | exact wrap_i64 (by omega) | exact rfl)) rfl ?_
      refine sq (rd_move rfl) rfl ?_
      refine s_end ?_
      have hin : i = nf := by omega
      have e1 : (bs ++ entsB nf fl rb rn (ids.take (k + 1))) = C := by
       rw [entsB_take hid, ← List.append_assoc, ← hB, entB, if_neg hne, hC, hin, hB3, hB2, hB1, bit1, nbits_one]
       have h69 : hasR rn id = true := by simpa using h68
       simp [h69]
      
      refine f_front (.blk b4 _ _) (by repeat constructor) ?_
      refine f_front (.row 84 _ A2 _ c2 _) (by repeat constructor) ?_
      refine f_front (.row 3 _ A3 _ c3 _) (by repeat constructor) ?_
      refine f_front (.row 5 _ _ _ _ _) (by repeat constructor) ?_
      refine f_front (.blk bw _ _) (by repeat constructor) ?_
      refine f_again ((k + 1, A5, c5)) (⟨by omega, by (try dsimp only); rw [e1]; omega⟩) (by show _ - (k + 1) < _ - k; omega) (by repeat constructor) (fun _ h => by (try dsimp only); rw [e1]; exact h.sb)
  ·have hne : ¬ (hasR rb id = hasR rn id ∧ fndR nf rb id = fndR nf rn id) := fun h => by
    simp [h.1] at g48
   try have g48p := of_decide_eq_false g48
   refine sg0 (fun a hA => wanted_no hA rfl rfl rfl g48 rfl) rfl ?_
   refine sg0 (fun a hA => wanted_no hA rfl rfl rfl g48 rfl) rfl ?_
   refine sg0 (fun a hA => wanted_no hA rfl rfl rfl g48 rfl) rfl ?_
   refine sg0 (fun a hA => wanted_no hA rfl rfl rfl g48 rfl) rfl ?_
   refine sg0 (fun a hA => wanted_no hA rfl rfl rfl g48 rfl) rfl ?_
   refine sq (rd_pick_ff rfl g48 rfl) rfl ?_
   refine s_end ?_
   refine f_then ?_
   refine c_lit_f rfl ?_
   refine c_skip ?_
   refine f_then ?_
   refine c_seq ?_
   refine c_reg ?_
   refine sq (rd_move rfl) rfl ?_
   refine s_front (.row 5 _ _ _ _ _) (by repeat constructor) ?_
   refine s_front (.blk bw _ _) (by repeat constructor) ?_
   refine sx (ef_call rfl rfl K91 (fun _ e => by cases e; rfl) [.blk bw _ _, .row 5 _ _ _ _ _] _ (.refl _) _ _ _ (fun w hS => by exact c91 w bw A4 c4 B 1 1 (by decide) (by decide) (by omega) hS.own)) rfl ?_
   rintro ⟨AB1, cB1⟩ _
   obtain ⟨B1, hB1⟩ : ∃ Z, Z = B ++ nbits 1 1 := ⟨_, rfl⟩
   have hB1l : B1.length = B.length + 1 := by rw [hB1, List.length_append]; rfl
   refine s_ents (fun _ h => by rw [← hB1] at h; exact h) ?_
   refine s_end ?_
   refine f_then ?_
   refine c_seq ?_
   refine c_reg ?_
   refine sq (rd_move rfl) rfl ?_
   refine sq (rd_move rfl) rfl ?_
   refine sq (rd_conv ⟨_, I3⟩ I118 rfl (u64_nat id).symm) rfl ?_
   refine sx (ef_call rfl rfl K91 (fun _ e => by cases e; rfl) [.blk bw _ _, .row 5 _ _ _ _ _] _ (.refl _) _ _ _ (fun w hS => by exact c91 w bw AB1 cB1 B1 (IntKind.u64.wrap id).toNat 31 (by decide) (by have := wrap_u64_range id; omega) (by omega) hS.own)) rfl ?_
   rintro ⟨AB2, cB2⟩ _
   obtain ⟨B2, hB2⟩ : ∃ Z, Z = B1 ++ nbits (IntKind.u64.wrap id).toNat 31 := ⟨_, rfl⟩
   have hB2l : B2.length = B1.length + 31 := by rw [hB2, List.length_append]; exact congrArg _ (nbits_len _ _)
   refine s_ents (fun _ h => by rw [← hB2] at h; exact h) ?_
   have hB2 : B2 = B1 ++ sbits id 31 := hB2
   refine s_end ?_
   refine f_then ?_
   refine c_seq ?_
   refine c_reg ?_
   refine sq (rd_move rfl) rfl ?_
   refine sq (rd_move rfl) rfl ?_
   refine sq ((by first | exact rd_notd rfl | exact rd_not rfl)) rfl ?_
   refine se (ef_pure rfl rfl K82 rfl (by exact c82 _)) rfl ?_
   refine sq (rd_conv ⟨_, I2⟩ I118 rfl (u64_nat (flg (!hasR rn id))).symm) rfl ?_
   refine sx (ef_call rfl rfl K91 (fun _ e => by cases e; rfl) [.blk bw _ _, .row 5 _ _ _ _ _] _ (.refl _) _ _ _ (fun w hS => by exact c91 w bw AB2 cB2 B2 (IntKind.u64.wrap (flg (!hasR rn id))).toNat 1 (by decide) (by have := wrap_u64_range (flg (!hasR rn id)); omega) (by omega) hS.own)) rfl ?_
   rintro ⟨AB3, cB3⟩ _
   obtain ⟨B3, hB3⟩ : ∃ Z, Z = B2 ++ nbits (IntKind.u64.wrap (flg (!hasR rn id))).toNat 1 := ⟨_, rfl⟩
   have hB3l : B3.length = B2.length + 1 := by rw [hB3, List.length_append]; rfl
   refine s_ents (fun _ h => by rw [← hB3] at h; exact h) ?_
   refine s_end ?_
   refine f_then ?_
   refine c_seq ?_
   refine c_seq ?_
   refine c_reg ?_
   refine sq (rd_move rfl) rfl ?_
   refine sq ((by first | exact rd_notd rfl | exact rd_not rfl)) rfl ?_
   refine s_end ?_
   refine f_then ?_
   refine c_cond rfl (fun h68 => ?_) (fun h68 => ?_)
   ·refine c_exit ?_
    refine f_then_x ?_
    refine f_blk_x ?_
    refine f_then ?_
    refine c_reg ?_
    refine sq (rd_add rfl rfl (by first | exact wrap_i64 (by omega) | exact rfl)) rfl ?_
    refine sq (rd_move rfl) rfl ?_
    refine s_end ?_
    have e1 : (bs ++ entsB nf fl rb rn (ids.take (k + 1))) = B3 := by
     rw [entsB_take hid, ← List.append_assoc, ← hB, entB, if_neg hne, hB3, hB2, hB1, bit1, nbits_one]
     have h69 : hasR rn id = false := by simpa using h68
     simp [h69]
    
    refine f_front (.blk b4 _ _) (by repeat constructor) ?_
    refine f_front (.row 84 _ A2 _ c2 _) (by repeat constructor) ?_
    refine f_front (.row 3 _ A3 _ c3 _) (by repeat constructor) ?_
    refine f_front (.row 5 _ _ _ _ _) (by repeat constructor) ?_
    refine f_front (.blk bw _ _) (by repeat constructor) ?_
    refine f_again ((k + 1, AB3, cB3)) (⟨by omega, by (try dsimp only); rw [e1]; omega⟩) (by show _ - (k + 1) < _ - k; omega) (by repeat constructor) (fun _ h => by (try dsimp only); rw [e1]; exact h.sb)
   ·refine c_skip ?_
    refine f_then ?_
    refine c_seq ?_
    have hlb := fndR_len hNb id
    have hln := fndR_len hN id
    refine c_know (fun w hS => Fld.plain hxb hS (by repeat constructor)) (fun hpb => ?_)
    refine c_know (fun w hS => Fld.plain hxn hS (by repeat constructor)) (fun hpn => ?_)
    refine c_reg ?_
    refine sq (rd_field F84_1 rfl) rfl ?_
    refine sq (rd_ldb C82 rfl (by repeat constructor) rfl) rfl ?_
    refine sq (rd_len S82 rfl rfl) rfl ?_
    refine sq (rd_move rfl) rfl ?_
    refine s_end ?_
    refine f_then ?_
    refine c_block ?_
    refine c_keep (L' := [(27, _), (1, _), (2, _), (3, _), (4, _), (25, _), (26, _), (28, _), (29, _), (30, _), (10, _), (32, _), (33, _), (34, _), (35, _), (31, _), (36, _), (37, _), (11, _), (12, _), (39, _), (40, _), (41, _), (42, _), (38, _), (43, _), (44, _), (13, _), (14, _), (45, _), (46, _), (47, _), (48, _), (49, _), (50, _), (51, _), (52, _), (53, _), (54, _), (55, _), (57, _), (58, _), (59, _), (61, _), (62, _), (63, _), (64, _), (65, _), (67, _), (68, _), (69, _), (70, _), (71, _), (72, _)]) (by repeat constructor) ?_
    refine c_for (α := Nat × Option Addr × Nat) (fun ⟨i, A5, c5⟩ => i ≤ nf ∧ (B3 ++ fieldsB fl (fndR nf rb id) (fndR nf rn id) i).length ≤ B3.length + 33 * i) (fun ⟨i, A5, c5⟩ => [.blk bw [.slice A5 (pack (B3 ++ fieldsB fl (fndR nf rb id) (fndR nf rn id) i)).length c5, .int .i64 (((B3 ++ fieldsB fl (fndR nf rb id) (fndR nf rn id) i)).length : Int)] 94, .row 5 1 A5 (pack (B3 ++ fieldsB fl (fndR nf rb id) (fndR nf rn id) i)).length c5 (u8s (pack (B3 ++ fieldsB fl (fndR nf rb id) (fndR nf rn id) i)))]) [.blk b13 _ _, fldE xn _, .blk b11 _ _, fldE xb _, .row 3 _ A3 _ c3 _, .row 84 _ A2 _ c2 _, .blk b4 _ _] (fun ⟨i, A5, c5⟩ => [(72, .int .i64 (i : Int))]) [(27, _), (1, _), (2, _), (3, _), (4, _), (25, _), (26, _), (28, _), (29, _), (30, _), (10, _), (32, _), (33, _), (34, _), (35, _), (31, _), (36, _), (37, _), (11, _), (12, _), (39, _), (40, _), (41, _), (42, _), (38, _), (43, _), (44, _), (13, _), (14, _), (45, _), (46, _), (47, _), (48, _), (49, _), (50, _), (51, _), (52, _), (53, _), (54, _), (55, _), (57, _), (58, _), (59, _), (61, _), (62, _), (63, _), (64, _), (65, _), (67, _), (68, _), (69, _), (70, _), (71, _)] (fun ⟨i, A5, c5⟩ => nf - i) ((0, AB3, cB3)) (⟨Nat.zero_le _, by simp [fieldsB]⟩) (by repeat constructor) (fun _ h => by (try dsimp only); rw [show (B3 ++ fieldsB fl (fndR nf rb id) (fndR nf rn id) 0) = B3 from by simp [fieldsB]]; exact h) ?_
    rintro ⟨i, A5, c5⟩ ⟨hi, hil⟩
    obtain ⟨C, hC⟩ : ∃ C, C = (B3 ++ fieldsB fl (fndR nf rb id) (fndR nf rn id) i) := ⟨_, rfl⟩
    rw [← hC] at hil
    refine c_ents (fun _ h => by (try dsimp only at h); rw [← hC] at h; exact h) ?_
    refine c_seq ?_
    refine c_reg ?_
    refine sq (rd_lss rfl rfl) rfl ?_
    refine s_end ?_
    refine f_then ?_
    refine c_seq ?_
    refine c_if rfl (fun h73 => ?_) (fun h73 => ?_)
    ·have hin : i < nf := by omega
     obtain ⟨x, hx⟩ : ∃ x, (fndR nf rn id)[i]? = some x := ⟨(fndR nf rn id)[i]'(by rw [fndR_len hN]; exact hin), by simp⟩
     obtain ⟨z, hz⟩ : ∃ z, (fndR nf rb id)[i]? = some z := ⟨(fndR nf rb id)[i]'(by rw [fndR_len hNb]; exact hin), by simp⟩
     refine c_skip ?_
     refine f_then ?_
     refine c_seq ?_
     refine c_block ?_
     refine c_seq ?_
     refine c_reg ?_
     refine sq (rd_move rfl) rfl ?_
     refine sq (rd_index S82 rfl rfl hpn (by omega) (by omega)) rfl ?_
     refine sq (rd_fld (k := i) C2 hxn (by repeat constructor) (by simp only [Int.toNat_natCast, Nat.mul_one]; rfl) hx) rfl ?_
     refine sq (rd_assign rfl) rfl ?_
     refine sq (rd_assign rfl) rfl ?_
     refine s_end ?_
     refine f_then ?_
     refine c_seq ?_
     refine c_reg ?_
     refine sq (rd_move rfl) rfl ?_
     refine sq (rd_move rfl) rfl ?_
     refine sq (rd_field F84_1 rfl) rfl ?_
     refine sq (rd_ldb C82 rfl (by repeat constructor) rfl) rfl ?_
     refine sq (rd_move rfl) rfl ?_
     refine sq (rd_index S82 rfl rfl hpb (by omega) (by omega)) rfl ?_
     refine sq (rd_fld (k := i) C2 hxb (by repeat constructor) (by simp only [Int.toNat_natCast, Nat.mul_one]; rfl) hz) rfl ?_
     refine sq (rd_neq rfl rfl) rfl ?_
     refine se (ef_pure rfl rfl K82 rfl (by exact c82 _)) rfl ?_
     refine sq (rd_conv ⟨_, I2⟩ I118 rfl (u64_nat (flg (decide (x ≠ z)))).symm) rfl ?_
     refine sx (ef_call rfl rfl K91 (fun _ e => by cases e; rfl) [.blk bw _ _, .row 5 _ _ _ _ _] _ (.refl _) _ _ _ (fun w hS => by exact c91 w bw A5 c5 C (IntKind.u64.wrap (flg (decide (x ≠ z)))).toNat 1 (by decide) (by have := wrap_u64_range (flg (decide (x ≠ z))); omega) (by omega) hS.own)) rfl ?_
     rintro ⟨AC1, cC1⟩ _
     obtain ⟨C1, hC1⟩ : ∃ Z, Z = C ++ nbits (IntKind.u64.wrap (flg (decide (x ≠ z)))).toNat 1 := ⟨_, rfl⟩
     have hC1l : C1.length = C.length + 1 := by rw [hC1, List.length_append]; rfl
     refine s_ents (fun _ h => by rw [← hC1] at h; exact h) ?_
     refine s_end ?_
     refine f_then ?_
     refine c_seq ?_
     refine c_reg ?_
     refine sq (rd_move rfl) rfl ?_
     refine sq (rd_field F84_1 rfl) rfl ?_
     refine sq (rd_ldb C82 rfl (by repeat constructor) rfl) rfl ?_
     refine sq (rd_move rfl) rfl ?_
     refine sq (rd_index S82 rfl rfl hpb (by omega) (by omega)) rfl ?_
     refine sq (rd_fld (k := i) C2 hxb (by repeat constructor) (by simp only [Int.toNat_natCast, Nat.mul_one]; rfl) hz) rfl ?_
     refine sq (rd_neq rfl rfl) rfl ?_
     refine sq (rd_move rfl) rfl ?_
     refine s_split (d := 95) rfl (fun g95_1 => ?_) (fun g95_1 => ?_)
     ·try have g95_1p := of_decide_eq_true g95_1
      refine sg1 (fun a hA => wanted_yes hA rfl rfl rfl g95_1) (rd_move rfl) rfl ?_
      refine sg1 (fun a hA => wanted_yes hA rfl rfl rfl g95_1) (rd_field F78_1 rfl) rfl ?_
      refine sg1 (fun a hA => wanted_yes hA rfl rfl rfl g95_1) (rd_ldb C3 rfl (by repeat constructor) rfl) rfl ?_
      refine sg1 (fun a hA => wanted_yes hA rfl rfl rfl g95_1) (rd_neq rfl rfl) rfl ?_
      refine sq (rd_pick_tt rfl g95_1 rfl) rfl ?_
      refine s_end ?_
      refine f_then ?_
      refine c_cond rfl (fun h100 => ?_) (fun h100 => ?_)
      ·refine c_reg ?_
       refine sq (rd_move rfl) rfl ?_
       refine sq (rd_move rfl) rfl ?_
       refine sx (ef_call rfl rfl K92 (fun _ e => by cases e; rfl) [.blk bw _ _, .row 5 _ _ _ _ _] _ (.refl _) _ _ _ (fun w hS => by exact c92 w bw AC1 cC1 C1 x 32 (by decide) (by omega) hS.own)) rfl ?_
       rintro ⟨AC2, cC2⟩ _
       obtain ⟨C2, hC2⟩ : ∃ Z, Z = C1 ++ sbits x 32 := ⟨_, rfl⟩
       have hC2l : C2.length = C1.length + 32 := by rw [hC2, List.length_append]; exact congrArg _ (nbits_len _ _)
       refine s_ents (fun _ h => by rw [← hC2] at h; exact h) ?_
       refine s_end ?_
       refine f_blk ?_
       refine f_then ?_
       refine c_reg ?_
       refine sq (rd_add rfl rfl (by first | exact wrap_i64 (by omega) | exact rfl)) rfl ?_
       refine sq (rd_move rfl) rfl ?_
       refine s_end ?_
       have e2 : (B3 ++ fieldsB fl (fndR nf rb id) (fndR nf rn id) (i + 1)) = C2 := by
        rw [fieldsB_succ, ← List.append_assoc, ← hC]
        unfold fieldB
        rw [getD_of hx, getD_of hz, hC2, hC1, bit1, if_pos ⟨of_decide_eq_true g95_1, by simpa using h100⟩]
        simp
       refine f_again ((i + 1, AC2, cC2)) (⟨by omega, by (try dsimp only); rw [e2]; omega⟩) (by show _ - (i + 1) < _ - i; omega) (by repeat constructor) (fun _ h => by (try dsimp only); rw [e2]; exact h.sb)
      ·refine c_skip ?_
       refine f_blk ?_
       refine f_then ?_
       refine c_reg ?_
       refine sq (rd_add rfl rfl (by first | exact wrap_i64 (by omega) | exact rfl)) rfl ?_
       refine sq (rd_move rfl) rfl ?_
       refine s_end ?_
       have e2 : (B3 ++ fieldsB fl (fndR nf rb id) (fndR nf rn id) (i + 1)) = C1 := by
        rw [fieldsB_succ, ← List.append_assoc, ← hC]
        unfold fieldB
        rw [getD_of hx, getD_of hz, hC1, bit1, if_neg (fun h => by have := h.2; simp [this] at h100)]
       refine f_again ((i + 1, AC1, cC1)) (⟨by omega, by (try dsimp only); rw [e2]; omega⟩) (by show _ - (i + 1) < _ - i; omega) (by repeat constructor) (fun _ h => by (try dsimp only); rw [e2]; exact h.sb)
     ·try have g95_1p := of_decide_eq_false g95_1
      refine sg0 (fun a hA => wanted_no hA rfl rfl rfl g95_1 rfl) rfl ?_
      refine sg0 (fun a hA => wanted_no hA rfl rfl rfl g95_1 rfl) rfl ?_
      refine sg0 (fun a hA => wanted_no hA rfl rfl rfl g95_1 rfl) rfl ?_
      refine sg0 (fun a hA => wanted_no hA rfl rfl rfl g95_1 rfl) rfl ?_
      refine sq (rd_pick_ff rfl g95_1 rfl) rfl ?_
      refine s_end ?_
      refine f_then ?_
      refine c_lit_f rfl ?_
      refine c_skip ?_
      refine f_blk ?_
      refine f_then ?_
      refine c_reg ?_
      refine sq (rd_add rfl rfl (by first | exact wrap_i64 (by omega) | exact rfl)) rfl ?_
      refine sq (rd_move rfl) rfl ?_
      refine s_end ?_
      have e2 : (B3 ++ fieldsB fl (fndR nf rb id) (fndR nf rn id) (i + 1)) = C1 := by
       rw [fieldsB_succ, ← List.append_assoc, ← hC]
       unfold fieldB
       rw [getD_of hx, getD_of hz, hC1, bit1, if_neg (fun h => of_decide_eq_false g95_1 h.1)]
      refine f_again ((i + 1, AC1, cC1)) (⟨by omega, by (try dsimp only); rw [e2]; omega⟩) (by show _ - (i + 1) < _ - i; omega) (by repeat constructor) (fun _ h => by (try dsimp only); rw [e2]; exact h.sb)
    ·refine c_exit ?_
     refine f_then_x ?_
     refine f_then_x ?_
     refine f_blk_x ?_
     refine f_blk ?_
     refine f_then ?_
     refine c_reg ?_
     refine sq (rd_add rfl rfl (by first | exact wrap_i64 (by omega) | exact rfl)) rfl ?_
     refine sq (rd_move rfl) rfl ?_
     refine s_end ?_
     have hin : i = nf := by omega
     have e1 : (bs ++ entsB nf fl rb rn (ids.take (k + 1))) = C := by
      rw [entsB_take hid, ← List.append_assoc, ← hB, entB, if_neg hne, hC, hin, hB3, hB2, hB1, bit1, nbits_one]
      have h69 : hasR rn id = true := by simpa using h68
      simp [h69]
     
     refine f_front (.blk b4 _ _) (by repeat constructor) ?_
     refine f_front (.row 84 _ A2 _ c2 _) (by repeat constructor) ?_
     refine f_front (.row 3 _ A3 _ c3 _) (by repeat constructor) ?_
     refine f_front (.row 5 _ _ _ _ _) (by repeat constructor) ?_
     refine f_front (.blk bw _ _) (by repeat constructor) ?_
     refine f_again ((k + 1, A5, c5)) (⟨by omega, by (try dsimp only); rw [e1]; omega⟩) (by show _ - (k + 1) < _ - k; omega) (by repeat constructor) (fun _ h => by (try dsimp only); rw [e1]; exact h.sb)
 ·have hkn : k = ids.length := by omega
  refine c_exit ?_
  refine f_then_x ?_
  refine f_then_x ?_
  refine f_blk_x ?_
  refine f_then ?_
  refine c_reg ?_
  refine sq (rd_move rfl) rfl ?_
  refine sx (ef_call rfl rfl K91 (fun _ e => by cases e; rfl) [.blk bw _ _, .row 5 _ _ _ _ _] _ (.refl _) _ _ _ (fun w hS => by exact c91 w bw A4 c4 B 0 1 (by decide) (by decide) (by omega) hS.own)) rfl ?_
  rintro ⟨A6, c6⟩ _
  refine s_end ?_
  refine f_end rfl .nil ?_
  refine fun w' hS => ⟨_, rfl, (A6, c6), rfl, trivial, ?_⟩
  have e9 : bs ++ writeB nf fl rb rn = B ++ nbits 0 1 := by
   rw [hB, hkn, List.take_length, nbits_zero, writeB, ← List.append_assoc, idsL, ← hyl, ← hids]
  dsimp only
  rw [e9]
  exact St.sub (E' := [_, _]) hS (by repeat (first | exact .refl _ | apply List.Sublist.cons_cons | apply List.Sublist.cons))

end Go.Proofs.YtfccnoccfhgcbaaGreatDoor
namespace Go.Proofs.YtfccnoccfhgcbaaGreatDoor
open Go Go.RowKit

theorem fieldB_len (fl : Int) (was is : List Int) (k : Nat) : (fieldB fl was is k).length ≤ 33 := by
 unfold fieldB
 split
 ·simp [sbits_len]
 ·simp
theorem fieldsB_len (fl : Int) (was is : List Int) (k : Nat) : (fieldsB fl was is k).length ≤ 33 * k := by
 induction k with
 | zero => simp [fieldsB]
 | succ k ih =>
  rw [fieldsB_succ, List.length_append]
  have := fieldB_len fl was is k
  omega
theorem entB_len (nf : Nat) (fl : Int) (rb rn : List RW) (id : Int) : (entB nf fl rb rn id).length ≤ 33 + 33 * nf := by
 unfold entB
 split
 ·simp
 ·have := fieldsB_len fl (fndR nf rb id) (fndR nf rn id) nf
  split
  ·simp [sbits_len]; omega
  ·simp [sbits_len]
theorem idsL_len (rb rn : List RW) : (idsL rb rn).length ≤ rb.length + rn.length := by
 unfold idsL
 have h := compact_len (sortI ((rb ++ rn).map (·.1))) (sortI ((rb ++ rn).map (·.1))).length
 rw [List.take_length] at h
 have h2 : (sortI ((rb ++ rn).map (·.1))).length = rb.length + rn.length := by simp [sortI]
 omega
theorem entsB_len (nf : Nat) (fl : Int) (rb rn : List RW) : ∀ ids : List Int, (entsB nf fl rb rn ids).length ≤ ids.length * (33 + 33 * nf)
 | [] => by simp [entsB]
 | id :: ids => by
  have h1 := entsB_len nf fl rb rn ids
  have h2 := entB_len nf fl rb rn id
  have e : entsB nf fl rb rn (id :: ids) = entB nf fl rb rn id ++ entsB nf fl rb rn ids := by simp [entsB]
  rw [e, List.length_append, List.length_cons, Nat.add_mul]
  omega
theorem writeB_len (nf : Nat) (fl : Int) (rb rn : List RW) : (writeB nf fl rb rn).length ≤ (rb.length + rn.length) * (33 + 33 * nf) + 1 := by
 have h1 := entsB_len nf fl rb rn (idsL rb rn)
 have h2 := Nat.mul_le_mul_right (33 + 33 * nf) (idsL_len rb rn)
 unfold writeB
 rw [List.length_append]
 simp only [List.length_cons, List.length_nil]
 omega
theorem RowsAt.taken {w0 w : World} {M : Nat → Prop} {Ec Er : List Ent} {fp : Nat → Prop} {A : Option Addr} {n : Nat} {hd : List (Option Addr × Nat)} {rs : List RW} (hS : St w0 M (Ec ++ Er) w) (hm : rowsE fp A n hd rs ∈ Er) : RowsAt w (fpOf Ec) A n hd rs := by
 refine RowsAt.of hS (List.mem_append_right _ hm) _ fun b hb ⟨e, he, hfp⟩ => ?_
 exact (List.pairwise_append.1 hS.pair).2.2 e he _ hm b hfp hb
theorem plRows_len (ps : List PL) : ∀ r ∈ ps.map PL.row, r.2.length = 14 := fun r hr => by
 obtain ⟨p, _, rfl⟩ := List.mem_map.1 hr
 rfl
theorem shRows_len (ss : List SH) : ∀ r ∈ ss.map SH.row, r.2.length = 10 := fun r hr => by
 obtain ⟨p, _, rfl⟩ := List.mem_map.1 hr
 rfl
/-- What changed, in bits; and in bytes. -/
def deltaB (ps : List PL) (ss : List SH) (qs : List PL) (ts : List SH) : List Bool := writeB 14 6 (ps.map PL.row) (qs.map PL.row) ++ writeB 10 9 (ss.map SH.row) (ts.map SH.row)
def deltaL (ps : List PL) (ss : List SH) (qs : List PL) (ts : List SH) : List Nat := if rightS ps ss = true ∧ rightS qs ts = true then pack (deltaB ps ss qs ts) else []
theorem deltaL_no {ps : List PL} {ss : List SH} {qs : List PL} {ts : List SH} (h : rightS ps ss = false ∨ rightS qs ts = false) : deltaL ps ss qs ts = [] := by
 unfold deltaL
 rw [if_neg]
 rintro ⟨h1, h2⟩
 rcases h with h | h
 ·rw [h] at h1; cases h1
 ·rw [h] at h2; cases h2
theorem deltaL_yes {ps : List PL} {ss : List SH} {qs : List PL} {ts : List SH} (h1 : rightS ps ss = true) (h2 : rightS qs ts = true) : deltaL ps ss qs ts = pack (deltaB ps ss qs ts) := if_pos ⟨h1, h2⟩
end Go.Proofs.YtfccnoccfhgcbaaGreatDoor
namespace Go.Proofs.YtfccnoccfhgcbaaGreatDoor
open Go Go.RowKit
theorem K20 : callTy Tryz.prog 20 := by unfold callTy; kernel_rfl
theorem St94 : structTy Tryz.prog 94 [(0, 1), (1, 1)] [.slice none 0 0, .int .i64 0] := ⟨by unfold zeroTy; kernel_rfl, _, Tryz.underlying94, fun w => by kernel_rfl⟩
theorem K49 : callTy Tryz.prog 49 := by unfold callTy; kernel_rfl
theorem K50 : callTy Tryz.prog 50 := by unfold callTy; kernel_rfl
theorem c23 (w : World) (A B A' B' : Option Addr) (n m n' m' c d c' d' : Nat) (ps qs : List PL) (ss ts : List SH) (hG : Gl w none') (h1 : Sl w none' A n 15 (flat PL.enc ps)) (h2 : Sl w none' B m 11 (flat SH.enc ss)) (h3 : Sl w none' A' n' 15 (flat PL.enc qs)) (h4 : Sl w none' B' m' 11 (flat SH.enc ts)) (hn : n ≤ 1000) (hm : m ≤ 1000) (hn' : n' ≤ 1000) (hm' : m' ≤ 1000) (hS : St w (fpOf []) [] w) : Calls Tryz.prog 23 [.agg #[.slice A n c, .slice B m d], .agg #[.slice A' n' c', .slice B' m' d']].toArray w (RtE fun v w' => ∃ x : Option Addr × Nat, v = (fun x => .slice x.1 (deltaL ps ss qs ts).length x.2) x ∧ (fun _ => True) x ∧ St w (fpOf []) ((fun x => [.row 5 1 x.1 (deltaL ps ss qs ts).length x.2 (u8s (deltaL ps ss qs ts))]) x) w') := by
 refine enter Tryz.func23 rfl Tryz.ntmps23 rfl hS ?_
 refine c_seq ?_
 refine c_reg ?_
 refine sx (ef_box rfl rfl rfl) rfl ?_
 rintro b2 hb2
 refine sx (ef_box rfl rfl rfl) rfl ?_
 rintro b3 hb3
 refine sq (rd_assign rfl) rfl ?_
 refine s_end ?_
 refine f_then ?_
 refine c_seq ?_
 refine c_seq ?_
 have l1 : ps.length = n := by have := h1.len; rw [flat_len PL.enc_len] at this; omega
 have l2 : ss.length = m := by have := h2.len; rw [flat_len SH.enc_len] at this; omega
 have l3 : qs.length = n' := by have := h3.len; rw [flat_len PL.enc_len] at this; omega
 have l4 : ts.length = m' := by have := h4.len; rw [flat_len SH.enc_len] at this; omega
 refine c_reg ?_
 refine sq (rd_ldsb A25 rfl (by repeat constructor) (by first | exact GetR.all _ | repeat constructor)) rfl ?_
 refine se (ef_pw rfl rfl K20 rfl (fun w hS => by exact c20 w A B n m c d ps ss (hG.hand (Ec := []) hS) (h1.hand (Ec := []) hS (by decide)) (h2.hand (Ec := []) hS (by decide)) (by omega) (by omega))) rfl ?_
 refine sq ((by first | exact rd_notd rfl | exact rd_not rfl)) rfl ?_
 refine sq (rd_move rfl) rfl ?_
 refine s_split (d := 9) rfl (fun g9 => ?_) (fun g9 => ?_)
 ·try have g9p := of_decide_eq_true g9
  refine sg0 (fun a hA => wanted_no hA rfl rfl rfl g9 rfl) rfl ?_
  refine sg0 (fun a hA => wanted_no hA rfl rfl rfl g9 rfl) rfl ?_
  refine sg0 (fun a hA => wanted_no hA rfl rfl rfl g9 rfl) rfl ?_
  refine sq (rd_pick_tt rfl g9 rfl) rfl ?_
  refine s_end ?_
  refine f_then ?_
  refine c_lit_t rfl ?_
  refine c_seq ?_
  refine c_reg ?_
  refine sq (rd_assign rfl) rfl ?_
  refine s_end ?_
  refine f_then ?_
  refine c_ret ?_
  refine f_then_r ?_
  refine f_ret rfl (.tmp rfl .nil) ?_
  refine fun w' hS => ⟨_, rfl, (none, 0), ?_, trivial, ?_⟩
  ·rw [deltaL_no (.inl (by simpa using g9))]; rfl
  ·rw [deltaL_no (.inl (by simpa using g9))]; exact (hS.sub (E' := []) (List.nil_sublist _)).nilrow 5 1
 ·try have g9p := of_decide_eq_false g9
  refine sg1 (fun a hA => wanted_yes hA rfl rfl rfl g9) (rd_ldsb A25 rfl (by repeat constructor) (by first | exact GetR.all _ | repeat constructor)) rfl ?_
  refine seg (fun a hA => wanted_yes hA rfl rfl rfl g9) (ef_pw rfl rfl K20 rfl (fun w hS => by exact c20 w A' B' n' m' c' d' qs ts (hG.hand (Ec := []) hS) (h3.hand (Ec := []) hS (by decide)) (h4.hand (Ec := []) hS (by decide)) (by omega) (by omega))) ?_
  refine sg1 (fun a hA => wanted_yes hA rfl rfl rfl g9) ((by first | exact rd_notd rfl | exact rd_not rfl)) rfl ?_
  refine sq (rd_pick_ff rfl g9 rfl) rfl ?_
  refine s_end ?_
  refine f_then ?_
  refine c_cond rfl (fun h13 => ?_) (fun h13 => ?_)
  ·refine c_seq ?_
   refine c_reg ?_
   refine sq (rd_assign rfl) rfl ?_
   refine s_end ?_
   refine f_then ?_
   refine c_ret ?_
   refine f_then_r ?_
   refine f_ret rfl (.tmp rfl .nil) ?_
   refine fun w' hS => ⟨_, rfl, (none, 0), ?_, trivial, ?_⟩
   ·rw [deltaL_no (.inr (by simpa using h13))]; rfl
   ·rw [deltaL_no (.inr (by simpa using h13))]; exact (hS.sub (E' := []) (List.nil_sublist _)).nilrow 5 1
  ·refine c_skip ?_
   refine f_then ?_
   refine c_seq ?_
   refine c_reg ?_
   refine sq (rd_build St94 rfl (by repeat constructor)) rfl ?_
   refine sx (ef_box rfl rfl rfl) rfl ?_
   rintro b15 hb15
   refine sq (rd_assign rfl) rfl ?_
   refine s_end ?_
   refine f_then ?_
   refine c_seq ?_
   refine c_nilrow 5 1 ?_
   refine c_front (.blk b15 _ _) (by repeat constructor) ?_
   refine c_regd [.blk b3 _ _, .blk b2 _ _] (.q 0 (.q 1 (.q 2 (.q 3 (.q 5 (.q 6 (.alt 4 (.alt 7 (.alt 8 .done .stop) .stop) .stop))))))) (by kernel_rfl) (by kernel_rfl) (by kernel_rfl) (by kernel_rfl) (fun _ h => h.sb) ?_
   refine dq rfl (rd_ldsbase (us := [.int .i64 14, .int .i64 6, .int .i64 8]) A78 rfl rfl hG.pl hG.no0) rfl ?_
   refine dq rfl (rd_move rfl) rfl ?_
   refine dq rfl (rd_field F25_0 rfl) rfl ?_
   refine dq rfl (rd_ldb C22 rfl (by repeat constructor) rfl) rfl ?_
   refine dq rfl (rd_field F25_0 rfl) rfl ?_
   refine dq rfl (rd_ldb C22 rfl (by repeat constructor) rfl) rfl ?_
   refine dx rfl rfl (ef_call rfl rfl K42 (fun _ e => by cases e; rfl) [] _ (.refl _) _ _ _ (fun w hS => by exact c42 w A n c ps (h1.hand hS (by decide)) (by omega) hS.own)) (fun _ _ _ h => h.sb) ?_ d_stop
   rintro ⟨A1, c1, h1d, f1⟩ _
   refine dx rfl rfl (ef_call rfl rfl K42 (fun _ e => by cases e; rfl) [] _ (.refl _) _ _ _ (fun w hS => by exact c42 w A' n' c' qs (h3.hand hS (by decide)) (by omega) hS.own)) (fun _ _ _ h => h.sb) ?_ d_stop
   rintro ⟨A2, c2, h2d, f2⟩ _
   refine d_front (.row 5 _ _ _ _ _) (by repeat constructor) ?_
   refine d_front (.blk b15 _ _) (by repeat constructor) ?_
   refine dx rfl rfl (ef_call rfl rfl K49 (fun _ e => by cases e; rfl) [.blk b15 _ _, .row 5 _ _ _ _ _] _ (.refl _) _ _ _ (fun w hS => by exact c49 w b15 none 0 [] 14 6 8 A1 A2 n c1 n' c2 h1d h2d _ _ (RowsAt.taken hS (by repeat constructor)) (RowsAt.taken hS (by repeat constructor)) (by decide) (plRows_len _) (plRows_len _) (by omega) (by omega) (by simp) hS.own)) (fun _ _ _ h => h.sb) ?_ d_stop
   rintro ⟨A5, c5⟩ _
   refine d_end ?_
   refine f_then ?_
   refine c_seq ?_
   have hw1 : (writeB 14 6 (ps.map PL.row) (qs.map PL.row)).length ≤ 10000000 := by
    have := writeB_len 14 6 (ps.map PL.row) (qs.map PL.row)
    simp only [List.length_map] at this
    omega
   refine c_regd [rowsE _ A2 _ h2d _, rowsE _ A1 _ h1d _, .blk b3 _ _, .blk b2 _ _] (.q 0 (.q 1 (.q 2 (.q 3 (.q 5 (.q 6 (.alt 4 (.alt 7 (.alt 8 .done .stop) .stop) .stop))))))) (by kernel_rfl) (by kernel_rfl) (by kernel_rfl) (by kernel_rfl) (fun _ h => h.sb) ?_
   refine dq rfl (rd_ldsbase (us := [.int .i64 10, .int .i64 9, .int .i64 64]) A78 rfl rfl hG.sh hG.no1) rfl ?_
   refine dq rfl (rd_move rfl) rfl ?_
   refine dq rfl (rd_field F25_1 rfl) rfl ?_
   refine dq rfl (rd_ldb C23 rfl (by repeat constructor) rfl) rfl ?_
   refine dq rfl (rd_field F25_1 rfl) rfl ?_
   refine dq rfl (rd_ldb C23 rfl (by repeat constructor) rfl) rfl ?_
   refine dx rfl rfl (ef_call rfl rfl K44 (fun _ e => by cases e; rfl) [] _ (.refl _) _ _ _ (fun w hS => by exact c44 w B m d ss (h2.hand hS (by decide)) (by omega) hS.own)) (fun _ _ _ h => h.sb) ?_ d_stop
   rintro ⟨A3, c3, h3d, f3⟩ _
   refine dx rfl rfl (ef_call rfl rfl K44 (fun _ e => by cases e; rfl) [] _ (.refl _) _ _ _ (fun w hS => by exact c44 w B' m' d' ts (h4.hand hS (by decide)) (by omega) hS.own)) (fun _ _ _ h => h.sb) ?_ d_stop
   rintro ⟨A4, c4, h4d, f4⟩ _
   refine d_front (.row 5 _ _ _ _ _) (by repeat constructor) ?_
   refine d_front (.blk b15 _ _) (by repeat constructor) ?_
   refine dx rfl rfl (ef_call rfl rfl K49 (fun _ e => by cases e; rfl) [.blk b15 _ _, .row 5 _ _ _ _ _] _ (.refl _) _ _ _ (fun w hS => by exact c49 w b15 A5 c5 (writeB 14 6 (ps.map PL.row) (qs.map PL.row)) 10 9 64 A3 A4 m c3 m' c4 h3d h4d _ _ (RowsAt.taken hS (by repeat constructor)) (RowsAt.taken hS (by repeat constructor)) (by decide) (shRows_len _) (shRows_len _) (by omega) (by omega) hw1 hS.own)) (fun _ _ _ h => h.sb) ?_ d_stop
   rintro ⟨A6, c6⟩ _
   refine d_end ?_
   refine f_then ?_
   refine c_seq ?_
   have hw2 : (deltaB ps ss qs ts).length ≤ 10000000 := by
    unfold deltaB
    have := writeB_len 14 6 (ps.map PL.row) (qs.map PL.row)
    have := writeB_len 10 9 (ss.map SH.row) (ts.map SH.row)
    simp only [List.length_map, List.length_append] at *
    omega
   refine c_reg ?_
   refine sq (rd_move rfl) rfl ?_
   refine sx (ef_call rfl rfl K50 (fun _ e => by cases e; rfl) [.blk b15 _ _, .row 5 _ _ _ _ _] _ (.refl _) _ _ _ (fun w hS => by exact c50 w b15 A6 c6 (deltaB ps ss qs ts) (by have := hw2; omega) hS.own)) rfl ?_
   rintro ⟨A7, c7⟩ _
   refine sq (rd_assign rfl) rfl ?_
   refine s_end ?_
   refine f_then ?_
   refine c_ret ?_
   refine f_ret rfl (.tmp rfl .nil) ?_
   have h9 := deltaL_yes (ps := ps) (ss := ss) (qs := qs) (ts := ts) (by simpa using g9) (by simpa using h13)
   exact fun w' hS => ⟨_, rfl, (A7, c7), by rw [h9]; rfl, trivial, by rw [h9]; exact St.sub (E' := [_]) hS (by repeat (first | exact .refl _ | apply List.Sublist.cons_cons | apply List.Sublist.cons))⟩

end Go.Proofs.YtfccnoccfhgcbaaGreatDoor
