/- What the laws on views share: each function of the program that they reach, what it computes; no conditions beyond those that each theorem states. -/
import Derived.Test.YtfccnoccfhgcbaaGreatDoorPkB
import Derived.Test.YtfccnoccfhgcbaaGreatDoorProg
set_option linter.unusedVariables false
set_option linter.unusedSimpArgs false
set_option maxRecDepth 20000
set_option maxHeartbeats 400000
namespace Go.Proofs.YtfccnoccfhgcbaaGreatDoor
open Go Go.RowKit
theorem c131 (w : World) (A : Option Addr) (cap n : Nat) (d : Array SN) (g : Nat) (cmp : SN → SN → Int) (hg : callTy Tryz.prog g) (hcmp : ∀ x y, Pu Tryz.prog g [.agg (SN.enc x).toArray, .agg (SN.enc y).toArray] (.int .i64 (cmp x y))) (hd : d.size = n) (hn : n ≤ 1000000) (a b pivot : Nat) (hap : a ≤ pivot) (hpb : pivot < b) (hb : b ≤ n) (hS : St w (fpOf [.row 64 4 A n cap (flat SN.enc d.toList)]) [.row 64 4 A n cap (flat SN.enc d.toList)] w) : Calls Tryz.prog 131 [.slice A n cap, .int .i64 (a : Int), .int .i64 (b : Int), .int .i64 (pivot : Int), .func (.func g) #[] #[]].toArray w (RtE fun v w' => ∃ x : Nat × Array SN, v = (fun x => .int .i64 (x.1 : Int)) x ∧ (fun x => Sort.partitionEqual (ltOf cmp) d a b pivot = x) x ∧ St w (fpOf [.row 64 4 A n cap (flat SN.enc d.toList)]) ((fun x => [.row 64 4 A n cap (flat SN.enc x.2.toList)]) x) w') := by
 refine enter Tryz.func131 rfl Tryz.ntmps131 rfl hS ?_
 refine c_seq ?_
 have hA0 : 0 < n → plainA A := fun h => ((row_know (List.mem_cons_self ..) w hS).2.2.2 h).1
 refine c_reg ?_
 refine sq (rd_assign rfl) rfl ?_
 refine s_end ?_
 refine f_then ?_
 refine c_meet2 (α := Unit) (fun x => True) (fun x => [.row 64 4 A n cap (flat SN.enc (Sort.swp d a pivot).toList)]) [] (fun x => []) [(0, _), (1, _), (2, _), (4, _), (10, _)] (by repeat constructor) [.row _ _ A n cap _] (fun _ h => h) ?_ ?_
 ·refine c_regd [] (.q 0 (.q 1 (.q 2 (.q 3 (.q 4 (.q 5 (.q 6 (.q 8 (.q 9 (.q 10 (.alt 7 (.alt 11 (.q 12 (.alt 13 (.q 14 (.alt 15 .done .stop)) .stop)) .stop) (.alt 11 (.alt 7 (.q 12 (.alt 13 (.q 14 (.alt 15 .done .stop)) .stop)) .stop) .stop)))))))))))) (by kernel_rfl) (by kernel_rfl) (by kernel_rfl) (by kernel_rfl) (fun _ h => h.sb) ?_
  refine dq rfl (rd_move rfl) rfl ?_
  refine dq rfl (rd_move rfl) rfl ?_
  refine dq rfl (rd_move rfl) rfl ?_
  refine dq rfl (rd_move rfl) rfl ?_
  refine dq rfl (rd_move rfl) rfl ?_
  refine dq rfl (rd_move rfl) rfl ?_
  refine dq rfl (rd_index S62 rfl rfl hA0 (by omega) (by omega)) rfl ?_
  refine dq rfl (rd_move rfl) rfl ?_
  refine dq rfl (rd_move rfl) rfl ?_
  refine dq rfl (rd_index S62 rfl rfl hA0 (by omega) (by omega)) rfl ?_
  refine de rfl rfl (ef_quiet (rd_ldsr A64 (by first | exact .head _) rfl (arr_part (f := SN.enc) SN.enc_len (i := pivot) (by first | omega | (simp only [swp_size, Array.size_setIfInBounds]; omega)))) rfl) (fun _ h => h.sb) ?_ ?_
  ·refine de rfl rfl (ef_quiet (rd_ldsr A64 (by first | exact .head _) rfl (arr_part (f := SN.enc) SN.enc_len (i := a) (by first | omega | (simp only [swp_size, Array.size_setIfInBounds]; omega)))) rfl) (fun _ h => h.sb) ?_ d_stop
   refine dq rfl (rd_index S62 rfl rfl hA0 (by omega) (by omega)) rfl ?_
   refine de rfl rfl (ef_storea SN.enc (a) Sz64 rfl rfl rfl SN.enc_len SN.enc_cells (by decide) (by omega) (by first | omega | (simp only [swp_size, Array.size_setIfInBounds]; omega))) (fun _ h => h.sb) ?_ d_stop
   refine dq rfl (rd_index S62 rfl rfl hA0 (by omega) (by omega)) rfl ?_
   refine de rfl rfl (ef_storea SN.enc (pivot) Sz64 rfl rfl rfl SN.enc_len SN.enc_cells (by decide) (by omega) (by first | omega | (simp only [swp_size, Array.size_setIfInBounds]; omega))) (fun _ h => h.sb) ?_ d_stop
   refine d_end ?_
   refine f_cut (()) (trivial) (by repeat constructor) (fun _ h => h.sb)
  refine de rfl rfl (ef_quiet (rd_ldsr A64 (by first | exact .head _) rfl (arr_part (f := SN.enc) SN.enc_len (i := a) (by first | omega | (simp only [swp_size, Array.size_setIfInBounds]; omega)))) rfl) (fun _ h => h.sb) ?_ ?_
  ·refine de rfl rfl (ef_quiet (rd_ldsr A64 (by first | exact .head _) rfl (arr_part (f := SN.enc) SN.enc_len (i := pivot) (by first | omega | (simp only [swp_size, Array.size_setIfInBounds]; omega)))) rfl) (fun _ h => h.sb) ?_ d_stop
   refine dq rfl (rd_index S62 rfl rfl hA0 (by omega) (by omega)) rfl ?_
   refine de rfl rfl (ef_storea SN.enc (a) Sz64 rfl rfl rfl SN.enc_len SN.enc_cells (by decide) (by omega) (by first | omega | (simp only [swp_size, Array.size_setIfInBounds]; omega))) (fun _ h => h.sb) ?_ d_stop
   refine dq rfl (rd_index S62 rfl rfl hA0 (by omega) (by omega)) rfl ?_
   refine de rfl rfl (ef_storea SN.enc (pivot) Sz64 rfl rfl rfl SN.enc_len SN.enc_cells (by decide) (by omega) (by first | omega | (simp only [swp_size, Array.size_setIfInBounds]; omega))) (fun _ h => h.sb) ?_ d_stop
   refine d_end ?_
   refine f_cut (()) (trivial) (by repeat constructor) (fun _ h => h.sb)
  exact d_stop
 ·rintro _ _
  refine c_seq ?_
  refine c_reg ?_
  refine sq (rd_move rfl) rfl ?_
  refine sq (rd_addn (a) (1) rfl rfl rfl rfl (by omega)) rfl ?_
  refine sq (rd_move rfl) rfl ?_
  refine sq (rd_subn (b) (1) rfl rfl rfl rfl (by omega) (by omega)) rfl ?_
  refine sq (rd_assign rfl) rfl ?_
  refine sq (rd_assign rfl) rfl ?_
  refine s_end ?_
  refine f_then ?_
  refine c_seq ?_
  refine c_block ?_
  refine c_keep (L' := [(0, _), (1, _), (4, _), (10, _), (11, _), (12, _)]) (by repeat constructor) ?_
  refine c_for (α := Nat × Nat × Array SN) (fun ⟨i, j, dk⟩ => a + 1 ≤ i ∧ i ≤ j + 1 ∧ j ≤ b - 1 ∧ dk.size = n ∧ Sort.partitionEqual (ltOf cmp) d a b pivot = Sort.partEqLoop (ltOf cmp) a i j dk) (fun ⟨i, j, dk⟩ => [.row 64 4 A n cap (flat SN.enc dk.toList)]) [] (fun ⟨i, j, dk⟩ => [(11, .int .i64 (i : Int)), (12, .int .i64 (j : Int))]) [(0, _), (1, _), (4, _), (10, _)] (fun ⟨i, j, dk⟩ => j + 1 - i) ((a + 1, b - 1, Sort.swp d a pivot)) (⟨by omega, by omega, by omega, by simpa using hd, rfl⟩) (by repeat constructor) (fun _ h => h) ?_
  rintro ⟨i, j, dk⟩ ⟨ho1, ho2, ho3, hdk, hoq⟩
  refine c_block ?_
  refine c_meet2 (α := Nat) (fun u => i ≤ u ∧ u ≤ j + 1 ∧ Sort.scanUp (fun x => !(ltOf cmp) dk[a]! x) dk j (i) = u ∧ (u ≤ j → (fun x => !(ltOf cmp) dk[a]! x) dk[u]! = false)) (fun u => []) [.row _ _ A n cap _] (fun u => [(11, .int .i64 (u : Int))]) [(12, _), (0, _), (1, _), (4, _), (10, _)] (by repeat constructor) [] (fun _ h => h) ?_ ?_
  ·refine c_block ?_
   refine c_keep (L' := [(11, _), (12, _), (0, _), (1, _), (4, _), (10, _)]) (by repeat constructor) ?_
   refine c_for (α := Nat) (fun u => i ≤ u ∧ u ≤ j + 1 ∧ Sort.scanUp (fun x => !(ltOf cmp) dk[a]! x) dk j (i) = Sort.scanUp (fun x => !(ltOf cmp) dk[a]! x) dk j u) (fun u => []) [.row _ _ A n cap _] (fun u => [(11, .int .i64 (u : Int))]) [(12, _), (0, _), (1, _), (4, _), (10, _)] (fun u => j + 1 - u) (i) (⟨by omega, by omega, rfl⟩) (by repeat constructor) (fun _ h => h) ?_
   rintro u ⟨hs1, hs2, hsq⟩
   refine c_seq ?_
   refine c_seq ?_
   refine c_regd [.row _ _ A n cap _] (.q 0 (.q 1 (.q 2 (.q 3 (.q 4 (.q 5 (.q 6 (.q 7 (.q 8 (.q 9 (.q 10 (.q 11 (.q 12 (.alt 13 (.q 14 (.q 15 (.q 16 .done))) .stop)))))))))))))) (by kernel_rfl) (by kernel_rfl) (by kernel_rfl) (by kernel_rfl) (fun _ h => h.sb) ?_
   refine dq rfl (rd_move rfl) rfl ?_
   refine dq rfl (rd_move rfl) rfl ?_
   refine dq rfl (rd_leq rfl rfl) rfl ?_
   refine dq rfl (rd_move rfl) rfl ?_
   refine d_split (d := 34) rfl (fun g34 => ?_) (fun g34 => ?_)
   ·try have g34p := of_decide_eq_true g34
    refine dq1 rfl (fun a hA => wanted_yes hA rfl rfl rfl g34) (rd_move rfl) rfl ?_
    refine dq1 rfl (fun a hA => wanted_yes hA rfl rfl rfl g34) (rd_move rfl) rfl ?_
    refine dq1 rfl (fun a hA => wanted_yes hA rfl rfl rfl g34) (rd_move rfl) rfl ?_
    refine dq1 rfl (fun a hA => wanted_yes hA rfl rfl rfl g34) (rd_index S62 rfl rfl hA0 (by omega) (by omega)) rfl ?_
    refine dq1 rfl (fun a hA => wanted_yes hA rfl rfl rfl g34) (rd_ldsr A64 (by first | exact .head _) rfl (arr_part (f := SN.enc) SN.enc_len (i := a) (by first | omega | (simp only [swp_size, Array.size_setIfInBounds]; omega)))) rfl ?_
    refine dq1 rfl (fun a hA => wanted_yes hA rfl rfl rfl g34) (rd_move rfl) rfl ?_
    refine dq1 rfl (fun a hA => wanted_yes hA rfl rfl rfl g34) (rd_move rfl) rfl ?_
    refine dq1 rfl (fun a hA => wanted_yes hA rfl rfl rfl g34) (rd_index S62 rfl rfl hA0 (by omega) (by omega)) rfl ?_
    refine dq1 rfl (fun a hA => wanted_yes hA rfl rfl rfl g34) (rd_ldsr A64 (by first | exact .head _) rfl (arr_part (f := SN.enc) SN.enc_len (i := u) (by first | omega | (simp only [swp_size, Array.size_setIfInBounds]; omega)))) rfl ?_
    refine deg rfl (fun a hA => wanted_yes hA rfl rfl rfl g34) (ef_pure rfl rfl hg rfl (by exact hcmp _ _)) (fun _ h => h.sb) ?_ d_stop
    refine dq1 rfl (fun a hA => wanted_yes hA rfl rfl rfl g34) (rd_lss rfl rfl) rfl ?_
    refine dq1 rfl (fun a hA => wanted_yes hA rfl rfl rfl g34) ((by first | exact rd_notd rfl | exact rd_not rfl)) rfl ?_
    refine dq rfl (rd_pick_tt rfl g34 rfl) rfl ?_
    refine d_end ?_
    refine f_then ?_
    refine c_cond rfl (fun h47 => ?_) (fun h47 => ?_)
    ·refine c_skip ?_
     refine f_then ?_
     refine c_block ?_
     refine c_reg ?_
     refine sq (rd_move rfl) rfl ?_
     refine sq (rd_addn (u) (1) rfl rfl rfl rfl (by omega)) rfl ?_
     refine sq (rd_assign rfl) rfl ?_
     refine s_end ?_
     refine f_blk ?_
     refine f_again (u + 1) (⟨by omega, by omega, by rw [hsq]; exact up_go (by omega) (by first | exact h47 | simpa using h47 | simpa [Sort.ltInt] using h47)⟩) (by omega) (by repeat constructor) (fun _ h => h.sb)
    ·refine c_exit ?_
     refine f_then_x ?_
     refine f_then_x ?_
     refine f_blk_x ?_
     have hst : u ≤ j → (fun x => !(ltOf cmp) dk[a]! x) dk[u]! = false := fun h => (by first | simpa using h47 | simpa [Sort.ltInt] using h47)
     refine f_cut (u) (⟨by omega, by omega, by rw [hsq]; exact up_stop hst, hst⟩) (by repeat constructor) (fun _ h => h.sb)
   ·try have g34p := of_decide_eq_false g34
    refine dq0 rfl (fun a hA => wanted_no hA rfl rfl rfl g34 rfl) rfl ?_
    refine dq0 rfl (fun a hA => wanted_no hA rfl rfl rfl g34 rfl) rfl ?_
    refine dq0 rfl (fun a hA => wanted_no hA rfl rfl rfl g34 rfl) rfl ?_
    refine dq0 rfl (fun a hA => wanted_no hA rfl rfl rfl g34 rfl) rfl ?_
    refine dq0 rfl (fun a hA => wanted_no hA rfl rfl rfl g34 rfl) rfl ?_
    refine dq0 rfl (fun a hA => wanted_no hA rfl rfl rfl g34 rfl) rfl ?_
    refine dq0 rfl (fun a hA => wanted_no hA rfl rfl rfl g34 rfl) rfl ?_
    refine dq0 rfl (fun a hA => wanted_no hA rfl rfl rfl g34 rfl) rfl ?_
    refine dq0 rfl (fun a hA => wanted_no hA rfl rfl rfl g34 rfl) rfl ?_
    refine de0 rfl (fun a hA => wanted_no hA rfl rfl rfl g34 rfl) rfl (fun _ h => h.sb) ?_ d_stop
    refine dq0 rfl (fun a hA => wanted_no hA rfl rfl rfl g34 rfl) rfl ?_
    refine dq0 rfl (fun a hA => wanted_no hA rfl rfl rfl g34 rfl) rfl ?_
    refine dq rfl (rd_pick_ff rfl g34 rfl) rfl ?_
    refine d_end ?_
    refine f_then ?_
    refine c_lit_f rfl ?_
    refine c_exit ?_
    refine f_then_x ?_
    refine f_then_x ?_
    refine f_blk_x ?_
    have hst : u ≤ j → (fun x => !(ltOf cmp) dk[a]! x) dk[u]! = false := fun h => absurd h (by omega)
    refine f_cut (u) (⟨by omega, by omega, by rw [hsq]; exact up_stop hst, hst⟩) (by repeat constructor) (fun _ h => h.sb)
  ·rintro i2 ⟨hi21, hi22, hi2q, hi2s⟩
   refine c_meet2 (α := Nat) (fun v => i2 ≤ v + 1 ∧ v ≤ j ∧ Sort.scanDown (fun x => (ltOf cmp) dk[a]! x) dk i2 (j) = v ∧ (i2 ≤ v → (fun x => (ltOf cmp) dk[a]! x) dk[v]! = false)) (fun v => []) [.row _ _ A n cap _] (fun v => [(12, .int .i64 (v : Int))]) [(11, _), (0, _), (1, _), (4, _), (10, _)] (by repeat constructor) [] (fun _ h => h) ?_ ?_
   ·refine c_block ?_
    refine c_keep (L' := [(11, _), (12, _), (0, _), (1, _), (4, _), (10, _)]) (by repeat constructor) ?_
    refine c_for (α := Nat) (fun v => i2 ≤ v + 1 ∧ v ≤ j ∧ Sort.scanDown (fun x => (ltOf cmp) dk[a]! x) dk i2 (j) = Sort.scanDown (fun x => (ltOf cmp) dk[a]! x) dk i2 v) (fun v => []) [.row _ _ A n cap _] (fun v => [(12, .int .i64 (v : Int))]) [(11, _), (0, _), (1, _), (4, _), (10, _)] (fun v => v) (j) (⟨by omega, by omega, rfl⟩) (by repeat constructor) (fun _ h => h) ?_
    rintro v ⟨hs1, hs2, hsq⟩
    refine c_seq ?_
    refine c_seq ?_
    refine c_regd [.row _ _ A n cap _] (.q 0 (.q 1 (.q 2 (.q 3 (.q 4 (.q 5 (.q 6 (.q 7 (.q 8 (.q 9 (.q 10 (.q 11 (.q 12 (.alt 13 (.q 14 (.q 15 .done)) .stop)))))))))))))) (by kernel_rfl) (by kernel_rfl) (by kernel_rfl) (by kernel_rfl) (fun _ h => h.sb) ?_
    refine dq rfl (rd_move rfl) rfl ?_
    refine dq rfl (rd_move rfl) rfl ?_
    refine dq rfl (rd_leq rfl rfl) rfl ?_
    refine dq rfl (rd_move rfl) rfl ?_
    refine d_split (d := 53) rfl (fun g53 => ?_) (fun g53 => ?_)
    ·try have g53p := of_decide_eq_true g53
     refine dq1 rfl (fun a hA => wanted_yes hA rfl rfl rfl g53) (rd_move rfl) rfl ?_
     refine dq1 rfl (fun a hA => wanted_yes hA rfl rfl rfl g53) (rd_move rfl) rfl ?_
     refine dq1 rfl (fun a hA => wanted_yes hA rfl rfl rfl g53) (rd_move rfl) rfl ?_
     refine dq1 rfl (fun a hA => wanted_yes hA rfl rfl rfl g53) (rd_index S62 rfl rfl hA0 (by omega) (by omega)) rfl ?_
     refine dq1 rfl (fun a hA => wanted_yes hA rfl rfl rfl g53) (rd_ldsr A64 (by first | exact .head _) rfl (arr_part (f := SN.enc) SN.enc_len (i := a) (by first | omega | (simp only [swp_size, Array.size_setIfInBounds]; omega)))) rfl ?_
     refine dq1 rfl (fun a hA => wanted_yes hA rfl rfl rfl g53) (rd_move rfl) rfl ?_
     refine dq1 rfl (fun a hA => wanted_yes hA rfl rfl rfl g53) (rd_move rfl) rfl ?_
     refine dq1 rfl (fun a hA => wanted_yes hA rfl rfl rfl g53) (rd_index S62 rfl rfl hA0 (by omega) (by omega)) rfl ?_
     refine dq1 rfl (fun a hA => wanted_yes hA rfl rfl rfl g53) (rd_ldsr A64 (by first | exact .head _) rfl (arr_part (f := SN.enc) SN.enc_len (i := v) (by first | omega | (simp only [swp_size, Array.size_setIfInBounds]; omega)))) rfl ?_
     refine deg rfl (fun a hA => wanted_yes hA rfl rfl rfl g53) (ef_pure rfl rfl hg rfl (by exact hcmp _ _)) (fun _ h => h.sb) ?_ d_stop
     refine dq1 rfl (fun a hA => wanted_yes hA rfl rfl rfl g53) (rd_lss rfl rfl) rfl ?_
     refine dq rfl (rd_pick_tt rfl g53 rfl) rfl ?_
     refine d_end ?_
     refine f_then ?_
     refine c_cond rfl (fun h65 => ?_) (fun h65 => ?_)
     ·refine c_skip ?_
      refine f_then ?_
      refine c_block ?_
      refine c_reg ?_
      refine sq (rd_move rfl) rfl ?_
      refine sq (rd_subn (v) (1) rfl rfl rfl rfl (by omega) (by omega)) rfl ?_
      refine sq (rd_assign rfl) rfl ?_
      refine s_end ?_
      refine f_blk ?_
      refine f_again (v - 1) (⟨by omega, by omega, by rw [hsq]; exact down_go (by omega) (by omega) (by first | exact h65 | simpa using h65 | simpa [Sort.ltInt] using h65)⟩) (by omega) (by repeat constructor) (fun _ h => h.sb)
     ·refine c_exit ?_
      refine f_then_x ?_
      refine f_then_x ?_
      refine f_blk_x ?_
      have hst : i2 ≤ v → (fun x => (ltOf cmp) dk[a]! x) dk[v]! = false := fun h => (by first | simpa using h65 | simpa [Sort.ltInt] using h65)
      refine f_cut (v) (⟨by omega, by omega, by rw [hsq]; exact down_stop hst, hst⟩) (by repeat constructor) (fun _ h => h.sb)
    ·try have g53p := of_decide_eq_false g53
     refine dq0 rfl (fun a hA => wanted_no hA rfl rfl rfl g53 rfl) rfl ?_
     refine dq0 rfl (fun a hA => wanted_no hA rfl rfl rfl g53 rfl) rfl ?_
     refine dq0 rfl (fun a hA => wanted_no hA rfl rfl rfl g53 rfl) rfl ?_
     refine dq0 rfl (fun a hA => wanted_no hA rfl rfl rfl g53 rfl) rfl ?_
     refine dq0 rfl (fun a hA => wanted_no hA rfl rfl rfl g53 rfl) rfl ?_
     refine dq0 rfl (fun a hA => wanted_no hA rfl rfl rfl g53 rfl) rfl ?_
     refine dq0 rfl (fun a hA => wanted_no hA rfl rfl rfl g53 rfl) rfl ?_
     refine dq0 rfl (fun a hA => wanted_no hA rfl rfl rfl g53 rfl) rfl ?_
     refine dq0 rfl (fun a hA => wanted_no hA rfl rfl rfl g53 rfl) rfl ?_
     refine de0 rfl (fun a hA => wanted_no hA rfl rfl rfl g53 rfl) rfl (fun _ h => h.sb) ?_ d_stop
     refine dq0 rfl (fun a hA => wanted_no hA rfl rfl rfl g53 rfl) rfl ?_
     refine dq rfl (rd_pick_ff rfl g53 rfl) rfl ?_
     refine d_end ?_
     refine f_then ?_
     refine c_lit_f rfl ?_
     refine c_exit ?_
     refine f_then_x ?_
     refine f_then_x ?_
     refine f_blk_x ?_
     have hst : i2 ≤ v → (fun x => (ltOf cmp) dk[a]! x) dk[v]! = false := fun h => absurd h (by omega)
     refine f_cut (v) (⟨by omega, by omega, by rw [hsq]; exact down_stop hst, hst⟩) (by repeat constructor) (fun _ h => h.sb)
   ·rintro j2 ⟨hj21, hj22, hj2q, hj2s⟩
    refine c_seq ?_
    refine c_seq ?_
    refine c_reg ?_
    refine sq (rd_move rfl) rfl ?_
    refine sq (rd_move rfl) rfl ?_
    refine sq (rd_gtr rfl rfl) rfl ?_
    refine s_end ?_
    refine f_then ?_
    refine c_if rfl (fun h70 => ?_) (fun h70 => ?_)
    ·refine c_exit ?_
     refine f_then_x ?_
     refine f_blk_y rfl ?_
     refine f_then_x ?_
     refine f_blk_x ?_
     refine f_then ?_
     refine c_seq ?_
     refine c_reg ?_
     refine sq (rd_move rfl) rfl ?_
     refine sq (rd_assign rfl) rfl ?_
     refine s_end ?_
     refine f_then ?_
     refine c_ret ?_
     refine f_ret rfl (.tmp rfl .nil) ?_
     exact fun w' hS => ⟨_, rfl, (i2, dk), rfl, hoq.trans (pe_done hi2q hj2q (by omega)), hS⟩
    ·refine c_skip ?_
     refine f_then ?_
     have hlt : i2 < j2 := by
      rcases Nat.lt_or_ge i2 j2 with h | h
      ·exact h
      ·have e : i2 = j2 := by omega
       have e1 := hi2s (by omega)
       have e2 := hj2s (by omega)
       rw [e] at e1
       exact absurd (e2.symm.trans (not_false_ e1)) Bool.false_ne_true
     refine c_meet2 (α := Unit) (fun x => True) (fun x => [.row 64 4 A n cap (flat SN.enc (Sort.swp dk i2 j2).toList)]) [] (fun x => []) [(12, _), (11, _), (0, _), (1, _), (4, _), (10, _), (68, _), (69, _), (70, _)] (by repeat constructor) [.row _ _ A n cap _] (fun _ h => h) ?_ ?_
     ·refine c_regd [] (.q 0 (.q 1 (.q 2 (.q 3 (.q 4 (.q 5 (.q 6 (.q 8 (.q 9 (.q 10 (.alt 7 (.alt 11 (.q 12 (.alt 13 (.q 14 (.alt 15 .done .stop)) .stop)) .stop) (.alt 11 (.alt 7 (.q 12 (.alt 13 (.q 14 (.alt 15 .done .stop)) .stop)) .stop) .stop)))))))))))) (by kernel_rfl) (by kernel_rfl) (by kernel_rfl) (by kernel_rfl) (fun _ h => h.sb) ?_
      refine dq rfl (rd_move rfl) rfl ?_
      refine dq rfl (rd_move rfl) rfl ?_
      refine dq rfl (rd_move rfl) rfl ?_
      refine dq rfl (rd_move rfl) rfl ?_
      refine dq rfl (rd_move rfl) rfl ?_
      refine dq rfl (rd_move rfl) rfl ?_
      refine dq rfl (rd_index S62 rfl rfl hA0 (by omega) (by omega)) rfl ?_
      refine dq rfl (rd_move rfl) rfl ?_
      refine dq rfl (rd_move rfl) rfl ?_
      refine dq rfl (rd_index S62 rfl rfl hA0 (by omega) (by omega)) rfl ?_
      refine de rfl rfl (ef_quiet (rd_ldsr A64 (by first | exact .head _) rfl (arr_part (f := SN.enc) SN.enc_len (i := j2) (by first | omega | (simp only [swp_size, Array.size_setIfInBounds]; omega)))) rfl) (fun _ h => h.sb) ?_ ?_
      ·refine de rfl rfl (ef_quiet (rd_ldsr A64 (by first | exact .head _) rfl (arr_part (f := SN.enc) SN.enc_len (i := i2) (by first | omega | (simp only [swp_size, Array.size_setIfInBounds]; omega)))) rfl) (fun _ h => h.sb) ?_ d_stop
       refine dq rfl (rd_index S62 rfl rfl hA0 (by omega) (by omega)) rfl ?_
       refine de rfl rfl (ef_storea SN.enc (i2) Sz64 rfl rfl rfl SN.enc_len SN.enc_cells (by decide) (by omega) (by first | omega | (simp only [swp_size, Array.size_setIfInBounds]; omega))) (fun _ h => h.sb) ?_ d_stop
       refine dq rfl (rd_index S62 rfl rfl hA0 (by omega) (by omega)) rfl ?_
       refine de rfl rfl (ef_storea SN.enc (j2) Sz64 rfl rfl rfl SN.enc_len SN.enc_cells (by decide) (by omega) (by first | omega | (simp only [swp_size, Array.size_setIfInBounds]; omega))) (fun _ h => h.sb) ?_ d_stop
       refine d_end ?_
       refine f_cut (()) (trivial) (by repeat constructor) (fun _ h => h.sb)
      refine de rfl rfl (ef_quiet (rd_ldsr A64 (by first | exact .head _) rfl (arr_part (f := SN.enc) SN.enc_len (i := i2) (by first | omega | (simp only [swp_size, Array.size_setIfInBounds]; omega)))) rfl) (fun _ h => h.sb) ?_ ?_
      ·refine de rfl rfl (ef_quiet (rd_ldsr A64 (by first | exact .head _) rfl (arr_part (f := SN.enc) SN.enc_len (i := j2) (by first | omega | (simp only [swp_size, Array.size_setIfInBounds]; omega)))) rfl) (fun _ h => h.sb) ?_ d_stop
       refine dq rfl (rd_index S62 rfl rfl hA0 (by omega) (by omega)) rfl ?_
       refine de rfl rfl (ef_storea SN.enc (i2) Sz64 rfl rfl rfl SN.enc_len SN.enc_cells (by decide) (by omega) (by first | omega | (simp only [swp_size, Array.size_setIfInBounds]; omega))) (fun _ h => h.sb) ?_ d_stop
       refine dq rfl (rd_index S62 rfl rfl hA0 (by omega) (by omega)) rfl ?_
       refine de rfl rfl (ef_storea SN.enc (j2) Sz64 rfl rfl rfl SN.enc_len SN.enc_cells (by decide) (by omega) (by first | omega | (simp only [swp_size, Array.size_setIfInBounds]; omega))) (fun _ h => h.sb) ?_ d_stop
       refine d_end ?_
       refine f_cut (()) (trivial) (by repeat constructor) (fun _ h => h.sb)
      exact d_stop
     ·rintro _ _
      refine c_seq ?_
      refine c_reg ?_
      refine sq (rd_move rfl) rfl ?_
      refine sq (rd_addn (i2) (1) rfl rfl rfl rfl (by omega)) rfl ?_
      refine sq (rd_assign rfl) rfl ?_
      refine s_end ?_
      refine f_then ?_
      refine c_reg ?_
      refine sq (rd_move rfl) rfl ?_
      refine sq (rd_subn (j2) (1) rfl rfl rfl rfl (by omega) (by omega)) rfl ?_
      refine sq (rd_assign rfl) rfl ?_
      refine s_end ?_
      refine f_blk ?_
      refine f_again ((i2 + 1, j2 - 1, Sort.swp dk i2 j2)) (⟨by omega, by omega, by omega, by simpa using hdk, by rw [hoq]; exact pe_go hi2q hj2q (by omega) (by omega)⟩) (by show j2 - 1 + 1 - (i2 + 1) < j + 1 - i; omega) (by repeat constructor) (fun _ h => h.sb)

theorem c130 (w : World) (A : Option Addr) (cap n : Nat) (d : Array SN) (g : Nat) (cmp : SN → SN → Int) (hg : callTy Tryz.prog g) (hcmp : ∀ x y, Pu Tryz.prog g [.agg (SN.enc x).toArray, .agg (SN.enc y).toArray] (.int .i64 (cmp x y))) (hd : d.size = n) (hn : n ≤ 1000000) (a b : Nat) (hab : a < b) (hb : b ≤ n) (hS : St w (fpOf [.row 64 4 A n cap (flat SN.enc d.toList)]) [.row 64 4 A n cap (flat SN.enc d.toList)] w) : Calls Tryz.prog 130 [.slice A n cap, .int .i64 (a : Int), .int .i64 (b : Int), .func (.func g) #[] #[]].toArray w (RtE fun v w' => ∃ x : Array SN × Bool, v = (fun x => .bool x.2) x ∧ (fun x => Sort.partialInsertionSort (ltOf cmp) d a b = x) x ∧ St w (fpOf [.row 64 4 A n cap (flat SN.enc d.toList)]) ((fun x => [.row 64 4 A n cap (flat SN.enc x.1.toList)]) x) w') := by
 refine enter Tryz.func130 rfl Tryz.ntmps130 rfl hS ?_
 refine c_seq ?_
 have hA0 : 0 < n → plainA A := fun h => ((row_know (List.mem_cons_self ..) w hS).2.2.2 h).1
 refine c_reg ?_
 refine sq (rd_assign rfl) rfl ?_
 refine s_end ?_
 refine f_then ?_
 refine c_seq ?_
 refine c_reg ?_
 refine sq (rd_move rfl) rfl ?_
 refine sq (rd_addn (a) (1) rfl rfl rfl rfl (by omega)) rfl ?_
 refine sq (rd_assign rfl) rfl ?_
 refine s_end ?_
 refine f_then ?_
 refine c_seq ?_
 refine c_seq ?_
 refine c_reg ?_
 refine sq (rd_assign rfl) rfl ?_
 refine s_end ?_
 refine f_then ?_
 refine c_block ?_
 refine c_keep (L' := [(0, _), (1, _), (2, _), (3, _), (8, _), (9, _), (10, _)]) (by repeat constructor) ?_
 refine c_for (α := Nat × Nat × Array SN) (fun ⟨s, i, dk⟩ => s ≤ 5 ∧ a + 1 ≤ i ∧ i ≤ b ∧ dk.size = n ∧ Sort.partialInsertionSort (ltOf cmp) d a b = Sort.partialIns (ltOf cmp) a b (5 - s) i dk) (fun ⟨s, i, dk⟩ => [.row 64 4 A n cap (flat SN.enc dk.toList)]) [] (fun ⟨s, i, dk⟩ => [(10, .int .i64 (s : Int)), (9, .int .i64 (i : Int))]) [(0, _), (1, _), (2, _), (3, _), (8, _)] (fun ⟨s, i, dk⟩ => 5 - s) ((0, a + 1, d)) (⟨by omega, by omega, by omega, hd, rfl⟩) (by repeat constructor) (fun _ h => h) ?_
 rintro ⟨s, i, dk⟩ ⟨ho0, ho1, ho2, hdk, hoq⟩
 refine c_seq ?_
 refine c_seq ?_
 refine c_reg ?_
 refine sq (rd_move rfl) rfl ?_
 refine sq (rd_lss rfl rfl) rfl ?_
 refine s_end ?_
 refine f_then ?_
 refine c_if rfl (fun h16 => ?_) (fun h16 => ?_)
 ·refine c_skip ?_
  refine f_then ?_
  refine c_seq ?_
  refine c_block ?_
  refine c_meet2 (α := Nat) (fun u => a + 1 ≤ u ∧ u ≤ b ∧ Sort.scanSorted (ltOf cmp) dk b i = u) (fun u => []) [.row _ _ A n cap _] (fun u => [(9, .int .i64 (u : Int))]) [(10, _), (0, _), (1, _), (2, _), (3, _), (8, _), (15, _), (16, _)] (by repeat constructor) [] (fun _ h => h) ?_ ?_
  ·refine c_block ?_
   refine c_keep (L' := [(10, _), (9, _), (0, _), (1, _), (2, _), (3, _), (8, _), (15, _), (16, _)]) (by repeat constructor) ?_
   refine c_for (α := Nat) (fun u => a + 1 ≤ u ∧ u ≤ b ∧ Sort.scanSorted (ltOf cmp) dk b i = Sort.scanSorted (ltOf cmp) dk b u) (fun u => []) [.row _ _ A n cap _] (fun u => [(9, .int .i64 (u : Int))]) [(10, _), (0, _), (1, _), (2, _), (3, _), (8, _), (15, _), (16, _)] (fun u => b - u) (i) (⟨by omega, by omega, rfl⟩) (by repeat constructor) (fun _ h => h) ?_
   rintro u ⟨hs1, hs2, hsq⟩
   refine c_seq ?_
   refine c_seq ?_
   refine c_regd [.row _ _ A n cap _] (.q 0 (.q 1 (.q 2 (.q 3 (.q 4 (.q 5 (.q 6 (.q 7 (.q 8 (.q 9 (.q 10 (.q 11 (.q 12 (.q 13 (.alt 14 (.q 15 (.q 16 (.q 17 .done))) .stop))))))))))))))) (by kernel_rfl) (by kernel_rfl) (by kernel_rfl) (by kernel_rfl) (fun _ h => h.sb) ?_
   refine dq rfl (rd_move rfl) rfl ?_
   refine dq rfl (rd_move rfl) rfl ?_
   refine dq rfl (rd_lss rfl rfl) rfl ?_
   refine dq rfl (rd_move rfl) rfl ?_
   refine d_split (d := 22) rfl (fun g22 => ?_) (fun g22 => ?_)
   ·try have g22p := of_decide_eq_true g22
    refine dq1 rfl (fun a hA => wanted_yes hA rfl rfl rfl g22) (rd_move rfl) rfl ?_
    refine dq1 rfl (fun a hA => wanted_yes hA rfl rfl rfl g22) (rd_move rfl) rfl ?_
    refine dq1 rfl (fun a hA => wanted_yes hA rfl rfl rfl g22) (rd_move rfl) rfl ?_
    refine dq1 rfl (fun a hA => wanted_yes hA rfl rfl rfl g22) (rd_index S62 rfl rfl hA0 (by omega) (by omega)) rfl ?_
    refine dq1 rfl (fun a hA => wanted_yes hA rfl rfl rfl g22) (rd_ldsr A64 (by first | exact .head _) rfl (arr_part (f := SN.enc) SN.enc_len (i := u) (by first | omega | (simp only [swp_size, Array.size_setIfInBounds]; omega)))) rfl ?_
    refine dq1 rfl (fun a hA => wanted_yes hA rfl rfl rfl g22) (rd_move rfl) rfl ?_
    refine dq1 rfl (fun a hA => wanted_yes hA rfl rfl rfl g22) (rd_move rfl) rfl ?_
    refine dq1 rfl (fun a hA => wanted_yes hA rfl rfl rfl g22) (rd_subn (u) (1) rfl rfl rfl rfl (by omega) (by omega)) rfl ?_
    refine dq1 rfl (fun a hA => wanted_yes hA rfl rfl rfl g22) (rd_index S62 rfl rfl hA0 (by omega) (by omega)) rfl ?_
    refine dq1 rfl (fun a hA => wanted_yes hA rfl rfl rfl g22) (rd_ldsr A64 (by first | exact .head _) rfl (arr_part (f := SN.enc) SN.enc_len (i := (u - 1)) (by first | omega | (simp only [swp_size, Array.size_setIfInBounds]; omega)))) rfl ?_
    refine deg rfl (fun a hA => wanted_yes hA rfl rfl rfl g22) (ef_pure rfl rfl hg rfl (by exact hcmp _ _)) (fun _ h => h.sb) ?_ d_stop
    refine dq1 rfl (fun a hA => wanted_yes hA rfl rfl rfl g22) (rd_lss rfl rfl) rfl ?_
    refine dq1 rfl (fun a hA => wanted_yes hA rfl rfl rfl g22) ((by first | exact rd_notd rfl | exact rd_not rfl)) rfl ?_
    refine dq rfl (rd_pick_tt rfl g22 rfl) rfl ?_
    refine d_end ?_
    refine f_then ?_
    refine c_cond rfl (fun h36 => ?_) (fun h36 => ?_)
    ·refine c_skip ?_
     refine f_then ?_
     refine c_block ?_
     refine c_reg ?_
     refine sq (rd_move rfl) rfl ?_
     refine sq (rd_addn (u) (1) rfl rfl rfl rfl (by omega)) rfl ?_
     refine sq (rd_assign rfl) rfl ?_
     refine s_end ?_
     refine f_blk ?_
     refine f_again (u + 1) (⟨by omega, by omega, by rw [hsq]; exact ss_go (by omega) (by first | simpa using h36 | simpa [Sort.ltInt] using h36)⟩) (by omega) (by repeat constructor) (fun _ h => h.sb)
    ·refine c_exit ?_
     refine f_then_x ?_
     refine f_then_x ?_
     refine f_blk_x ?_
     refine f_cut (u) (⟨by omega, by omega, by rw [hsq]; exact ss_stop (fun _ => (by first | simpa using h36 | simpa [Sort.ltInt] using h36))⟩) (by repeat constructor) (fun _ h => h.sb)
   ·try have g22p := of_decide_eq_false g22
    refine dq0 rfl (fun a hA => wanted_no hA rfl rfl rfl g22 rfl) rfl ?_
    refine dq0 rfl (fun a hA => wanted_no hA rfl rfl rfl g22 rfl) rfl ?_
    refine dq0 rfl (fun a hA => wanted_no hA rfl rfl rfl g22 rfl) rfl ?_
    refine dq0 rfl (fun a hA => wanted_no hA rfl rfl rfl g22 rfl) rfl ?_
    refine dq0 rfl (fun a hA => wanted_no hA rfl rfl rfl g22 rfl) rfl ?_
    refine dq0 rfl (fun a hA => wanted_no hA rfl rfl rfl g22 rfl) rfl ?_
    refine dq0 rfl (fun a hA => wanted_no hA rfl rfl rfl g22 rfl) rfl ?_
    refine dq0 rfl (fun a hA => wanted_no hA rfl rfl rfl g22 rfl) rfl ?_
    refine dq0 rfl (fun a hA => wanted_no hA rfl rfl rfl g22 rfl) rfl ?_
    refine dq0 rfl (fun a hA => wanted_no hA rfl rfl rfl g22 rfl) rfl ?_
    refine de0 rfl (fun a hA => wanted_no hA rfl rfl rfl g22 rfl) rfl (fun _ h => h.sb) ?_ d_stop
    refine dq0 rfl (fun a hA => wanted_no hA rfl rfl rfl g22 rfl) rfl ?_
    refine dq0 rfl (fun a hA => wanted_no hA rfl rfl rfl g22 rfl) rfl ?_
    refine dq rfl (rd_pick_ff rfl g22 rfl) rfl ?_
    refine d_end ?_
    refine f_then ?_
    refine c_lit_f rfl ?_
    refine c_exit ?_
    refine f_then_x ?_
    refine f_then_x ?_
    refine f_blk_x ?_
    refine f_cut (u) (⟨by omega, by omega, by rw [hsq]; exact ss_stop (fun h => absurd h (by omega))⟩) (by repeat constructor) (fun _ h => h.sb)
  ·rintro i2 ⟨hi21, hi22, hi2q⟩
   refine c_seq ?_
   refine c_seq ?_
   refine c_reg ?_
   refine sq (rd_move rfl) rfl ?_
   refine sq (rd_move rfl) rfl ?_
   refine sq (rd_eql rfl rfl) rfl ?_
   refine s_end ?_
   refine f_then ?_
   refine c_if rfl (fun h41 => ?_) (fun h41 => ?_)
   ·refine c_seq ?_
    refine c_reg ?_
    refine sq (rd_assign rfl) rfl ?_
    refine s_end ?_
    refine f_then ?_
    refine c_ret ?_
    refine f_then_r ?_
    refine f_blk_r ?_
    refine f_then_r ?_
    refine f_then_r ?_
    refine f_blk_r ?_
    refine f_then_r ?_
    refine f_ret rfl (.tmp rfl .nil) ?_
    have hp : Sort.partialInsertionSort (ltOf cmp) d a b = (dk, true) := hoq.trans (by rw [show 5 - s = (5 - (s + 1)) + 1 from by omega]; exact pi_done hi2q (by omega))
    exact fun w' hS => ⟨_, rfl, (dk, true), rfl, hp, hS⟩
   ·refine c_skip ?_
    refine f_then ?_
    refine c_seq ?_
    refine c_seq ?_
    refine c_reg ?_
    refine sq (rd_move rfl) rfl ?_
    refine sq (rd_move rfl) rfl ?_
    refine sq (rd_subn (b) (a) rfl rfl rfl rfl (by omega) (by omega)) rfl ?_
    refine sq (rd_lss rfl rfl) rfl ?_
    refine s_end ?_
    refine f_then ?_
    refine c_if rfl (fun h45 => ?_) (fun h45 => ?_)
    ·refine c_seq ?_
     refine c_reg ?_
     refine sq (rd_assign rfl) rfl ?_
     refine s_end ?_
     refine f_then ?_
     refine c_ret ?_
     refine f_then_r ?_
     refine f_blk_r ?_
     refine f_then_r ?_
     refine f_then_r ?_
     refine f_blk_r ?_
     refine f_then_r ?_
     refine f_ret rfl (.tmp rfl .nil) ?_
     have hp : Sort.partialInsertionSort (ltOf cmp) d a b = (dk, false) := hoq.trans (by rw [show 5 - s = (5 - (s + 1)) + 1 from by omega]; exact pi_short hi2q (by omega) (by omega))
     exact fun w' hS => ⟨_, rfl, (dk, false), rfl, hp, hS⟩
    ·refine c_skip ?_
     refine f_then ?_
     refine c_meet2 (α := Unit) (fun x => True) (fun x => [.row 64 4 A n cap (flat SN.enc (Sort.swp dk i2 (i2 - 1)).toList)]) [] (fun x => []) [(9, _), (10, _), (0, _), (1, _), (2, _), (3, _), (8, _), (15, _), (16, _), (39, _), (40, _), (41, _), (42, _), (43, _), (44, _), (45, _)] (by repeat constructor) [.row _ _ A n cap _] (fun _ h => h) ?_ ?_
     ·refine c_regd [] (.q 0 (.q 1 (.q 2 (.q 3 (.q 4 (.q 5 (.q 6 (.q 7 (.q 8 (.q 10 (.q 11 (.q 12 (.alt 9 (.alt 13 (.q 14 (.alt 15 (.q 16 (.alt 17 .done .stop)) .stop)) .stop) (.alt 13 (.alt 9 (.q 14 (.alt 15 (.q 16 (.alt 17 .done .stop)) .stop)) .stop) .stop)))))))))))))) (by kernel_rfl) (by kernel_rfl) (by kernel_rfl) (by kernel_rfl) (fun _ h => h.sb) ?_
      refine dq rfl (rd_move rfl) rfl ?_
      refine dq rfl (rd_move rfl) rfl ?_
      refine dq rfl (rd_move rfl) rfl ?_
      refine dq rfl (rd_move rfl) rfl ?_
      refine dq rfl (rd_subn (i2) (1) rfl rfl rfl rfl (by omega) (by omega)) rfl ?_
      refine dq rfl (rd_move rfl) rfl ?_
      refine dq rfl (rd_move rfl) rfl ?_
      refine dq rfl (rd_subn (i2) (1) rfl rfl rfl rfl (by omega) (by omega)) rfl ?_
      refine dq rfl (rd_index S62 rfl rfl hA0 (by omega) (by omega)) rfl ?_
      refine dq rfl (rd_move rfl) rfl ?_
      refine dq rfl (rd_move rfl) rfl ?_
      refine dq rfl (rd_index S62 rfl rfl hA0 (by omega) (by omega)) rfl ?_
      refine de rfl rfl (ef_quiet (rd_ldsr A64 (by first | exact .head _) rfl (arr_part (f := SN.enc) SN.enc_len (i := (i2 - 1)) (by first | omega | (simp only [swp_size, Array.size_setIfInBounds]; omega)))) rfl) (fun _ h => h.sb) ?_ ?_
      ·refine de rfl rfl (ef_quiet (rd_ldsr A64 (by first | exact .head _) rfl (arr_part (f := SN.enc) SN.enc_len (i := i2) (by first | omega | (simp only [swp_size, Array.size_setIfInBounds]; omega)))) rfl) (fun _ h => h.sb) ?_ d_stop
       refine dq rfl (rd_index S62 rfl rfl hA0 (by omega) (by omega)) rfl ?_
       refine de rfl rfl (ef_storea SN.enc (i2) Sz64 rfl rfl rfl SN.enc_len SN.enc_cells (by decide) (by omega) (by first | omega | (simp only [swp_size, Array.size_setIfInBounds]; omega))) (fun _ h => h.sb) ?_ d_stop
       refine dq rfl (rd_index S62 rfl rfl hA0 (by omega) (by omega)) rfl ?_
       refine de rfl rfl (ef_storea SN.enc ((i2 - 1)) Sz64 rfl rfl rfl SN.enc_len SN.enc_cells (by decide) (by omega) (by first | omega | (simp only [swp_size, Array.size_setIfInBounds]; omega))) (fun _ h => h.sb) ?_ d_stop
       refine d_end ?_
       refine f_cut (()) (trivial) (by repeat constructor) (fun _ h => h.sb)
      refine de rfl rfl (ef_quiet (rd_ldsr A64 (by first | exact .head _) rfl (arr_part (f := SN.enc) SN.enc_len (i := i2) (by first | omega | (simp only [swp_size, Array.size_setIfInBounds]; omega)))) rfl) (fun _ h => h.sb) ?_ ?_
      ·refine de rfl rfl (ef_quiet (rd_ldsr A64 (by first | exact .head _) rfl (arr_part (f := SN.enc) SN.enc_len (i := (i2 - 1)) (by first | omega | (simp only [swp_size, Array.size_setIfInBounds]; omega)))) rfl) (fun _ h => h.sb) ?_ d_stop
       refine dq rfl (rd_index S62 rfl rfl hA0 (by omega) (by omega)) rfl ?_
       refine de rfl rfl (ef_storea SN.enc (i2) Sz64 rfl rfl rfl SN.enc_len SN.enc_cells (by decide) (by omega) (by first | omega | (simp only [swp_size, Array.size_setIfInBounds]; omega))) (fun _ h => h.sb) ?_ d_stop
       refine dq rfl (rd_index S62 rfl rfl hA0 (by omega) (by omega)) rfl ?_
       refine de rfl rfl (ef_storea SN.enc ((i2 - 1)) Sz64 rfl rfl rfl SN.enc_len SN.enc_cells (by decide) (by omega) (by first | omega | (simp only [swp_size, Array.size_setIfInBounds]; omega))) (fun _ h => h.sb) ?_ d_stop
       refine d_end ?_
       refine f_cut (()) (trivial) (by repeat constructor) (fun _ h => h.sb)
      exact d_stop
     ·rintro _ _
      refine c_meet2 (α := Array SN) (fun dx => dx.size = n ∧ dx = if i2 - a ≥ 2 then Sort.shiftDown (ltOf cmp) (i2 - 1) (Sort.swp dk i2 (i2 - 1)) else (Sort.swp dk i2 (i2 - 1))) (fun dx => [.row 64 4 A n cap (flat SN.enc dx.toList)]) [] (fun dx => []) [(9, _), (10, _), (0, _), (1, _), (2, _), (3, _), (8, _), (15, _), (16, _), (39, _), (40, _), (41, _), (42, _), (43, _), (44, _), (45, _)] (by repeat constructor) [.row _ _ A n cap _] (fun _ h => h) ?_ ?_
      ·refine c_seq ?_
       refine c_reg ?_
       refine sq (rd_move rfl) rfl ?_
       refine sq (rd_move rfl) rfl ?_
       refine sq (rd_subn (i2) (a) rfl rfl rfl rfl (by omega) (by omega)) rfl ?_
       refine sq (rd_geq rfl rfl) rfl ?_
       refine s_end ?_
       refine f_then ?_
       refine c_if rfl (fun h65 => ?_) (fun h65 => ?_)
       ·refine c_seq ?_
        refine c_reg ?_
        refine sq (rd_move rfl) rfl ?_
        refine sq (rd_subn (i2) (1) rfl rfl rfl rfl (by omega) (by omega)) rfl ?_
        refine sq (rd_assign rfl) rfl ?_
        refine s_end ?_
        refine f_then ?_
        refine c_block ?_
        refine c_keep (L' := [(9, _), (10, _), (0, _), (1, _), (2, _), (3, _), (8, _), (15, _), (16, _), (39, _), (40, _), (41, _), (42, _), (43, _), (44, _), (45, _), (62, _), (63, _), (64, _), (65, _), (66, _), (67, _), (11, _)]) (by repeat constructor) ?_
        refine c_for (α := Nat × Array SN) (fun ⟨j, dj⟩ => j ≤ i2 - 1 ∧ dj.size = n ∧ Sort.shiftDown (ltOf cmp) (i2 - 1) (Sort.swp dk i2 (i2 - 1)) = Sort.shiftDown (ltOf cmp) j dj) (fun ⟨j, dj⟩ => [.row 64 4 A n cap (flat SN.enc dj.toList)]) [] (fun ⟨j, dj⟩ => [(11, .int .i64 (j : Int))]) [(9, _), (10, _), (0, _), (1, _), (2, _), (3, _), (8, _), (15, _), (16, _), (39, _), (40, _), (41, _), (42, _), (43, _), (44, _), (45, _), (62, _), (63, _), (64, _), (65, _), (66, _), (67, _)] (fun ⟨j, dj⟩ => j) ((i2 - 1, (Sort.swp dk i2 (i2 - 1)))) (⟨by omega, by simpa using hdk, rfl⟩) (by repeat constructor) (fun _ h => h) ?_
        rintro ⟨j, dj⟩ ⟨hj1, hdj, hjq⟩
        refine c_seq ?_
        refine c_seq ?_
        refine c_reg ?_
        refine sq (rd_move rfl) rfl ?_
        refine sq (rd_geq rfl rfl) rfl ?_
        refine s_end ?_
        refine f_then ?_
        refine c_if rfl (fun h69 => ?_) (fun h69 => ?_)
        ·refine c_skip ?_
         refine f_then ?_
         refine c_seq ?_
         refine c_block ?_
         refine c_seq ?_
         refine c_seq ?_
         refine c_regd [.row _ _ A n cap _] (.q 0 (.q 1 (.q 2 (.q 3 (.q 4 (.q 5 (.q 6 (.q 7 (.q 8 (.q 9 (.alt 10 (.q 11 (.q 12 .done)) .stop))))))))))) (by kernel_rfl) (by kernel_rfl) (by kernel_rfl) (by kernel_rfl) (fun _ h => h.sb) ?_
         refine dq rfl (rd_move rfl) rfl ?_
         refine dq rfl (rd_move rfl) rfl ?_
         refine dq rfl (rd_move rfl) rfl ?_
         refine dq rfl (rd_index S62 rfl rfl hA0 (by omega) (by omega)) rfl ?_
         refine dq rfl (rd_ldsr A64 (by first | exact .head _) rfl (arr_part (f := SN.enc) SN.enc_len (i := j) (by first | omega | (simp only [swp_size, Array.size_setIfInBounds]; omega)))) rfl ?_
         refine dq rfl (rd_move rfl) rfl ?_
         refine dq rfl (rd_move rfl) rfl ?_
         refine dq rfl (rd_subn (j) (1) rfl rfl rfl rfl (by omega) (by omega)) rfl ?_
         refine dq rfl (rd_index S62 rfl rfl hA0 (by omega) (by omega)) rfl ?_
         refine dq rfl (rd_ldsr A64 (by first | exact .head _) rfl (arr_part (f := SN.enc) SN.enc_len (i := (j - 1)) (by first | omega | (simp only [swp_size, Array.size_setIfInBounds]; omega)))) rfl ?_
         refine de rfl rfl (ef_pure rfl rfl hg rfl (by exact hcmp _ _)) (fun _ h => h.sb) ?_ d_stop
         refine dq rfl (rd_lss rfl rfl) rfl ?_
         refine dq rfl ((by first | exact rd_notd rfl | exact rd_not rfl)) rfl ?_
         refine d_end ?_
         refine f_then ?_
         refine c_cond rfl (fun h84 => ?_) (fun h84 => ?_)
         ·refine c_exit ?_
          refine f_then_x ?_
          refine f_blk_y rfl ?_
          refine f_then_x ?_
          refine f_then_x ?_
          refine f_blk_x ?_
          refine f_cut (dj) (⟨hdj, by rw [if_pos (by omega), hjq]; exact (sd_stop (fun _ => (by first | simpa using h84 | simpa [Sort.ltInt] using h84))).symm⟩) (by repeat constructor) (fun _ h => h.sb)
         ·refine c_skip ?_
          refine f_then ?_
          refine c_regd [] (.q 0 (.q 1 (.q 2 (.q 3 (.q 4 (.q 5 (.q 6 (.q 7 (.q 8 (.q 10 (.q 11 (.q 12 (.alt 9 (.alt 13 (.q 14 (.alt 15 (.q 16 (.alt 17 .done .stop)) .stop)) .stop) (.alt 13 (.alt 9 (.q 14 (.alt 15 (.q 16 (.alt 17 .done .stop)) .stop)) .stop) .stop)))))))))))))) (by kernel_rfl) (by kernel_rfl) (by kernel_rfl) (by kernel_rfl) (fun _ h => h.sb) ?_
          refine dq rfl (rd_move rfl) rfl ?_
          refine dq rfl (rd_move rfl) rfl ?_
          refine dq rfl (rd_move rfl) rfl ?_
          refine dq rfl (rd_move rfl) rfl ?_
          refine dq rfl (rd_subn (j) (1) rfl rfl rfl rfl (by omega) (by omega)) rfl ?_
          refine dq rfl (rd_move rfl) rfl ?_
          refine dq rfl (rd_move rfl) rfl ?_
          refine dq rfl (rd_subn (j) (1) rfl rfl rfl rfl (by omega) (by omega)) rfl ?_
          refine dq rfl (rd_index S62 rfl rfl hA0 (by omega) (by omega)) rfl ?_
          refine dq rfl (rd_move rfl) rfl ?_
          refine dq rfl (rd_move rfl) rfl ?_
          refine dq rfl (rd_index S62 rfl rfl hA0 (by omega) (by omega)) rfl ?_
          refine de rfl rfl (ef_quiet (rd_ldsr A64 (by first | exact .head _) rfl (arr_part (f := SN.enc) SN.enc_len (i := (j - 1)) (by first | omega | (simp only [swp_size, Array.size_setIfInBounds]; omega)))) rfl) (fun _ h => h.sb) ?_ ?_
          ·refine de rfl rfl (ef_quiet (rd_ldsr A64 (by first | exact .head _) rfl (arr_part (f := SN.enc) SN.enc_len (i := j) (by first | omega | (simp only [swp_size, Array.size_setIfInBounds]; omega)))) rfl) (fun _ h => h.sb) ?_ d_stop
           refine dq rfl (rd_index S62 rfl rfl hA0 (by omega) (by omega)) rfl ?_
           refine de rfl rfl (ef_storea SN.enc (j) Sz64 rfl rfl rfl SN.enc_len SN.enc_cells (by decide) (by omega) (by first | omega | (simp only [swp_size, Array.size_setIfInBounds]; omega))) (fun _ h => h.sb) ?_ d_stop
           refine dq rfl (rd_index S62 rfl rfl hA0 (by omega) (by omega)) rfl ?_
           refine de rfl rfl (ef_storea SN.enc ((j - 1)) Sz64 rfl rfl rfl SN.enc_len SN.enc_cells (by decide) (by omega) (by first | omega | (simp only [swp_size, Array.size_setIfInBounds]; omega))) (fun _ h => h.sb) ?_ d_stop
           refine d_end ?_
           refine f_blk ?_
           refine f_then ?_
           refine c_reg ?_
           refine sq (rd_move rfl) rfl ?_
           refine sq (rd_subn (j) (1) rfl rfl rfl rfl (by omega) (by omega)) rfl ?_
           refine sq (rd_assign rfl) rfl ?_
           refine s_end ?_
           refine f_again ((j - 1, Sort.swp dj j (j - 1))) (⟨by omega, by simpa using hdj, by rw [hjq]; exact sd_go (by omega) (by first | simpa using h84 | simpa [Sort.ltInt] using h84)⟩) (by show j - 1 < j; omega) (by repeat constructor) (fun _ h => h.sb)
          refine de rfl rfl (ef_quiet (rd_ldsr A64 (by first | exact .head _) rfl (arr_part (f := SN.enc) SN.enc_len (i := j) (by first | omega | (simp only [swp_size, Array.size_setIfInBounds]; omega)))) rfl) (fun _ h => h.sb) ?_ ?_
          ·refine de rfl rfl (ef_quiet (rd_ldsr A64 (by first | exact .head _) rfl (arr_part (f := SN.enc) SN.enc_len (i := (j - 1)) (by first | omega | (simp only [swp_size, Array.size_setIfInBounds]; omega)))) rfl) (fun _ h => h.sb) ?_ d_stop
           refine dq rfl (rd_index S62 rfl rfl hA0 (by omega) (by omega)) rfl ?_
           refine de rfl rfl (ef_storea SN.enc (j) Sz64 rfl rfl rfl SN.enc_len SN.enc_cells (by decide) (by omega) (by first | omega | (simp only [swp_size, Array.size_setIfInBounds]; omega))) (fun _ h => h.sb) ?_ d_stop
           refine dq rfl (rd_index S62 rfl rfl hA0 (by omega) (by omega)) rfl ?_
           refine de rfl rfl (ef_storea SN.enc ((j - 1)) Sz64 rfl rfl rfl SN.enc_len SN.enc_cells (by decide) (by omega) (by first | omega | (simp only [swp_size, Array.size_setIfInBounds]; omega))) (fun _ h => h.sb) ?_ d_stop
           refine d_end ?_
           refine f_blk ?_
           refine f_then ?_
           refine c_reg ?_
           refine sq (rd_move rfl) rfl ?_
           refine sq (rd_subn (j) (1) rfl rfl rfl rfl (by omega) (by omega)) rfl ?_
           refine sq (rd_assign rfl) rfl ?_
           refine s_end ?_
           refine f_again ((j - 1, Sort.swp dj j (j - 1))) (⟨by omega, by simpa using hdj, by rw [hjq]; exact sd_go (by omega) (by first | simpa using h84 | simpa [Sort.ltInt] using h84)⟩) (by show j - 1 < j; omega) (by repeat constructor) (fun _ h => h.sb)
          exact d_stop
        ·refine c_exit ?_
         refine f_then_x ?_
         refine f_then_x ?_
         refine f_blk_x ?_
         refine f_cut (dj) (⟨hdj, by rw [if_pos (by omega), hjq]; exact (sd_stop (fun h => absurd h (by omega))).symm⟩) (by repeat constructor) (fun _ h => h.sb)
       ·refine c_skip ?_
        refine f_cut ((Sort.swp dk i2 (i2 - 1))) (⟨by simpa using hdk, by rw [if_neg (by omega)]⟩) (by repeat constructor) (fun _ h => h.sb)
      ·rintro d2 ⟨hd2, hd2e⟩
       refine c_seq ?_
       refine c_reg ?_
       refine sq (rd_move rfl) rfl ?_
       refine sq (rd_move rfl) rfl ?_
       refine sq (rd_subn (b) (i2) rfl rfl rfl rfl (by omega) (by omega)) rfl ?_
       refine sq (rd_geq rfl rfl) rfl ?_
       refine s_end ?_
       refine f_then ?_
       refine c_if rfl (fun h104 => ?_) (fun h104 => ?_)
       ·refine c_seq ?_
        refine c_reg ?_
        refine sq (rd_move rfl) rfl ?_
        refine sq (rd_addn (i2) (1) rfl rfl rfl rfl (by omega)) rfl ?_
        refine sq (rd_assign rfl) rfl ?_
        refine s_end ?_
        refine f_then ?_
        refine c_block ?_
        refine c_keep (L' := [(9, _), (10, _), (0, _), (1, _), (2, _), (3, _), (8, _), (15, _), (16, _), (39, _), (40, _), (41, _), (42, _), (43, _), (44, _), (45, _), (101, _), (102, _), (103, _), (104, _), (105, _), (106, _), (12, _)]) (by repeat constructor) ?_
        refine c_for (α := Nat × Array SN) (fun ⟨j, dj⟩ => i2 + 1 ≤ j ∧ j ≤ b ∧ dj.size = n ∧ Sort.shiftUp (ltOf cmp) b (i2 + 1) d2 = Sort.shiftUp (ltOf cmp) b j dj) (fun ⟨j, dj⟩ => [.row 64 4 A n cap (flat SN.enc dj.toList)]) [] (fun ⟨j, dj⟩ => [(12, .int .i64 (j : Int))]) [(9, _), (10, _), (0, _), (1, _), (2, _), (3, _), (8, _), (15, _), (16, _), (39, _), (40, _), (41, _), (42, _), (43, _), (44, _), (45, _), (101, _), (102, _), (103, _), (104, _), (105, _), (106, _)] (fun ⟨j, dj⟩ => b - j) ((i2 + 1, d2)) (⟨by omega, by omega, hd2, rfl⟩) (by repeat constructor) (fun _ h => h) ?_
        rintro ⟨j, dj⟩ ⟨hj1, hj2, hdj, hjq⟩
        refine c_seq ?_
        refine c_seq ?_
        refine c_reg ?_
        refine sq (rd_move rfl) rfl ?_
        refine sq (rd_move rfl) rfl ?_
        refine sq (rd_lss rfl rfl) rfl ?_
        refine s_end ?_
        refine f_then ?_
        refine c_if rfl (fun h109 => ?_) (fun h109 => ?_)
        ·refine c_skip ?_
         refine f_then ?_
         refine c_seq ?_
         refine c_block ?_
         refine c_seq ?_
         refine c_seq ?_
         refine c_regd [.row _ _ A n cap _] (.q 0 (.q 1 (.q 2 (.q 3 (.q 4 (.q 5 (.q 6 (.q 7 (.q 8 (.q 9 (.alt 10 (.q 11 (.q 12 .done)) .stop))))))))))) (by kernel_rfl) (by kernel_rfl) (by kernel_rfl) (by kernel_rfl) (fun _ h => h.sb) ?_
         refine dq rfl (rd_move rfl) rfl ?_
         refine dq rfl (rd_move rfl) rfl ?_
         refine dq rfl (rd_move rfl) rfl ?_
         refine dq rfl (rd_index S62 rfl rfl hA0 (by omega) (by omega)) rfl ?_
         refine dq rfl (rd_ldsr A64 (by first | exact .head _) rfl (arr_part (f := SN.enc) SN.enc_len (i := j) (by first | omega | (simp only [swp_size, Array.size_setIfInBounds]; omega)))) rfl ?_
         refine dq rfl (rd_move rfl) rfl ?_
         refine dq rfl (rd_move rfl) rfl ?_
         refine dq rfl (rd_subn (j) (1) rfl rfl rfl rfl (by omega) (by omega)) rfl ?_
         refine dq rfl (rd_index S62 rfl rfl hA0 (by omega) (by omega)) rfl ?_
         refine dq rfl (rd_ldsr A64 (by first | exact .head _) rfl (arr_part (f := SN.enc) SN.enc_len (i := (j - 1)) (by first | omega | (simp only [swp_size, Array.size_setIfInBounds]; omega)))) rfl ?_
         refine de rfl rfl (ef_pure rfl rfl hg rfl (by exact hcmp _ _)) (fun _ h => h.sb) ?_ d_stop
         refine dq rfl (rd_lss rfl rfl) rfl ?_
         refine dq rfl ((by first | exact rd_notd rfl | exact rd_not rfl)) rfl ?_
         refine d_end ?_
         refine f_then ?_
         refine c_cond rfl (fun h124 => ?_) (fun h124 => ?_)
         ·refine c_exit ?_
          refine f_then_x ?_
          refine f_blk_y rfl ?_
          refine f_then_x ?_
          refine f_then_x ?_
          refine f_blk_x ?_
          refine f_blk ?_
          refine f_then ?_
          refine c_reg ?_
          refine sq (rd_move rfl) rfl ?_
          refine sq (rd_addn (s) (1) rfl rfl rfl rfl (by omega)) rfl ?_
          refine sq (rd_assign rfl) rfl ?_
          refine s_end ?_
          refine f_again ((s + 1, i2, dj)) (⟨by omega, by omega, by omega, hdj, by rw [hoq, show 5 - s = (5 - (s + 1)) + 1 from by omega]; exact pi_go (d2 := d2) (d3 := dj) hi2q (by omega) (by omega) hd2e (by rw [if_pos (by omega), hjq]; exact (su_stop (fun _ => (by first | simpa using h124 | simpa [Sort.ltInt] using h124))).symm)⟩) (by show 5 - (s + 1) < 5 - s; omega) (by repeat constructor) (fun _ h => h.sb)
         ·refine c_skip ?_
          refine f_then ?_
          refine c_regd [] (.q 0 (.q 1 (.q 2 (.q 3 (.q 4 (.q 5 (.q 6 (.q 7 (.q 8 (.q 10 (.q 11 (.q 12 (.alt 9 (.alt 13 (.q 14 (.alt 15 (.q 16 (.alt 17 .done .stop)) .stop)) .stop) (.alt 13 (.alt 9 (.q 14 (.alt 15 (.q 16 (.alt 17 .done .stop)) .stop)) .stop) .stop)))))))))))))) (by kernel_rfl) (by kernel_rfl) (by kernel_rfl) (by kernel_rfl) (fun _ h => h.sb) ?_
          refine dq rfl (rd_move rfl) rfl ?_
          refine dq rfl (rd_move rfl) rfl ?_
          refine dq rfl (rd_move rfl) rfl ?_
          refine dq rfl (rd_move rfl) rfl ?_
          refine dq rfl (rd_subn (j) (1) rfl rfl rfl rfl (by omega) (by omega)) rfl ?_
          refine dq rfl (rd_move rfl) rfl ?_
          refine dq rfl (rd_move rfl) rfl ?_
          refine dq rfl (rd_subn (j) (1) rfl rfl rfl rfl (by omega) (by omega)) rfl ?_
          refine dq rfl (rd_index S62 rfl rfl hA0 (by omega) (by omega)) rfl ?_
          refine dq rfl (rd_move rfl) rfl ?_
          refine dq rfl (rd_move rfl) rfl ?_
          refine dq rfl (rd_index S62 rfl rfl hA0 (by omega) (by omega)) rfl ?_
          refine de rfl rfl (ef_quiet (rd_ldsr A64 (by first | exact .head _) rfl (arr_part (f := SN.enc) SN.enc_len (i := (j - 1)) (by first | omega | (simp only [swp_size, Array.size_setIfInBounds]; omega)))) rfl) (fun _ h => h.sb) ?_ ?_
          ·refine de rfl rfl (ef_quiet (rd_ldsr A64 (by first | exact .head _) rfl (arr_part (f := SN.enc) SN.enc_len (i := j) (by first | omega | (simp only [swp_size, Array.size_setIfInBounds]; omega)))) rfl) (fun _ h => h.sb) ?_ d_stop
           refine dq rfl (rd_index S62 rfl rfl hA0 (by omega) (by omega)) rfl ?_
           refine de rfl rfl (ef_storea SN.enc (j) Sz64 rfl rfl rfl SN.enc_len SN.enc_cells (by decide) (by omega) (by first | omega | (simp only [swp_size, Array.size_setIfInBounds]; omega))) (fun _ h => h.sb) ?_ d_stop
           refine dq rfl (rd_index S62 rfl rfl hA0 (by omega) (by omega)) rfl ?_
           refine de rfl rfl (ef_storea SN.enc ((j - 1)) Sz64 rfl rfl rfl SN.enc_len SN.enc_cells (by decide) (by omega) (by first | omega | (simp only [swp_size, Array.size_setIfInBounds]; omega))) (fun _ h => h.sb) ?_ d_stop
           refine d_end ?_
           refine f_blk ?_
           refine f_then ?_
           refine c_reg ?_
           refine sq (rd_move rfl) rfl ?_
           refine sq (rd_addn (j) (1) rfl rfl rfl rfl (by omega)) rfl ?_
           refine sq (rd_assign rfl) rfl ?_
           refine s_end ?_
           refine f_again ((j + 1, Sort.swp dj j (j - 1))) (⟨by omega, by omega, by simpa using hdj, by rw [hjq]; exact su_go (by omega) (by first | simpa using h124 | simpa [Sort.ltInt] using h124)⟩) (by show b - (j + 1) < b - j; omega) (by repeat constructor) (fun _ h => h.sb)
          refine de rfl rfl (ef_quiet (rd_ldsr A64 (by first | exact .head _) rfl (arr_part (f := SN.enc) SN.enc_len (i := j) (by first | omega | (simp only [swp_size, Array.size_setIfInBounds]; omega)))) rfl) (fun _ h => h.sb) ?_ ?_
          ·refine de rfl rfl (ef_quiet (rd_ldsr A64 (by first | exact .head _) rfl (arr_part (f := SN.enc) SN.enc_len (i := (j - 1)) (by first | omega | (simp only [swp_size, Array.size_setIfInBounds]; omega)))) rfl) (fun _ h => h.sb) ?_ d_stop
           refine dq rfl (rd_index S62 rfl rfl hA0 (by omega) (by omega)) rfl ?_
           refine de rfl rfl (ef_storea SN.enc (j) Sz64 rfl rfl rfl SN.enc_len SN.enc_cells (by decide) (by omega) (by first | omega | (simp only [swp_size, Array.size_setIfInBounds]; omega))) (fun _ h => h.sb) ?_ d_stop
           refine dq rfl (rd_index S62 rfl rfl hA0 (by omega) (by omega)) rfl ?_
           refine de rfl rfl (ef_storea SN.enc ((j - 1)) Sz64 rfl rfl rfl SN.enc_len SN.enc_cells (by decide) (by omega) (by first | omega | (simp only [swp_size, Array.size_setIfInBounds]; omega))) (fun _ h => h.sb) ?_ d_stop
           refine d_end ?_
           refine f_blk ?_
           refine f_then ?_
           refine c_reg ?_
           refine sq (rd_move rfl) rfl ?_
           refine sq (rd_addn (j) (1) rfl rfl rfl rfl (by omega)) rfl ?_
           refine sq (rd_assign rfl) rfl ?_
           refine s_end ?_
           refine f_again ((j + 1, Sort.swp dj j (j - 1))) (⟨by omega, by omega, by simpa using hdj, by rw [hjq]; exact su_go (by omega) (by first | simpa using h124 | simpa [Sort.ltInt] using h124)⟩) (by show b - (j + 1) < b - j; omega) (by repeat constructor) (fun _ h => h.sb)
          exact d_stop
        ·refine c_exit ?_
         refine f_then_x ?_
         refine f_then_x ?_
         refine f_blk_x ?_
         refine f_blk ?_
         refine f_then ?_
         refine c_reg ?_
         refine sq (rd_move rfl) rfl ?_
         refine sq (rd_addn (s) (1) rfl rfl rfl rfl (by omega)) rfl ?_
         refine sq (rd_assign rfl) rfl ?_
         refine s_end ?_
         refine f_again ((s + 1, i2, dj)) (⟨by omega, by omega, by omega, hdj, by rw [hoq, show 5 - s = (5 - (s + 1)) + 1 from by omega]; exact pi_go (d2 := d2) (d3 := dj) hi2q (by omega) (by omega) hd2e (by rw [if_pos (by omega), hjq]; exact (su_stop (fun h => absurd h (by omega))).symm)⟩) (by show 5 - (s + 1) < 5 - s; omega) (by repeat constructor) (fun _ h => h.sb)
       ·refine c_skip ?_
        refine f_blk ?_
        refine f_then ?_
        refine c_reg ?_
        refine sq (rd_move rfl) rfl ?_
        refine sq (rd_addn (s) (1) rfl rfl rfl rfl (by omega)) rfl ?_
        refine sq (rd_assign rfl) rfl ?_
        refine s_end ?_
        refine f_again ((s + 1, i2, d2)) (⟨by omega, by omega, by omega, hd2, by rw [hoq, show 5 - s = (5 - (s + 1)) + 1 from by omega]; exact pi_go (d2 := d2) (d3 := d2) hi2q (by omega) (by omega) hd2e (by rw [if_neg (by omega)])⟩) (by show 5 - (s + 1) < 5 - s; omega) (by repeat constructor) (fun _ h => h.sb)
 ·refine c_exit ?_
  refine f_then_x ?_
  refine f_then_x ?_
  refine f_blk_x ?_
  refine f_then ?_
  refine c_seq ?_
  refine c_reg ?_
  refine sq (rd_assign rfl) rfl ?_
  refine s_end ?_
  refine f_then ?_
  refine c_ret ?_
  refine f_ret rfl (.tmp rfl .nil) ?_
  have hp : Sort.partialInsertionSort (ltOf cmp) d a b = (dk, false) := hoq.trans (by rw [show 5 - s = 0 from by omega, Sort.partialIns])
  exact fun w' hS => ⟨_, rfl, (dk, false), rfl, hp, hS⟩

theorem c168 (w : World) (A : Option Addr) (cap n : Nat) (d : Array Int) (hd : d.size = n) (hn : n ≤ 1000000) (a b pivot : Nat) (hap : a ≤ pivot) (hpb : pivot < b) (hb : b ≤ n) (hS : St w (fpOf [.row 3 1 A n cap (ints d.toList)]) [.row 3 1 A n cap (ints d.toList)] w) : Calls Tryz.prog 168 [.slice A n cap, .int .i64 (a : Int), .int .i64 (b : Int), .int .i64 (pivot : Int)].toArray w (RtE fun v w' => ∃ x : Nat × Array Int, v = (fun x => .int .i64 (x.1 : Int)) x ∧ (fun x => Sort.partitionEqual Sort.ltInt d a b pivot = x) x ∧ St w (fpOf [.row 3 1 A n cap (ints d.toList)]) ((fun x => [.row 3 1 A n cap (ints x.2.toList)]) x) w') := by
 refine enter Tryz.func168 rfl Tryz.ntmps168 rfl hS ?_
 refine c_seq ?_
 have hA0 : 0 < n → plainA A := fun h => ((row_know (List.mem_cons_self ..) w hS).2.2.2 h).1
 refine c_reg ?_
 refine sq (rd_assign rfl) rfl ?_
 refine s_end ?_
 refine f_then ?_
 refine c_meet2 (α := Unit) (fun x => True) (fun x => [.row 3 1 A n cap (ints (Sort.swp d a pivot).toList)]) [] (fun x => []) [(0, _), (1, _), (2, _), (8, _)] (by repeat constructor) [.row _ _ A n cap _] (fun _ h => h) ?_ ?_
 ·refine c_regd [] (.q 0 (.q 1 (.q 2 (.q 3 (.q 4 (.q 5 (.q 6 (.q 8 (.q 9 (.q 10 (.alt 7 (.alt 11 (.q 12 (.alt 13 (.q 14 (.alt 15 .done .stop)) .stop)) .stop) (.alt 11 (.alt 7 (.q 12 (.alt 13 (.q 14 (.alt 15 .done .stop)) .stop)) .stop) .stop)))))))))))) (by kernel_rfl) (by kernel_rfl) (by kernel_rfl) (by kernel_rfl) (fun _ h => h.sb) ?_
  refine dq rfl (rd_move rfl) rfl ?_
  refine dq rfl (rd_move rfl) rfl ?_
  refine dq rfl (rd_move rfl) rfl ?_
  refine dq rfl (rd_move rfl) rfl ?_
  refine dq rfl (rd_move rfl) rfl ?_
  refine dq rfl (rd_move rfl) rfl ?_
  refine dq rfl (rd_index S128 rfl rfl hA0 (by omega) (by omega)) rfl ?_
  refine dq rfl (rd_move rfl) rfl ?_
  refine dq rfl (rd_move rfl) rfl ?_
  refine dq rfl (rd_index S128 rfl rfl hA0 (by omega) (by omega)) rfl ?_
  refine de rfl rfl (ef_quiet (rd_ldr C3 (by first | exact .head _) rfl (arr_get1 (i := pivot) (by first | omega | (simp only [swp_size, Array.size_setIfInBounds]; omega)))) rfl) (fun _ h => h.sb) ?_ ?_
  ·refine de rfl rfl (ef_quiet (rd_ldr C3 (by first | exact .head _) rfl (arr_get1 (i := a) (by first | omega | (simp only [swp_size, Array.size_setIfInBounds]; omega)))) rfl) (fun _ h => h.sb) ?_ d_stop
   refine dq rfl (rd_index S128 rfl rfl hA0 (by omega) (by omega)) rfl ?_
   refine de rfl rfl (ef_storei (a) Sz3 rfl rfl rfl (by omega) (by first | omega | (simp only [swp_size, Array.size_setIfInBounds]; omega))) (fun _ h => h.sb) ?_ d_stop
   refine dq rfl (rd_index S128 rfl rfl hA0 (by omega) (by omega)) rfl ?_
   refine de rfl rfl (ef_storei (pivot) Sz3 rfl rfl rfl (by omega) (by first | omega | (simp only [swp_size, Array.size_setIfInBounds]; omega))) (fun _ h => h.sb) ?_ d_stop
   refine d_end ?_
   refine f_cut (()) (trivial) (by repeat constructor) (fun _ h => h.sb)
  refine de rfl rfl (ef_quiet (rd_ldr C3 (by first | exact .head _) rfl (arr_get1 (i := a) (by first | omega | (simp only [swp_size, Array.size_setIfInBounds]; omega)))) rfl) (fun _ h => h.sb) ?_ ?_
  ·refine de rfl rfl (ef_quiet (rd_ldr C3 (by first | exact .head _) rfl (arr_get1 (i := pivot) (by first | omega | (simp only [swp_size, Array.size_setIfInBounds]; omega)))) rfl) (fun _ h => h.sb) ?_ d_stop
   refine dq rfl (rd_index S128 rfl rfl hA0 (by omega) (by omega)) rfl ?_
   refine de rfl rfl (ef_storei (a) Sz3 rfl rfl rfl (by omega) (by first | omega | (simp only [swp_size, Array.size_setIfInBounds]; omega))) (fun _ h => h.sb) ?_ d_stop
   refine dq rfl (rd_index S128 rfl rfl hA0 (by omega) (by omega)) rfl ?_
   refine de rfl rfl (ef_storei (pivot) Sz3 rfl rfl rfl (by omega) (by first | omega | (simp only [swp_size, Array.size_setIfInBounds]; omega))) (fun _ h => h.sb) ?_ d_stop
   refine d_end ?_
   refine f_cut (()) (trivial) (by repeat constructor) (fun _ h => h.sb)
  exact d_stop
 ·rintro _ _
  refine c_seq ?_
  refine c_reg ?_
  refine sq (rd_move rfl) rfl ?_
  refine sq (rd_addn (a) (1) rfl rfl rfl rfl (by omega)) rfl ?_
  refine sq (rd_move rfl) rfl ?_
  refine sq (rd_subn (b) (1) rfl rfl rfl rfl (by omega) (by omega)) rfl ?_
  refine sq (rd_assign rfl) rfl ?_
  refine sq (rd_assign rfl) rfl ?_
  refine s_end ?_
  refine f_then ?_
  refine c_seq ?_
  refine c_block ?_
  refine c_keep (L' := [(0, _), (1, _), (8, _), (9, _), (10, _)]) (by repeat constructor) ?_
  refine c_for (α := Nat × Nat × Array Int) (fun ⟨i, j, dk⟩ => a + 1 ≤ i ∧ i ≤ j + 1 ∧ j ≤ b - 1 ∧ dk.size = n ∧ Sort.partitionEqual Sort.ltInt d a b pivot = Sort.partEqLoop Sort.ltInt a i j dk) (fun ⟨i, j, dk⟩ => [.row 3 1 A n cap (ints dk.toList)]) [] (fun ⟨i, j, dk⟩ => [(9, .int .i64 (i : Int)), (10, .int .i64 (j : Int))]) [(0, _), (1, _), (8, _)] (fun ⟨i, j, dk⟩ => j + 1 - i) ((a + 1, b - 1, Sort.swp d a pivot)) (⟨by omega, by omega, by omega, by simpa using hd, rfl⟩) (by repeat constructor) (fun _ h => h) ?_
  rintro ⟨i, j, dk⟩ ⟨ho1, ho2, ho3, hdk, hoq⟩
  refine c_block ?_
  refine c_meet2 (α := Nat) (fun u => i ≤ u ∧ u ≤ j + 1 ∧ Sort.scanUp (fun x => !Sort.ltInt dk[a]! x) dk j (i) = u ∧ (u ≤ j → (fun x => !Sort.ltInt dk[a]! x) dk[u]! = false)) (fun u => []) [.row _ _ A n cap _] (fun u => [(9, .int .i64 (u : Int))]) [(10, _), (0, _), (1, _), (8, _)] (by repeat constructor) [] (fun _ h => h) ?_ ?_
  ·refine c_block ?_
   refine c_keep (L' := [(9, _), (10, _), (0, _), (1, _), (8, _)]) (by repeat constructor) ?_
   refine c_for (α := Nat) (fun u => i ≤ u ∧ u ≤ j + 1 ∧ Sort.scanUp (fun x => !Sort.ltInt dk[a]! x) dk j (i) = Sort.scanUp (fun x => !Sort.ltInt dk[a]! x) dk j u) (fun u => []) [.row _ _ A n cap _] (fun u => [(9, .int .i64 (u : Int))]) [(10, _), (0, _), (1, _), (8, _)] (fun u => j + 1 - u) (i) (⟨by omega, by omega, rfl⟩) (by repeat constructor) (fun _ h => h) ?_
   rintro u ⟨hs1, hs2, hsq⟩
   refine c_seq ?_
   refine c_seq ?_
   refine c_regd [.row _ _ A n cap _] (.q 0 (.q 1 (.q 2 (.q 3 (.q 4 (.q 5 (.q 6 (.q 7 (.q 8 (.q 9 (.q 10 (.q 11 (.alt 12 (.q 13 (.q 14 .done)) .stop))))))))))))) (by kernel_rfl) (by kernel_rfl) (by kernel_rfl) (by kernel_rfl) (fun _ h => h.sb) ?_
   refine dq rfl (rd_move rfl) rfl ?_
   refine dq rfl (rd_move rfl) rfl ?_
   refine dq rfl (rd_leq rfl rfl) rfl ?_
   refine dq rfl (rd_move rfl) rfl ?_
   refine d_split (d := 32) rfl (fun g32 => ?_) (fun g32 => ?_)
   ·try have g32p := of_decide_eq_true g32
    refine dq1 rfl (fun a hA => wanted_yes hA rfl rfl rfl g32) (rd_move rfl) rfl ?_
    refine dq1 rfl (fun a hA => wanted_yes hA rfl rfl rfl g32) (rd_move rfl) rfl ?_
    refine dq1 rfl (fun a hA => wanted_yes hA rfl rfl rfl g32) (rd_index S128 rfl rfl hA0 (by omega) (by omega)) rfl ?_
    refine dq1 rfl (fun a hA => wanted_yes hA rfl rfl rfl g32) (rd_ldr C3 (by first | exact .head _) rfl (arr_get1 (i := a) (by first | omega | (simp only [swp_size, Array.size_setIfInBounds]; omega)))) rfl ?_
    refine dq1 rfl (fun a hA => wanted_yes hA rfl rfl rfl g32) (rd_move rfl) rfl ?_
    refine dq1 rfl (fun a hA => wanted_yes hA rfl rfl rfl g32) (rd_move rfl) rfl ?_
    refine dq1 rfl (fun a hA => wanted_yes hA rfl rfl rfl g32) (rd_index S128 rfl rfl hA0 (by omega) (by omega)) rfl ?_
    refine dq1 rfl (fun a hA => wanted_yes hA rfl rfl rfl g32) (rd_ldr C3 (by first | exact .head _) rfl (arr_get1 (i := u) (by first | omega | (simp only [swp_size, Array.size_setIfInBounds]; omega)))) rfl ?_
    refine deg rfl (fun a hA => wanted_yes hA rfl rfl rfl g32) (ef_pure rfl rfl K167 rfl (by exact c167 _ _)) (fun _ h => h.sb) ?_ d_stop
    refine dq1 rfl (fun a hA => wanted_yes hA rfl rfl rfl g32) ((by first | exact rd_notd rfl | exact rd_not rfl)) rfl ?_
    refine dq rfl (rd_pick_tt rfl g32 rfl) rfl ?_
    refine d_end ?_
    refine f_then ?_
    refine c_cond rfl (fun h43 => ?_) (fun h43 => ?_)
    ·refine c_skip ?_
     refine f_then ?_
     refine c_block ?_
     refine c_reg ?_
     refine sq (rd_move rfl) rfl ?_
     refine sq (rd_addn (u) (1) rfl rfl rfl rfl (by omega)) rfl ?_
     refine sq (rd_assign rfl) rfl ?_
     refine s_end ?_
     refine f_blk ?_
     refine f_again (u + 1) (⟨by omega, by omega, by rw [hsq]; exact up_go (by omega) (by first | exact h43 | simpa using h43 | simpa [Sort.ltInt] using h43)⟩) (by omega) (by repeat constructor) (fun _ h => h.sb)
    ·refine c_exit ?_
     refine f_then_x ?_
     refine f_then_x ?_
     refine f_blk_x ?_
     have hst : u ≤ j → (fun x => !Sort.ltInt dk[a]! x) dk[u]! = false := fun h => (by first | simpa using h43 | simpa [Sort.ltInt] using h43)
     refine f_cut (u) (⟨by omega, by omega, by rw [hsq]; exact up_stop hst, hst⟩) (by repeat constructor) (fun _ h => h.sb)
   ·try have g32p := of_decide_eq_false g32
    refine dq0 rfl (fun a hA => wanted_no hA rfl rfl rfl g32 rfl) rfl ?_
    refine dq0 rfl (fun a hA => wanted_no hA rfl rfl rfl g32 rfl) rfl ?_
    refine dq0 rfl (fun a hA => wanted_no hA rfl rfl rfl g32 rfl) rfl ?_
    refine dq0 rfl (fun a hA => wanted_no hA rfl rfl rfl g32 rfl) rfl ?_
    refine dq0 rfl (fun a hA => wanted_no hA rfl rfl rfl g32 rfl) rfl ?_
    refine dq0 rfl (fun a hA => wanted_no hA rfl rfl rfl g32 rfl) rfl ?_
    refine dq0 rfl (fun a hA => wanted_no hA rfl rfl rfl g32 rfl) rfl ?_
    refine dq0 rfl (fun a hA => wanted_no hA rfl rfl rfl g32 rfl) rfl ?_
    refine de0 rfl (fun a hA => wanted_no hA rfl rfl rfl g32 rfl) rfl (fun _ h => h.sb) ?_ d_stop
    refine dq0 rfl (fun a hA => wanted_no hA rfl rfl rfl g32 rfl) rfl ?_
    refine dq rfl (rd_pick_ff rfl g32 rfl) rfl ?_
    refine d_end ?_
    refine f_then ?_
    refine c_lit_f rfl ?_
    refine c_exit ?_
    refine f_then_x ?_
    refine f_then_x ?_
    refine f_blk_x ?_
    have hst : u ≤ j → (fun x => !Sort.ltInt dk[a]! x) dk[u]! = false := fun h => absurd h (by omega)
    refine f_cut (u) (⟨by omega, by omega, by rw [hsq]; exact up_stop hst, hst⟩) (by repeat constructor) (fun _ h => h.sb)
  ·rintro i2 ⟨hi21, hi22, hi2q, hi2s⟩
   refine c_meet2 (α := Nat) (fun v => i2 ≤ v + 1 ∧ v ≤ j ∧ Sort.scanDown (fun x => Sort.ltInt dk[a]! x) dk i2 (j) = v ∧ (i2 ≤ v → (fun x => Sort.ltInt dk[a]! x) dk[v]! = false)) (fun v => []) [.row _ _ A n cap _] (fun v => [(10, .int .i64 (v : Int))]) [(9, _), (0, _), (1, _), (8, _)] (by repeat constructor) [] (fun _ h => h) ?_ ?_
   ·refine c_block ?_
    refine c_keep (L' := [(9, _), (10, _), (0, _), (1, _), (8, _)]) (by repeat constructor) ?_
    refine c_for (α := Nat) (fun v => i2 ≤ v + 1 ∧ v ≤ j ∧ Sort.scanDown (fun x => Sort.ltInt dk[a]! x) dk i2 (j) = Sort.scanDown (fun x => Sort.ltInt dk[a]! x) dk i2 v) (fun v => []) [.row _ _ A n cap _] (fun v => [(10, .int .i64 (v : Int))]) [(9, _), (0, _), (1, _), (8, _)] (fun v => v) (j) (⟨by omega, by omega, rfl⟩) (by repeat constructor) (fun _ h => h) ?_
    rintro v ⟨hs1, hs2, hsq⟩
    refine c_seq ?_
    refine c_seq ?_
    refine c_regd [.row _ _ A n cap _] (.q 0 (.q 1 (.q 2 (.q 3 (.q 4 (.q 5 (.q 6 (.q 7 (.q 8 (.q 9 (.q 10 (.q 11 (.alt 12 (.q 13 .done) .stop))))))))))))) (by kernel_rfl) (by kernel_rfl) (by kernel_rfl) (by kernel_rfl) (fun _ h => h.sb) ?_
    refine dq rfl (rd_move rfl) rfl ?_
    refine dq rfl (rd_move rfl) rfl ?_
    refine dq rfl (rd_leq rfl rfl) rfl ?_
    refine dq rfl (rd_move rfl) rfl ?_
    refine d_split (d := 49) rfl (fun g49 => ?_) (fun g49 => ?_)
    ·try have g49p := of_decide_eq_true g49
     refine dq1 rfl (fun a hA => wanted_yes hA rfl rfl rfl g49) (rd_move rfl) rfl ?_
     refine dq1 rfl (fun a hA => wanted_yes hA rfl rfl rfl g49) (rd_move rfl) rfl ?_
     refine dq1 rfl (fun a hA => wanted_yes hA rfl rfl rfl g49) (rd_index S128 rfl rfl hA0 (by omega) (by omega)) rfl ?_
     refine dq1 rfl (fun a hA => wanted_yes hA rfl rfl rfl g49) (rd_ldr C3 (by first | exact .head _) rfl (arr_get1 (i := a) (by first | omega | (simp only [swp_size, Array.size_setIfInBounds]; omega)))) rfl ?_
     refine dq1 rfl (fun a hA => wanted_yes hA rfl rfl rfl g49) (rd_move rfl) rfl ?_
     refine dq1 rfl (fun a hA => wanted_yes hA rfl rfl rfl g49) (rd_move rfl) rfl ?_
     refine dq1 rfl (fun a hA => wanted_yes hA rfl rfl rfl g49) (rd_index S128 rfl rfl hA0 (by omega) (by omega)) rfl ?_
     refine dq1 rfl (fun a hA => wanted_yes hA rfl rfl rfl g49) (rd_ldr C3 (by first | exact .head _) rfl (arr_get1 (i := v) (by first | omega | (simp only [swp_size, Array.size_setIfInBounds]; omega)))) rfl ?_
     refine deg rfl (fun a hA => wanted_yes hA rfl rfl rfl g49) (ef_pure rfl rfl K167 rfl (by exact c167 _ _)) (fun _ h => h.sb) ?_ d_stop
     refine dq rfl (rd_pick_tt rfl g49 rfl) rfl ?_
     refine d_end ?_
     refine f_then ?_
     refine c_cond rfl (fun h59 => ?_) (fun h59 => ?_)
     ·refine c_skip ?_
      refine f_then ?_
      refine c_block ?_
      refine c_reg ?_
      refine sq (rd_move rfl) rfl ?_
      refine sq (rd_subn (v) (1) rfl rfl rfl rfl (by omega) (by omega)) rfl ?_
      refine sq (rd_assign rfl) rfl ?_
      refine s_end ?_
      refine f_blk ?_
      refine f_again (v - 1) (⟨by omega, by omega, by rw [hsq]; exact down_go (by omega) (by omega) (by first | exact h59 | simpa using h59 | simpa [Sort.ltInt] using h59)⟩) (by omega) (by repeat constructor) (fun _ h => h.sb)
     ·refine c_exit ?_
      refine f_then_x ?_
      refine f_then_x ?_
      refine f_blk_x ?_
      have hst : i2 ≤ v → (fun x => Sort.ltInt dk[a]! x) dk[v]! = false := fun h => (by first | simpa using h59 | simpa [Sort.ltInt] using h59)
      refine f_cut (v) (⟨by omega, by omega, by rw [hsq]; exact down_stop hst, hst⟩) (by repeat constructor) (fun _ h => h.sb)
    ·try have g49p := of_decide_eq_false g49
     refine dq0 rfl (fun a hA => wanted_no hA rfl rfl rfl g49 rfl) rfl ?_
     refine dq0 rfl (fun a hA => wanted_no hA rfl rfl rfl g49 rfl) rfl ?_
     refine dq0 rfl (fun a hA => wanted_no hA rfl rfl rfl g49 rfl) rfl ?_
     refine dq0 rfl (fun a hA => wanted_no hA rfl rfl rfl g49 rfl) rfl ?_
     refine dq0 rfl (fun a hA => wanted_no hA rfl rfl rfl g49 rfl) rfl ?_
     refine dq0 rfl (fun a hA => wanted_no hA rfl rfl rfl g49 rfl) rfl ?_
     refine dq0 rfl (fun a hA => wanted_no hA rfl rfl rfl g49 rfl) rfl ?_
     refine dq0 rfl (fun a hA => wanted_no hA rfl rfl rfl g49 rfl) rfl ?_
     refine de0 rfl (fun a hA => wanted_no hA rfl rfl rfl g49 rfl) rfl (fun _ h => h.sb) ?_ d_stop
     refine dq rfl (rd_pick_ff rfl g49 rfl) rfl ?_
     refine d_end ?_
     refine f_then ?_
     refine c_lit_f rfl ?_
     refine c_exit ?_
     refine f_then_x ?_
     refine f_then_x ?_
     refine f_blk_x ?_
     have hst : i2 ≤ v → (fun x => Sort.ltInt dk[a]! x) dk[v]! = false := fun h => absurd h (by omega)
     refine f_cut (v) (⟨by omega, by omega, by rw [hsq]; exact down_stop hst, hst⟩) (by repeat constructor) (fun _ h => h.sb)
   ·rintro j2 ⟨hj21, hj22, hj2q, hj2s⟩
    refine c_seq ?_
    refine c_seq ?_
    refine c_reg ?_
    refine sq (rd_move rfl) rfl ?_
    refine sq (rd_move rfl) rfl ?_
    refine sq (rd_gtr rfl rfl) rfl ?_
    refine s_end ?_
    refine f_then ?_
    refine c_if rfl (fun h64 => ?_) (fun h64 => ?_)
    ·refine c_exit ?_
     refine f_then_x ?_
     refine f_blk_y rfl ?_
     refine f_then_x ?_
     refine f_blk_x ?_
     refine f_then ?_
     refine c_seq ?_
     refine c_reg ?_
     refine sq (rd_move rfl) rfl ?_
     refine sq (rd_assign rfl) rfl ?_
     refine s_end ?_
     refine f_then ?_
     refine c_ret ?_
     refine f_ret rfl (.tmp rfl .nil) ?_
     exact fun w' hS => ⟨_, rfl, (i2, dk), rfl, hoq.trans (pe_done hi2q hj2q (by omega)), hS⟩
    ·refine c_skip ?_
     refine f_then ?_
     have hlt : i2 < j2 := by
      rcases Nat.lt_or_ge i2 j2 with h | h
      ·exact h
      ·have e : i2 = j2 := by omega
       have e1 := hi2s (by omega)
       have e2 := hj2s (by omega)
       rw [e] at e1
       exact absurd (e2.symm.trans (not_false_ e1)) Bool.false_ne_true
     refine c_meet2 (α := Unit) (fun x => True) (fun x => [.row 3 1 A n cap (ints (Sort.swp dk i2 j2).toList)]) [] (fun x => []) [(10, _), (9, _), (0, _), (1, _), (8, _), (62, _), (63, _), (64, _)] (by repeat constructor) [.row _ _ A n cap _] (fun _ h => h) ?_ ?_
     ·refine c_regd [] (.q 0 (.q 1 (.q 2 (.q 3 (.q 4 (.q 5 (.q 6 (.q 8 (.q 9 (.q 10 (.alt 7 (.alt 11 (.q 12 (.alt 13 (.q 14 (.alt 15 .done .stop)) .stop)) .stop) (.alt 11 (.alt 7 (.q 12 (.alt 13 (.q 14 (.alt 15 .done .stop)) .stop)) .stop) .stop)))))))))))) (by kernel_rfl) (by kernel_rfl) (by kernel_rfl) (by kernel_rfl) (fun _ h => h.sb) ?_
      refine dq rfl (rd_move rfl) rfl ?_
      refine dq rfl (rd_move rfl) rfl ?_
      refine dq rfl (rd_move rfl) rfl ?_
      refine dq rfl (rd_move rfl) rfl ?_
      refine dq rfl (rd_move rfl) rfl ?_
      refine dq rfl (rd_move rfl) rfl ?_
      refine dq rfl (rd_index S128 rfl rfl hA0 (by omega) (by omega)) rfl ?_
      refine dq rfl (rd_move rfl) rfl ?_
      refine dq rfl (rd_move rfl) rfl ?_
      refine dq rfl (rd_index S128 rfl rfl hA0 (by omega) (by omega)) rfl ?_
      refine de rfl rfl (ef_quiet (rd_ldr C3 (by first | exact .head _) rfl (arr_get1 (i := j2) (by first | omega | (simp only [swp_size, Array.size_setIfInBounds]; omega)))) rfl) (fun _ h => h.sb) ?_ ?_
      ·refine de rfl rfl (ef_quiet (rd_ldr C3 (by first | exact .head _) rfl (arr_get1 (i := i2) (by first | omega | (simp only [swp_size, Array.size_setIfInBounds]; omega)))) rfl) (fun _ h => h.sb) ?_ d_stop
       refine dq rfl (rd_index S128 rfl rfl hA0 (by omega) (by omega)) rfl ?_
       refine de rfl rfl (ef_storei (i2) Sz3 rfl rfl rfl (by omega) (by first | omega | (simp only [swp_size, Array.size_setIfInBounds]; omega))) (fun _ h => h.sb) ?_ d_stop
       refine dq rfl (rd_index S128 rfl rfl hA0 (by omega) (by omega)) rfl ?_
       refine de rfl rfl (ef_storei (j2) Sz3 rfl rfl rfl (by omega) (by first | omega | (simp only [swp_size, Array.size_setIfInBounds]; omega))) (fun _ h => h.sb) ?_ d_stop
       refine d_end ?_
       refine f_cut (()) (trivial) (by repeat constructor) (fun _ h => h.sb)
      refine de rfl rfl (ef_quiet (rd_ldr C3 (by first | exact .head _) rfl (arr_get1 (i := i2) (by first | omega | (simp only [swp_size, Array.size_setIfInBounds]; omega)))) rfl) (fun _ h => h.sb) ?_ ?_
      ·refine de rfl rfl (ef_quiet (rd_ldr C3 (by first | exact .head _) rfl (arr_get1 (i := j2) (by first | omega | (simp only [swp_size, Array.size_setIfInBounds]; omega)))) rfl) (fun _ h => h.sb) ?_ d_stop
       refine dq rfl (rd_index S128 rfl rfl hA0 (by omega) (by omega)) rfl ?_
       refine de rfl rfl (ef_storei (i2) Sz3 rfl rfl rfl (by omega) (by first | omega | (simp only [swp_size, Array.size_setIfInBounds]; omega))) (fun _ h => h.sb) ?_ d_stop
       refine dq rfl (rd_index S128 rfl rfl hA0 (by omega) (by omega)) rfl ?_
       refine de rfl rfl (ef_storei (j2) Sz3 rfl rfl rfl (by omega) (by first | omega | (simp only [swp_size, Array.size_setIfInBounds]; omega))) (fun _ h => h.sb) ?_ d_stop
       refine d_end ?_
       refine f_cut (()) (trivial) (by repeat constructor) (fun _ h => h.sb)
      exact d_stop
     ·rintro _ _
      refine c_seq ?_
      refine c_reg ?_
      refine sq (rd_move rfl) rfl ?_
      refine sq (rd_addn (i2) (1) rfl rfl rfl rfl (by omega)) rfl ?_
      refine sq (rd_assign rfl) rfl ?_
      refine s_end ?_
      refine f_then ?_
      refine c_reg ?_
      refine sq (rd_move rfl) rfl ?_
      refine sq (rd_subn (j2) (1) rfl rfl rfl rfl (by omega) (by omega)) rfl ?_
      refine sq (rd_assign rfl) rfl ?_
      refine s_end ?_
      refine f_blk ?_
      refine f_again ((i2 + 1, j2 - 1, Sort.swp dk i2 j2)) (⟨by omega, by omega, by omega, by simpa using hdk, by rw [hoq]; exact pe_go hi2q hj2q (by omega) (by omega)⟩) (by show j2 - 1 + 1 - (i2 + 1) < j + 1 - i; omega) (by repeat constructor) (fun _ h => h.sb)

theorem c166 (w : World) (A : Option Addr) (cap n : Nat) (d : Array Int) (hd : d.size = n) (hn : n ≤ 1000000) (a b : Nat) (hab : a < b) (hb : b ≤ n) (hS : St w (fpOf [.row 3 1 A n cap (ints d.toList)]) [.row 3 1 A n cap (ints d.toList)] w) : Calls Tryz.prog 166 [.slice A n cap, .int .i64 (a : Int), .int .i64 (b : Int)].toArray w (RtE fun v w' => ∃ x : Array Int × Bool, v = (fun x => .bool x.2) x ∧ (fun x => Sort.partialInsertionSort Sort.ltInt d a b = x) x ∧ St w (fpOf [.row 3 1 A n cap (ints d.toList)]) ((fun x => [.row 3 1 A n cap (ints x.1.toList)]) x) w') := by
 refine enter Tryz.func166 rfl Tryz.ntmps166 rfl hS ?_
 refine c_seq ?_
 have hA0 : 0 < n → plainA A := fun h => ((row_know (List.mem_cons_self ..) w hS).2.2.2 h).1
 refine c_reg ?_
 refine sq (rd_assign rfl) rfl ?_
 refine s_end ?_
 refine f_then ?_
 refine c_seq ?_
 refine c_reg ?_
 refine sq (rd_move rfl) rfl ?_
 refine sq (rd_addn (a) (1) rfl rfl rfl rfl (by omega)) rfl ?_
 refine sq (rd_assign rfl) rfl ?_
 refine s_end ?_
 refine f_then ?_
 refine c_seq ?_
 refine c_seq ?_
 refine c_reg ?_
 refine sq (rd_assign rfl) rfl ?_
 refine s_end ?_
 refine f_then ?_
 refine c_block ?_
 refine c_keep (L' := [(0, _), (1, _), (2, _), (6, _), (7, _), (8, _)]) (by repeat constructor) ?_
 refine c_for (α := Nat × Nat × Array Int) (fun ⟨s, i, dk⟩ => s ≤ 5 ∧ a + 1 ≤ i ∧ i ≤ b ∧ dk.size = n ∧ Sort.partialInsertionSort Sort.ltInt d a b = Sort.partialIns Sort.ltInt a b (5 - s) i dk) (fun ⟨s, i, dk⟩ => [.row 3 1 A n cap (ints dk.toList)]) [] (fun ⟨s, i, dk⟩ => [(8, .int .i64 (s : Int)), (7, .int .i64 (i : Int))]) [(0, _), (1, _), (2, _), (6, _)] (fun ⟨s, i, dk⟩ => 5 - s) ((0, a + 1, d)) (⟨by omega, by omega, by omega, hd, rfl⟩) (by repeat constructor) (fun _ h => h) ?_
 rintro ⟨s, i, dk⟩ ⟨ho0, ho1, ho2, hdk, hoq⟩
 refine c_seq ?_
 refine c_seq ?_
 refine c_reg ?_
 refine sq (rd_move rfl) rfl ?_
 refine sq (rd_lss rfl rfl) rfl ?_
 refine s_end ?_
 refine f_then ?_
 refine c_if rfl (fun h14 => ?_) (fun h14 => ?_)
 ·refine c_skip ?_
  refine f_then ?_
  refine c_seq ?_
  refine c_block ?_
  refine c_meet2 (α := Nat) (fun u => a + 1 ≤ u ∧ u ≤ b ∧ Sort.scanSorted Sort.ltInt dk b i = u) (fun u => []) [.row _ _ A n cap _] (fun u => [(7, .int .i64 (u : Int))]) [(8, _), (0, _), (1, _), (2, _), (6, _), (13, _), (14, _)] (by repeat constructor) [] (fun _ h => h) ?_ ?_
  ·refine c_block ?_
   refine c_keep (L' := [(8, _), (7, _), (0, _), (1, _), (2, _), (6, _), (13, _), (14, _)]) (by repeat constructor) ?_
   refine c_for (α := Nat) (fun u => a + 1 ≤ u ∧ u ≤ b ∧ Sort.scanSorted Sort.ltInt dk b i = Sort.scanSorted Sort.ltInt dk b u) (fun u => []) [.row _ _ A n cap _] (fun u => [(7, .int .i64 (u : Int))]) [(8, _), (0, _), (1, _), (2, _), (6, _), (13, _), (14, _)] (fun u => b - u) (i) (⟨by omega, by omega, rfl⟩) (by repeat constructor) (fun _ h => h) ?_
   rintro u ⟨hs1, hs2, hsq⟩
   refine c_seq ?_
   refine c_seq ?_
   refine c_regd [.row _ _ A n cap _] (.q 0 (.q 1 (.q 2 (.q 3 (.q 4 (.q 5 (.q 6 (.q 7 (.q 8 (.q 9 (.q 10 (.q 11 (.q 12 (.alt 13 (.q 14 (.q 15 .done)) .stop)))))))))))))) (by kernel_rfl) (by kernel_rfl) (by kernel_rfl) (by kernel_rfl) (fun _ h => h.sb) ?_
   refine dq rfl (rd_move rfl) rfl ?_
   refine dq rfl (rd_move rfl) rfl ?_
   refine dq rfl (rd_lss rfl rfl) rfl ?_
   refine dq rfl (rd_move rfl) rfl ?_
   refine d_split (d := 20) rfl (fun g20 => ?_) (fun g20 => ?_)
   ·try have g20p := of_decide_eq_true g20
    refine dq1 rfl (fun a hA => wanted_yes hA rfl rfl rfl g20) (rd_move rfl) rfl ?_
    refine dq1 rfl (fun a hA => wanted_yes hA rfl rfl rfl g20) (rd_move rfl) rfl ?_
    refine dq1 rfl (fun a hA => wanted_yes hA rfl rfl rfl g20) (rd_index S128 rfl rfl hA0 (by omega) (by omega)) rfl ?_
    refine dq1 rfl (fun a hA => wanted_yes hA rfl rfl rfl g20) (rd_ldr C3 (by first | exact .head _) rfl (arr_get1 (i := u) (by first | omega | (simp only [swp_size, Array.size_setIfInBounds]; omega)))) rfl ?_
    refine dq1 rfl (fun a hA => wanted_yes hA rfl rfl rfl g20) (rd_move rfl) rfl ?_
    refine dq1 rfl (fun a hA => wanted_yes hA rfl rfl rfl g20) (rd_move rfl) rfl ?_
    refine dq1 rfl (fun a hA => wanted_yes hA rfl rfl rfl g20) (rd_subn (u) (1) rfl rfl rfl rfl (by omega) (by omega)) rfl ?_
    refine dq1 rfl (fun a hA => wanted_yes hA rfl rfl rfl g20) (rd_index S128 rfl rfl hA0 (by omega) (by omega)) rfl ?_
    refine dq1 rfl (fun a hA => wanted_yes hA rfl rfl rfl g20) (rd_ldr C3 (by first | exact .head _) rfl (arr_get1 (i := (u - 1)) (by first | omega | (simp only [swp_size, Array.size_setIfInBounds]; omega)))) rfl ?_
    refine deg rfl (fun a hA => wanted_yes hA rfl rfl rfl g20) (ef_pure rfl rfl K167 rfl (by exact c167 _ _)) (fun _ h => h.sb) ?_ d_stop
    refine dq1 rfl (fun a hA => wanted_yes hA rfl rfl rfl g20) ((by first | exact rd_notd rfl | exact rd_not rfl)) rfl ?_
    refine dq rfl (rd_pick_tt rfl g20 rfl) rfl ?_
    refine d_end ?_
    refine f_then ?_
    refine c_cond rfl (fun h32 => ?_) (fun h32 => ?_)
    ·refine c_skip ?_
     refine f_then ?_
     refine c_block ?_
     refine c_reg ?_
     refine sq (rd_move rfl) rfl ?_
     refine sq (rd_addn (u) (1) rfl rfl rfl rfl (by omega)) rfl ?_
     refine sq (rd_assign rfl) rfl ?_
     refine s_end ?_
     refine f_blk ?_
     refine f_again (u + 1) (⟨by omega, by omega, by rw [hsq]; exact ss_go (by omega) (by first | simpa using h32 | simpa [Sort.ltInt] using h32)⟩) (by omega) (by repeat constructor) (fun _ h => h.sb)
    ·refine c_exit ?_
     refine f_then_x ?_
     refine f_then_x ?_
     refine f_blk_x ?_
     refine f_cut (u) (⟨by omega, by omega, by rw [hsq]; exact ss_stop (fun _ => (by first | simpa using h32 | simpa [Sort.ltInt] using h32))⟩) (by repeat constructor) (fun _ h => h.sb)
   ·try have g20p := of_decide_eq_false g20
    refine dq0 rfl (fun a hA => wanted_no hA rfl rfl rfl g20 rfl) rfl ?_
    refine dq0 rfl (fun a hA => wanted_no hA rfl rfl rfl g20 rfl) rfl ?_
    refine dq0 rfl (fun a hA => wanted_no hA rfl rfl rfl g20 rfl) rfl ?_
    refine dq0 rfl (fun a hA => wanted_no hA rfl rfl rfl g20 rfl) rfl ?_
    refine dq0 rfl (fun a hA => wanted_no hA rfl rfl rfl g20 rfl) rfl ?_
    refine dq0 rfl (fun a hA => wanted_no hA rfl rfl rfl g20 rfl) rfl ?_
    refine dq0 rfl (fun a hA => wanted_no hA rfl rfl rfl g20 rfl) rfl ?_
    refine dq0 rfl (fun a hA => wanted_no hA rfl rfl rfl g20 rfl) rfl ?_
    refine dq0 rfl (fun a hA => wanted_no hA rfl rfl rfl g20 rfl) rfl ?_
    refine de0 rfl (fun a hA => wanted_no hA rfl rfl rfl g20 rfl) rfl (fun _ h => h.sb) ?_ d_stop
    refine dq0 rfl (fun a hA => wanted_no hA rfl rfl rfl g20 rfl) rfl ?_
    refine dq rfl (rd_pick_ff rfl g20 rfl) rfl ?_
    refine d_end ?_
    refine f_then ?_
    refine c_lit_f rfl ?_
    refine c_exit ?_
    refine f_then_x ?_
    refine f_then_x ?_
    refine f_blk_x ?_
    refine f_cut (u) (⟨by omega, by omega, by rw [hsq]; exact ss_stop (fun h => absurd h (by omega))⟩) (by repeat constructor) (fun _ h => h.sb)
  ·rintro i2 ⟨hi21, hi22, hi2q⟩
   refine c_seq ?_
   refine c_seq ?_
   refine c_reg ?_
   refine sq (rd_move rfl) rfl ?_
   refine sq (rd_move rfl) rfl ?_
   refine sq (rd_eql rfl rfl) rfl ?_
   refine s_end ?_
   refine f_then ?_
   refine c_if rfl (fun h37 => ?_) (fun h37 => ?_)
   ·refine c_seq ?_
    refine c_reg ?_
    refine sq (rd_assign rfl) rfl ?_
    refine s_end ?_
    refine f_then ?_
    refine c_ret ?_
    refine f_then_r ?_
    refine f_blk_r ?_
    refine f_then_r ?_
    refine f_then_r ?_
    refine f_blk_r ?_
    refine f_then_r ?_
    refine f_ret rfl (.tmp rfl .nil) ?_
    have hp : Sort.partialInsertionSort Sort.ltInt d a b = (dk, true) := hoq.trans (by rw [show 5 - s = (5 - (s + 1)) + 1 from by omega]; exact pi_done hi2q (by omega))
    exact fun w' hS => ⟨_, rfl, (dk, true), rfl, hp, hS⟩
   ·refine c_skip ?_
    refine f_then ?_
    refine c_seq ?_
    refine c_seq ?_
    refine c_reg ?_
    refine sq (rd_move rfl) rfl ?_
    refine sq (rd_move rfl) rfl ?_
    refine sq (rd_subn (b) (a) rfl rfl rfl rfl (by omega) (by omega)) rfl ?_
    refine sq (rd_lss rfl rfl) rfl ?_
    refine s_end ?_
    refine f_then ?_
    refine c_if rfl (fun h41 => ?_) (fun h41 => ?_)
    ·refine c_seq ?_
     refine c_reg ?_
     refine sq (rd_assign rfl) rfl ?_
     refine s_end ?_
     refine f_then ?_
     refine c_ret ?_
     refine f_then_r ?_
     refine f_blk_r ?_
     refine f_then_r ?_
     refine f_then_r ?_
     refine f_blk_r ?_
     refine f_then_r ?_
     refine f_ret rfl (.tmp rfl .nil) ?_
     have hp : Sort.partialInsertionSort Sort.ltInt d a b = (dk, false) := hoq.trans (by rw [show 5 - s = (5 - (s + 1)) + 1 from by omega]; exact pi_short hi2q (by omega) (by omega))
     exact fun w' hS => ⟨_, rfl, (dk, false), rfl, hp, hS⟩
    ·refine c_skip ?_
     refine f_then ?_
     refine c_meet2 (α := Unit) (fun x => True) (fun x => [.row 3 1 A n cap (ints (Sort.swp dk i2 (i2 - 1)).toList)]) [] (fun x => []) [(7, _), (8, _), (0, _), (1, _), (2, _), (6, _), (13, _), (14, _), (35, _), (36, _), (37, _), (38, _), (39, _), (40, _), (41, _)] (by repeat constructor) [.row _ _ A n cap _] (fun _ h => h) ?_ ?_
     ·refine c_regd [] (.q 0 (.q 1 (.q 2 (.q 3 (.q 4 (.q 5 (.q 6 (.q 7 (.q 8 (.q 10 (.q 11 (.q 12 (.alt 9 (.alt 13 (.q 14 (.alt 15 (.q 16 (.alt 17 .done .stop)) .stop)) .stop) (.alt 13 (.alt 9 (.q 14 (.alt 15 (.q 16 (.alt 17 .done .stop)) .stop)) .stop) .stop)))))))))))))) (by kernel_rfl) (by kernel_rfl) (by kernel_rfl) (by kernel_rfl) (fun _ h => h.sb) ?_
      refine dq rfl (rd_move rfl) rfl ?_
      refine dq rfl (rd_move rfl) rfl ?_
      refine dq rfl (rd_move rfl) rfl ?_
      refine dq rfl (rd_move rfl) rfl ?_
      refine dq rfl (rd_subn (i2) (1) rfl rfl rfl rfl (by omega) (by omega)) rfl ?_
      refine dq rfl (rd_move rfl) rfl ?_
      refine dq rfl (rd_move rfl) rfl ?_
      refine dq rfl (rd_subn (i2) (1) rfl rfl rfl rfl (by omega) (by omega)) rfl ?_
      refine dq rfl (rd_index S128 rfl rfl hA0 (by omega) (by omega)) rfl ?_
      refine dq rfl (rd_move rfl) rfl ?_
      refine dq rfl (rd_move rfl) rfl ?_
      refine dq rfl (rd_index S128 rfl rfl hA0 (by omega) (by omega)) rfl ?_
      refine de rfl rfl (ef_quiet (rd_ldr C3 (by first | exact .head _) rfl (arr_get1 (i := (i2 - 1)) (by first | omega | (simp only [swp_size, Array.size_setIfInBounds]; omega)))) rfl) (fun _ h => h.sb) ?_ ?_
      ·refine de rfl rfl (ef_quiet (rd_ldr C3 (by first | exact .head _) rfl (arr_get1 (i := i2) (by first | omega | (simp only [swp_size, Array.size_setIfInBounds]; omega)))) rfl) (fun _ h => h.sb) ?_ d_stop
       refine dq rfl (rd_index S128 rfl rfl hA0 (by omega) (by omega)) rfl ?_
       refine de rfl rfl (ef_storei (i2) Sz3 rfl rfl rfl (by omega) (by first | omega | (simp only [swp_size, Array.size_setIfInBounds]; omega))) (fun _ h => h.sb) ?_ d_stop
       refine dq rfl (rd_index S128 rfl rfl hA0 (by omega) (by omega)) rfl ?_
       refine de rfl rfl (ef_storei ((i2 - 1)) Sz3 rfl rfl rfl (by omega) (by first | omega | (simp only [swp_size, Array.size_setIfInBounds]; omega))) (fun _ h => h.sb) ?_ d_stop
       refine d_end ?_
       refine f_cut (()) (trivial) (by repeat constructor) (fun _ h => h.sb)
      refine de rfl rfl (ef_quiet (rd_ldr C3 (by first | exact .head _) rfl (arr_get1 (i := i2) (by first | omega | (simp only [swp_size, Array.size_setIfInBounds]; omega)))) rfl) (fun _ h => h.sb) ?_ ?_
      ·refine de rfl rfl (ef_quiet (rd_ldr C3 (by first | exact .head _) rfl (arr_get1 (i := (i2 - 1)) (by first | omega | (simp only [swp_size, Array.size_setIfInBounds]; omega)))) rfl) (fun _ h => h.sb) ?_ d_stop
       refine dq rfl (rd_index S128 rfl rfl hA0 (by omega) (by omega)) rfl ?_
       refine de rfl rfl (ef_storei (i2) Sz3 rfl rfl rfl (by omega) (by first | omega | (simp only [swp_size, Array.size_setIfInBounds]; omega))) (fun _ h => h.sb) ?_ d_stop
       refine dq rfl (rd_index S128 rfl rfl hA0 (by omega) (by omega)) rfl ?_
       refine de rfl rfl (ef_storei ((i2 - 1)) Sz3 rfl rfl rfl (by omega) (by first | omega | (simp only [swp_size, Array.size_setIfInBounds]; omega))) (fun _ h => h.sb) ?_ d_stop
       refine d_end ?_
       refine f_cut (()) (trivial) (by repeat constructor) (fun _ h => h.sb)
      exact d_stop
     ·rintro _ _
      refine c_meet2 (α := Array Int) (fun dx => dx.size = n ∧ dx = if i2 - a ≥ 2 then Sort.shiftDown Sort.ltInt (i2 - 1) (Sort.swp dk i2 (i2 - 1)) else (Sort.swp dk i2 (i2 - 1))) (fun dx => [.row 3 1 A n cap (ints dx.toList)]) [] (fun dx => []) [(7, _), (8, _), (0, _), (1, _), (2, _), (6, _), (13, _), (14, _), (35, _), (36, _), (37, _), (38, _), (39, _), (40, _), (41, _)] (by repeat constructor) [.row _ _ A n cap _] (fun _ h => h) ?_ ?_
      ·refine c_seq ?_
       refine c_reg ?_
       refine sq (rd_move rfl) rfl ?_
       refine sq (rd_move rfl) rfl ?_
       refine sq (rd_subn (i2) (a) rfl rfl rfl rfl (by omega) (by omega)) rfl ?_
       refine sq (rd_geq rfl rfl) rfl ?_
       refine s_end ?_
       refine f_then ?_
       refine c_if rfl (fun h61 => ?_) (fun h61 => ?_)
       ·refine c_seq ?_
        refine c_reg ?_
        refine sq (rd_move rfl) rfl ?_
        refine sq (rd_subn (i2) (1) rfl rfl rfl rfl (by omega) (by omega)) rfl ?_
        refine sq (rd_assign rfl) rfl ?_
        refine s_end ?_
        refine f_then ?_
        refine c_block ?_
        refine c_keep (L' := [(7, _), (8, _), (0, _), (1, _), (2, _), (6, _), (13, _), (14, _), (35, _), (36, _), (37, _), (38, _), (39, _), (40, _), (41, _), (58, _), (59, _), (60, _), (61, _), (62, _), (63, _), (9, _)]) (by repeat constructor) ?_
        refine c_for (α := Nat × Array Int) (fun ⟨j, dj⟩ => j ≤ i2 - 1 ∧ dj.size = n ∧ Sort.shiftDown Sort.ltInt (i2 - 1) (Sort.swp dk i2 (i2 - 1)) = Sort.shiftDown Sort.ltInt j dj) (fun ⟨j, dj⟩ => [.row 3 1 A n cap (ints dj.toList)]) [] (fun ⟨j, dj⟩ => [(9, .int .i64 (j : Int))]) [(7, _), (8, _), (0, _), (1, _), (2, _), (6, _), (13, _), (14, _), (35, _), (36, _), (37, _), (38, _), (39, _), (40, _), (41, _), (58, _), (59, _), (60, _), (61, _), (62, _), (63, _)] (fun ⟨j, dj⟩ => j) ((i2 - 1, (Sort.swp dk i2 (i2 - 1)))) (⟨by omega, by simpa using hdk, rfl⟩) (by repeat constructor) (fun _ h => h) ?_
        rintro ⟨j, dj⟩ ⟨hj1, hdj, hjq⟩
        refine c_seq ?_
        refine c_seq ?_
        refine c_reg ?_
        refine sq (rd_move rfl) rfl ?_
        refine sq (rd_geq rfl rfl) rfl ?_
        refine s_end ?_
        refine f_then ?_
        refine c_if rfl (fun h65 => ?_) (fun h65 => ?_)
        ·refine c_skip ?_
         refine f_then ?_
         refine c_seq ?_
         refine c_block ?_
         refine c_seq ?_
         refine c_seq ?_
         refine c_regd [.row _ _ A n cap _] (.q 0 (.q 1 (.q 2 (.q 3 (.q 4 (.q 5 (.q 6 (.q 7 (.q 8 (.alt 9 (.q 10 .done) .stop)))))))))) (by kernel_rfl) (by kernel_rfl) (by kernel_rfl) (by kernel_rfl) (fun _ h => h.sb) ?_
         refine dq rfl (rd_move rfl) rfl ?_
         refine dq rfl (rd_move rfl) rfl ?_
         refine dq rfl (rd_index S128 rfl rfl hA0 (by omega) (by omega)) rfl ?_
         refine dq rfl (rd_ldr C3 (by first | exact .head _) rfl (arr_get1 (i := j) (by first | omega | (simp only [swp_size, Array.size_setIfInBounds]; omega)))) rfl ?_
         refine dq rfl (rd_move rfl) rfl ?_
         refine dq rfl (rd_move rfl) rfl ?_
         refine dq rfl (rd_subn (j) (1) rfl rfl rfl rfl (by omega) (by omega)) rfl ?_
         refine dq rfl (rd_index S128 rfl rfl hA0 (by omega) (by omega)) rfl ?_
         refine dq rfl (rd_ldr C3 (by first | exact .head _) rfl (arr_get1 (i := (j - 1)) (by first | omega | (simp only [swp_size, Array.size_setIfInBounds]; omega)))) rfl ?_
         refine de rfl rfl (ef_pure rfl rfl K167 rfl (by exact c167 _ _)) (fun _ h => h.sb) ?_ d_stop
         refine dq rfl ((by first | exact rd_notd rfl | exact rd_not rfl)) rfl ?_
         refine d_end ?_
         refine f_then ?_
         refine c_cond rfl (fun h78 => ?_) (fun h78 => ?_)
         ·refine c_exit ?_
          refine f_then_x ?_
          refine f_blk_y rfl ?_
          refine f_then_x ?_
          refine f_then_x ?_
          refine f_blk_x ?_
          refine f_cut (dj) (⟨hdj, by rw [if_pos (by omega), hjq]; exact (sd_stop (fun _ => (by first | simpa using h78 | simpa [Sort.ltInt] using h78))).symm⟩) (by repeat constructor) (fun _ h => h.sb)
         ·refine c_skip ?_
          refine f_then ?_
          refine c_regd [] (.q 0 (.q 1 (.q 2 (.q 3 (.q 4 (.q 5 (.q 6 (.q 7 (.q 8 (.q 10 (.q 11 (.q 12 (.alt 9 (.alt 13 (.q 14 (.alt 15 (.q 16 (.alt 17 .done .stop)) .stop)) .stop) (.alt 13 (.alt 9 (.q 14 (.alt 15 (.q 16 (.alt 17 .done .stop)) .stop)) .stop) .stop)))))))))))))) (by kernel_rfl) (by kernel_rfl) (by kernel_rfl) (by kernel_rfl) (fun _ h => h.sb) ?_
          refine dq rfl (rd_move rfl) rfl ?_
          refine dq rfl (rd_move rfl) rfl ?_
          refine dq rfl (rd_move rfl) rfl ?_
          refine dq rfl (rd_move rfl) rfl ?_
          refine dq rfl (rd_subn (j) (1) rfl rfl rfl rfl (by omega) (by omega)) rfl ?_
          refine dq rfl (rd_move rfl) rfl ?_
          refine dq rfl (rd_move rfl) rfl ?_
          refine dq rfl (rd_subn (j) (1) rfl rfl rfl rfl (by omega) (by omega)) rfl ?_
          refine dq rfl (rd_index S128 rfl rfl hA0 (by omega) (by omega)) rfl ?_
          refine dq rfl (rd_move rfl) rfl ?_
          refine dq rfl (rd_move rfl) rfl ?_
          refine dq rfl (rd_index S128 rfl rfl hA0 (by omega) (by omega)) rfl ?_
          refine de rfl rfl (ef_quiet (rd_ldr C3 (by first | exact .head _) rfl (arr_get1 (i := (j - 1)) (by first | omega | (simp only [swp_size, Array.size_setIfInBounds]; omega)))) rfl) (fun _ h => h.sb) ?_ ?_
          ·refine de rfl rfl (ef_quiet (rd_ldr C3 (by first | exact .head _) rfl (arr_get1 (i := j) (by first | omega | (simp only [swp_size, Array.size_setIfInBounds]; omega)))) rfl) (fun _ h => h.sb) ?_ d_stop
           refine dq rfl (rd_index S128 rfl rfl hA0 (by omega) (by omega)) rfl ?_
           refine de rfl rfl (ef_storei (j) Sz3 rfl rfl rfl (by omega) (by first | omega | (simp only [swp_size, Array.size_setIfInBounds]; omega))) (fun _ h => h.sb) ?_ d_stop
           refine dq rfl (rd_index S128 rfl rfl hA0 (by omega) (by omega)) rfl ?_
           refine de rfl rfl (ef_storei ((j - 1)) Sz3 rfl rfl rfl (by omega) (by first | omega | (simp only [swp_size, Array.size_setIfInBounds]; omega))) (fun _ h => h.sb) ?_ d_stop
           refine d_end ?_
           refine f_blk ?_
           refine f_then ?_
           refine c_reg ?_
           refine sq (rd_move rfl) rfl ?_
           refine sq (rd_subn (j) (1) rfl rfl rfl rfl (by omega) (by omega)) rfl ?_
           refine sq (rd_assign rfl) rfl ?_
           refine s_end ?_
           refine f_again ((j - 1, Sort.swp dj j (j - 1))) (⟨by omega, by simpa using hdj, by rw [hjq]; exact sd_go (by omega) (by first | simpa using h78 | simpa [Sort.ltInt] using h78)⟩) (by show j - 1 < j; omega) (by repeat constructor) (fun _ h => h.sb)
          refine de rfl rfl (ef_quiet (rd_ldr C3 (by first | exact .head _) rfl (arr_get1 (i := j) (by first | omega | (simp only [swp_size, Array.size_setIfInBounds]; omega)))) rfl) (fun _ h => h.sb) ?_ ?_
          ·refine de rfl rfl (ef_quiet (rd_ldr C3 (by first | exact .head _) rfl (arr_get1 (i := (j - 1)) (by first | omega | (simp only [swp_size, Array.size_setIfInBounds]; omega)))) rfl) (fun _ h => h.sb) ?_ d_stop
           refine dq rfl (rd_index S128 rfl rfl hA0 (by omega) (by omega)) rfl ?_
           refine de rfl rfl (ef_storei (j) Sz3 rfl rfl rfl (by omega) (by first | omega | (simp only [swp_size, Array.size_setIfInBounds]; omega))) (fun _ h => h.sb) ?_ d_stop
           refine dq rfl (rd_index S128 rfl rfl hA0 (by omega) (by omega)) rfl ?_
           refine de rfl rfl (ef_storei ((j - 1)) Sz3 rfl rfl rfl (by omega) (by first | omega | (simp only [swp_size, Array.size_setIfInBounds]; omega))) (fun _ h => h.sb) ?_ d_stop
           refine d_end ?_
           refine f_blk ?_
           refine f_then ?_
           refine c_reg ?_
           refine sq (rd_move rfl) rfl ?_
           refine sq (rd_subn (j) (1) rfl rfl rfl rfl (by omega) (by omega)) rfl ?_
           refine sq (rd_assign rfl) rfl ?_
           refine s_end ?_
           refine f_again ((j - 1, Sort.swp dj j (j - 1))) (⟨by omega, by simpa using hdj, by rw [hjq]; exact sd_go (by omega) (by first | simpa using h78 | simpa [Sort.ltInt] using h78)⟩) (by show j - 1 < j; omega) (by repeat constructor) (fun _ h => h.sb)
          exact d_stop
        ·refine c_exit ?_
         refine f_then_x ?_
         refine f_then_x ?_
         refine f_blk_x ?_
         refine f_cut (dj) (⟨hdj, by rw [if_pos (by omega), hjq]; exact (sd_stop (fun h => absurd h (by omega))).symm⟩) (by repeat constructor) (fun _ h => h.sb)
       ·refine c_skip ?_
        refine f_cut ((Sort.swp dk i2 (i2 - 1))) (⟨by simpa using hdk, by rw [if_neg (by omega)]⟩) (by repeat constructor) (fun _ h => h.sb)
      ·rintro d2 ⟨hd2, hd2e⟩
       refine c_seq ?_
       refine c_reg ?_
       refine sq (rd_move rfl) rfl ?_
       refine sq (rd_move rfl) rfl ?_
       refine sq (rd_subn (b) (i2) rfl rfl rfl rfl (by omega) (by omega)) rfl ?_
       refine sq (rd_geq rfl rfl) rfl ?_
       refine s_end ?_
       refine f_then ?_
       refine c_if rfl (fun h98 => ?_) (fun h98 => ?_)
       ·refine c_seq ?_
        refine c_reg ?_
        refine sq (rd_move rfl) rfl ?_
        refine sq (rd_addn (i2) (1) rfl rfl rfl rfl (by omega)) rfl ?_
        refine sq (rd_assign rfl) rfl ?_
        refine s_end ?_
        refine f_then ?_
        refine c_block ?_
        refine c_keep (L' := [(7, _), (8, _), (0, _), (1, _), (2, _), (6, _), (13, _), (14, _), (35, _), (36, _), (37, _), (38, _), (39, _), (40, _), (41, _), (95, _), (96, _), (97, _), (98, _), (99, _), (100, _), (10, _)]) (by repeat constructor) ?_
        refine c_for (α := Nat × Array Int) (fun ⟨j, dj⟩ => i2 + 1 ≤ j ∧ j ≤ b ∧ dj.size = n ∧ Sort.shiftUp Sort.ltInt b (i2 + 1) d2 = Sort.shiftUp Sort.ltInt b j dj) (fun ⟨j, dj⟩ => [.row 3 1 A n cap (ints dj.toList)]) [] (fun ⟨j, dj⟩ => [(10, .int .i64 (j : Int))]) [(7, _), (8, _), (0, _), (1, _), (2, _), (6, _), (13, _), (14, _), (35, _), (36, _), (37, _), (38, _), (39, _), (40, _), (41, _), (95, _), (96, _), (97, _), (98, _), (99, _), (100, _)] (fun ⟨j, dj⟩ => b - j) ((i2 + 1, d2)) (⟨by omega, by omega, hd2, rfl⟩) (by repeat constructor) (fun _ h => h) ?_
        rintro ⟨j, dj⟩ ⟨hj1, hj2, hdj, hjq⟩
        refine c_seq ?_
        refine c_seq ?_
        refine c_reg ?_
        refine sq (rd_move rfl) rfl ?_
        refine sq (rd_move rfl) rfl ?_
        refine sq (rd_lss rfl rfl) rfl ?_
        refine s_end ?_
        refine f_then ?_
        refine c_if rfl (fun h103 => ?_) (fun h103 => ?_)
        ·refine c_skip ?_
         refine f_then ?_
         refine c_seq ?_
         refine c_block ?_
         refine c_seq ?_
         refine c_seq ?_
         refine c_regd [.row _ _ A n cap _] (.q 0 (.q 1 (.q 2 (.q 3 (.q 4 (.q 5 (.q 6 (.q 7 (.q 8 (.alt 9 (.q 10 .done) .stop)))))))))) (by kernel_rfl) (by kernel_rfl) (by kernel_rfl) (by kernel_rfl) (fun _ h => h.sb) ?_
         refine dq rfl (rd_move rfl) rfl ?_
         refine dq rfl (rd_move rfl) rfl ?_
         refine dq rfl (rd_index S128 rfl rfl hA0 (by omega) (by omega)) rfl ?_
         refine dq rfl (rd_ldr C3 (by first | exact .head _) rfl (arr_get1 (i := j) (by first | omega | (simp only [swp_size, Array.size_setIfInBounds]; omega)))) rfl ?_
         refine dq rfl (rd_move rfl) rfl ?_
         refine dq rfl (rd_move rfl) rfl ?_
         refine dq rfl (rd_subn (j) (1) rfl rfl rfl rfl (by omega) (by omega)) rfl ?_
         refine dq rfl (rd_index S128 rfl rfl hA0 (by omega) (by omega)) rfl ?_
         refine dq rfl (rd_ldr C3 (by first | exact .head _) rfl (arr_get1 (i := (j - 1)) (by first | omega | (simp only [swp_size, Array.size_setIfInBounds]; omega)))) rfl ?_
         refine de rfl rfl (ef_pure rfl rfl K167 rfl (by exact c167 _ _)) (fun _ h => h.sb) ?_ d_stop
         refine dq rfl ((by first | exact rd_notd rfl | exact rd_not rfl)) rfl ?_
         refine d_end ?_
         refine f_then ?_
         refine c_cond rfl (fun h116 => ?_) (fun h116 => ?_)
         ·refine c_exit ?_
          refine f_then_x ?_
          refine f_blk_y rfl ?_
          refine f_then_x ?_
          refine f_then_x ?_
          refine f_blk_x ?_
          refine f_blk ?_
          refine f_then ?_
          refine c_reg ?_
          refine sq (rd_move rfl) rfl ?_
          refine sq (rd_addn (s) (1) rfl rfl rfl rfl (by omega)) rfl ?_
          refine sq (rd_assign rfl) rfl ?_
          refine s_end ?_
          refine f_again ((s + 1, i2, dj)) (⟨by omega, by omega, by omega, hdj, by rw [hoq, show 5 - s = (5 - (s + 1)) + 1 from by omega]; exact pi_go (d2 := d2) (d3 := dj) hi2q (by omega) (by omega) hd2e (by rw [if_pos (by omega), hjq]; exact (su_stop (fun _ => (by first | simpa using h116 | simpa [Sort.ltInt] using h116))).symm)⟩) (by show 5 - (s + 1) < 5 - s; omega) (by repeat constructor) (fun _ h => h.sb)
         ·refine c_skip ?_
          refine f_then ?_
          refine c_regd [] (.q 0 (.q 1 (.q 2 (.q 3 (.q 4 (.q 5 (.q 6 (.q 7 (.q 8 (.q 10 (.q 11 (.q 12 (.alt 9 (.alt 13 (.q 14 (.alt 15 (.q 16 (.alt 17 .done .stop)) .stop)) .stop) (.alt 13 (.alt 9 (.q 14 (.alt 15 (.q 16 (.alt 17 .done .stop)) .stop)) .stop) .stop)))))))))))))) (by kernel_rfl) (by kernel_rfl) (by kernel_rfl) (by kernel_rfl) (fun _ h => h.sb) ?_
          refine dq rfl (rd_move rfl) rfl ?_
          refine dq rfl (rd_move rfl) rfl ?_
          refine dq rfl (rd_move rfl) rfl ?_
          refine dq rfl (rd_move rfl) rfl ?_
          refine dq rfl (rd_subn (j) (1) rfl rfl rfl rfl (by omega) (by omega)) rfl ?_
          refine dq rfl (rd_move rfl) rfl ?_
          refine dq rfl (rd_move rfl) rfl ?_
          refine dq rfl (rd_subn (j) (1) rfl rfl rfl rfl (by omega) (by omega)) rfl ?_
          refine dq rfl (rd_index S128 rfl rfl hA0 (by omega) (by omega)) rfl ?_
          refine dq rfl (rd_move rfl) rfl ?_
          refine dq rfl (rd_move rfl) rfl ?_
          refine dq rfl (rd_index S128 rfl rfl hA0 (by omega) (by omega)) rfl ?_
          refine de rfl rfl (ef_quiet (rd_ldr C3 (by first | exact .head _) rfl (arr_get1 (i := (j - 1)) (by first | omega | (simp only [swp_size, Array.size_setIfInBounds]; omega)))) rfl) (fun _ h => h.sb) ?_ ?_
          ·refine de rfl rfl (ef_quiet (rd_ldr C3 (by first | exact .head _) rfl (arr_get1 (i := j) (by first | omega | (simp only [swp_size, Array.size_setIfInBounds]; omega)))) rfl) (fun _ h => h.sb) ?_ d_stop
           refine dq rfl (rd_index S128 rfl rfl hA0 (by omega) (by omega)) rfl ?_
           refine de rfl rfl (ef_storei (j) Sz3 rfl rfl rfl (by omega) (by first | omega | (simp only [swp_size, Array.size_setIfInBounds]; omega))) (fun _ h => h.sb) ?_ d_stop
           refine dq rfl (rd_index S128 rfl rfl hA0 (by omega) (by omega)) rfl ?_
           refine de rfl rfl (ef_storei ((j - 1)) Sz3 rfl rfl rfl (by omega) (by first | omega | (simp only [swp_size, Array.size_setIfInBounds]; omega))) (fun _ h => h.sb) ?_ d_stop
           refine d_end ?_
           refine f_blk ?_
           refine f_then ?_
           refine c_reg ?_
           refine sq (rd_move rfl) rfl ?_
           refine sq (rd_addn (j) (1) rfl rfl rfl rfl (by omega)) rfl ?_
           refine sq (rd_assign rfl) rfl ?_
           refine s_end ?_
           refine f_again ((j + 1, Sort.swp dj j (j - 1))) (⟨by omega, by omega, by simpa using hdj, by rw [hjq]; exact su_go (by omega) (by first | simpa using h116 | simpa [Sort.ltInt] using h116)⟩) (by show b - (j + 1) < b - j; omega) (by repeat constructor) (fun _ h => h.sb)
          refine de rfl rfl (ef_quiet (rd_ldr C3 (by first | exact .head _) rfl (arr_get1 (i := j) (by first | omega | (simp only [swp_size, Array.size_setIfInBounds]; omega)))) rfl) (fun _ h => h.sb) ?_ ?_
          ·refine de rfl rfl (ef_quiet (rd_ldr C3 (by first | exact .head _) rfl (arr_get1 (i := (j - 1)) (by first | omega | (simp only [swp_size, Array.size_setIfInBounds]; omega)))) rfl) (fun _ h => h.sb) ?_ d_stop
           refine dq rfl (rd_index S128 rfl rfl hA0 (by omega) (by omega)) rfl ?_
           refine de rfl rfl (ef_storei (j) Sz3 rfl rfl rfl (by omega) (by first | omega | (simp only [swp_size, Array.size_setIfInBounds]; omega))) (fun _ h => h.sb) ?_ d_stop
           refine dq rfl (rd_index S128 rfl rfl hA0 (by omega) (by omega)) rfl ?_
           refine de rfl rfl (ef_storei ((j - 1)) Sz3 rfl rfl rfl (by omega) (by first | omega | (simp only [swp_size, Array.size_setIfInBounds]; omega))) (fun _ h => h.sb) ?_ d_stop
           refine d_end ?_
           refine f_blk ?_
           refine f_then ?_
           refine c_reg ?_
           refine sq (rd_move rfl) rfl ?_
           refine sq (rd_addn (j) (1) rfl rfl rfl rfl (by omega)) rfl ?_
           refine sq (rd_assign rfl) rfl ?_
           refine s_end ?_
           refine f_again ((j + 1, Sort.swp dj j (j - 1))) (⟨by omega, by omega, by simpa using hdj, by rw [hjq]; exact su_go (by omega) (by first | simpa using h116 | simpa [Sort.ltInt] using h116)⟩) (by show b - (j + 1) < b - j; omega) (by repeat constructor) (fun _ h => h.sb)
          exact d_stop
        ·refine c_exit ?_
         refine f_then_x ?_
         refine f_then_x ?_
         refine f_blk_x ?_
         refine f_blk ?_
         refine f_then ?_
         refine c_reg ?_
         refine sq (rd_move rfl) rfl ?_
         refine sq (rd_addn (s) (1) rfl rfl rfl rfl (by omega)) rfl ?_
         refine sq (rd_assign rfl) rfl ?_
         refine s_end ?_
         refine f_again ((s + 1, i2, dj)) (⟨by omega, by omega, by omega, hdj, by rw [hoq, show 5 - s = (5 - (s + 1)) + 1 from by omega]; exact pi_go (d2 := d2) (d3 := dj) hi2q (by omega) (by omega) hd2e (by rw [if_pos (by omega), hjq]; exact (su_stop (fun h => absurd h (by omega))).symm)⟩) (by show 5 - (s + 1) < 5 - s; omega) (by repeat constructor) (fun _ h => h.sb)
       ·refine c_skip ?_
        refine f_blk ?_
        refine f_then ?_
        refine c_reg ?_
        refine sq (rd_move rfl) rfl ?_
        refine sq (rd_addn (s) (1) rfl rfl rfl rfl (by omega)) rfl ?_
        refine sq (rd_assign rfl) rfl ?_
        refine s_end ?_
        refine f_again ((s + 1, i2, d2)) (⟨by omega, by omega, by omega, hd2, by rw [hoq, show 5 - s = (5 - (s + 1)) + 1 from by omega]; exact pi_go (d2 := d2) (d3 := d2) hi2q (by omega) (by omega) hd2e (by rw [if_neg (by omega)])⟩) (by show 5 - (s + 1) < 5 - s; omega) (by repeat constructor) (fun _ h => h.sb)
 ·refine c_exit ?_
  refine f_then_x ?_
  refine f_then_x ?_
  refine f_blk_x ?_
  refine f_then ?_
  refine c_seq ?_
  refine c_reg ?_
  refine sq (rd_assign rfl) rfl ?_
  refine s_end ?_
  refine f_then ?_
  refine c_ret ?_
  refine f_ret rfl (.tmp rfl .nil) ?_
  have hp : Sort.partialInsertionSort Sort.ltInt d a b = (dk, false) := hoq.trans (by rw [show 5 - s = 0 from by omega, Sort.partialIns])
  exact fun w' hS => ⟨_, rfl, (dk, false), rfl, hp, hS⟩

end Go.Proofs.YtfccnoccfhgcbaaGreatDoor
namespace Go.Proofs.YtfccnoccfhgcbaaGreatDoor
open Go Go.RowKit
theorem K175 : callTy Tryz.prog 175 := by unfold callTy; kernel_rfl
theorem K160 : callTy Tryz.prog 160 := by unfold callTy; kernel_rfl
theorem K180 : callTy Tryz.prog 180 := by unfold callTy; kernel_rfl
theorem K178 : callTy Tryz.prog 178 := by unfold callTy; kernel_rfl
theorem c175 (w : World) (A : Option Addr) (cap n : Nat) (d : Array SN) (g : Nat) (cmp : SN → SN → Int) (hg : callTy Tryz.prog g) (hcmp : ∀ x y, Pu Tryz.prog g [.agg (SN.enc x).toArray, .agg (SN.enc y).toArray] (.int .i64 (cmp x y))) (hd : d.size = n) (hn : n ≤ 1000000) (bk sw : Nat) (hsw : sw ≤ 1000) (a b : Nat) (ha : a < n) (hb : b < n) (hS : St w (fpOf [.row 64 4 A n cap (flat SN.enc d.toList), .blk bk [.int .i64 (sw : Int)] 3]) [.row 64 4 A n cap (flat SN.enc d.toList), .blk bk [.int .i64 (sw : Int)] 3] w) : Calls Tryz.prog 175 [.slice A n cap, .int .i64 (a : Int), .int .i64 (b : Int), .pointer (some ⟨bk, 0, none⟩), .func (.func g) #[] #[]].toArray w (RtE fun v w' => ∃ x : Nat × Nat × Nat, v = (fun x => .tuple #[.int .i64 (x.1 : Int), .int .i64 (x.2.1 : Int)]) x ∧ (fun x => (x.1 = a ∨ x.1 = b) ∧ (x.2.1 = a ∨ x.2.1 = b) ∧ x.2.2 ≤ sw + 1) x ∧ St w (fpOf [.row 64 4 A n cap (flat SN.enc d.toList), .blk bk [.int .i64 (sw : Int)] 3]) ((fun x => [.row 64 4 A n cap (flat SN.enc d.toList), .blk bk [.int .i64 (x.2.2 : Int)] 3]) x) w') := by
 refine enter Tryz.func175 rfl Tryz.ntmps175 rfl hS ?_
 refine c_seq ?_
 have hA0 : 0 < n → plainA A := fun h => ((row_know (List.mem_cons_self ..) w hS).2.2.2 h).1
 refine c_reg ?_
 refine sq (rd_assign rfl) rfl ?_
 refine sq (rd_assign rfl) rfl ?_
 refine s_end ?_
 refine f_then ?_
 refine c_seq ?_
 refine c_seq ?_
 refine c_regd [.row _ _ A n cap _, .blk bk _ _] (.q 0 (.q 1 (.q 2 (.q 3 (.q 4 (.q 5 (.q 6 (.q 7 (.q 8 (.alt 9 (.q 10 .done) .stop)))))))))) (by kernel_rfl) (by kernel_rfl) (by kernel_rfl) (by kernel_rfl) (fun _ h => h.sb) ?_
 refine dq rfl (rd_move rfl) rfl ?_
 refine dq rfl (rd_move rfl) rfl ?_
 refine dq rfl (rd_move rfl) rfl ?_
 refine dq rfl (rd_index S62 rfl rfl hA0 (by omega) (by omega)) rfl ?_
 refine dq rfl (rd_ldsr A64 (by repeat constructor) rfl (arr_part (f := SN.enc) SN.enc_len (i := b) (by first | omega | (simp only [swp_size, Array.size_setIfInBounds]; omega)))) rfl ?_
 refine dq rfl (rd_move rfl) rfl ?_
 refine dq rfl (rd_move rfl) rfl ?_
 refine dq rfl (rd_index S62 rfl rfl hA0 (by omega) (by omega)) rfl ?_
 refine dq rfl (rd_ldsr A64 (by repeat constructor) rfl (arr_part (f := SN.enc) SN.enc_len (i := a) (by first | omega | (simp only [swp_size, Array.size_setIfInBounds]; omega)))) rfl ?_
 refine de rfl rfl (ef_pure rfl rfl hg rfl (by exact hcmp _ _)) (fun _ h => h.sb) ?_ d_stop
 refine dq rfl (rd_lss rfl rfl) rfl ?_
 refine d_end ?_
 refine f_then ?_
 refine c_cond rfl (fun h22 => ?_) (fun h22 => ?_)
 ·refine c_seq ?_
  refine c_reg ?_
  refine sq (rd_move rfl) rfl ?_
  refine sq (rd_nil rfl) rfl ?_
  refine sq (rd_ldb C3 rfl (by repeat constructor) rfl) rfl ?_
  refine sq (rd_addn (sw) (1) rfl rfl rfl rfl (by omega)) rfl ?_
  refine sq (rd_nil rfl) rfl ?_
  refine se (ef_store C3 rfl rfl (by repeat constructor) (by repeat constructor) rfl) rfl ?_
  refine s_end ?_
  refine f_then ?_
  refine c_seq ?_
  refine c_reg ?_
  refine sq (rd_move rfl) rfl ?_
  refine sq (rd_move rfl) rfl ?_
  refine sq (rd_assign rfl) rfl ?_
  refine sq (rd_assign rfl) rfl ?_
  refine s_end ?_
  refine f_then ?_
  refine c_ret ?_
  refine f_then_r ?_
  refine f_ret rfl (.tmp rfl (.tmp rfl .nil)) ?_
  exact fun w' hS => ⟨_, rfl, (b, a, sw + 1), rfl, by refine ⟨?_, ?_, ?_⟩ <;> (dsimp only; omega), hS⟩
 ·refine c_skip ?_
  refine f_then ?_
  refine c_seq ?_
  refine c_reg ?_
  refine sq (rd_move rfl) rfl ?_
  refine sq (rd_move rfl) rfl ?_
  refine sq (rd_assign rfl) rfl ?_
  refine sq (rd_assign rfl) rfl ?_
  refine s_end ?_
  refine f_then ?_
  refine c_ret ?_
  refine f_ret rfl (.tmp rfl (.tmp rfl .nil)) ?_
  exact fun w' hS => ⟨_, rfl, (a, b, sw), rfl, by refine ⟨?_, ?_, ?_⟩ <;> (dsimp only; omega), hS⟩

theorem c160 (w : World) (A : Option Addr) (cap n : Nat) (d : Array SN) (g : Nat) (cmp : SN → SN → Int) (hg : callTy Tryz.prog g) (hcmp : ∀ x y, Pu Tryz.prog g [.agg (SN.enc x).toArray, .agg (SN.enc y).toArray] (.int .i64 (cmp x y))) (hd : d.size = n) (hn : n ≤ 1000000) (bk sw : Nat) (hsw : sw ≤ 1000) (hsw2 : sw ≤ 900) (a b c : Nat) (ha : a < n) (hb : b < n) (hc : c < n) (hS : St w (fpOf [.row 64 4 A n cap (flat SN.enc d.toList), .blk bk [.int .i64 (sw : Int)] 3]) [.row 64 4 A n cap (flat SN.enc d.toList), .blk bk [.int .i64 (sw : Int)] 3] w) : Calls Tryz.prog 160 [.slice A n cap, .int .i64 (a : Int), .int .i64 (b : Int), .int .i64 (c : Int), .pointer (some ⟨bk, 0, none⟩), .func (.func g) #[] #[]].toArray w (RtE fun v w' => ∃ x : Nat × Nat, v = (fun x => .int .i64 (x.1 : Int)) x ∧ (fun x => (x.1 = a ∨ x.1 = b ∨ x.1 = c) ∧ x.2 ≤ sw + 3) x ∧ St w (fpOf [.row 64 4 A n cap (flat SN.enc d.toList), .blk bk [.int .i64 (sw : Int)] 3]) ((fun x => [.row 64 4 A n cap (flat SN.enc d.toList), .blk bk [.int .i64 (x.2 : Int)] 3]) x) w') := by
 refine enter Tryz.func160 rfl Tryz.ntmps160 rfl hS ?_
 refine c_seq ?_
 have hA0 : 0 < n → plainA A := fun h => ((row_know (List.mem_cons_self ..) w hS).2.2.2 h).1
 refine c_reg ?_
 refine sq (rd_assign rfl) rfl ?_
 refine s_end ?_
 refine f_then ?_
 refine c_seq ?_
 refine c_reg ?_
 refine sq (rd_move rfl) rfl ?_
 refine sq (rd_move rfl) rfl ?_
 refine sq (rd_move rfl) rfl ?_
 refine sq (rd_move rfl) rfl ?_
 refine sq (rd_move rfl) rfl ?_
 refine sx (ef_call rfl rfl K175 (fun _ e => by cases e; rfl) [.row _ _ A n cap _, .blk bk _ _] _ (.refl _) _ _ _ (fun w hS => by exact c175 w A cap n d g cmp hg hcmp hd hn  bk sw (by omega) a b (by omega) (by omega) hS.own)) rfl ?_
 rintro ⟨p1, q1, s1⟩ ⟨hp1, hq1, hs1⟩
 dsimp only at hp1 hq1 hs1
 refine sq (rd_move rfl) rfl ?_
 refine sq (rd_extract rfl rfl) rfl ?_
 refine sq (rd_extract rfl rfl) rfl ?_
 refine sq (rd_assign rfl) rfl ?_
 refine sq (rd_assign rfl) rfl ?_
 refine s_end ?_
 refine f_then ?_
 refine c_seq ?_
 refine c_reg ?_
 refine sq (rd_move rfl) rfl ?_
 refine sq (rd_move rfl) rfl ?_
 refine sq (rd_move rfl) rfl ?_
 refine sq (rd_move rfl) rfl ?_
 refine sq (rd_move rfl) rfl ?_
 refine sx (ef_call rfl rfl K175 (fun _ e => by cases e; rfl) [.row _ _ A n cap _, .blk bk _ _] _ (.refl _) _ _ _ (fun w hS => by exact c175 w A cap n d g cmp hg hcmp hd hn  bk s1 (by omega) q1 c (by omega) (by omega) hS.own)) rfl ?_
 rintro ⟨p2, q2, s2⟩ ⟨hp2, hq2, hs2⟩
 dsimp only at hp2 hq2 hs2
 refine sq (rd_move rfl) rfl ?_
 refine sq (rd_extract rfl rfl) rfl ?_
 refine sq (rd_extract rfl rfl) rfl ?_
 refine sq (rd_assign rfl) rfl ?_
 refine sq (rd_assign rfl) rfl ?_
 refine s_end ?_
 refine f_then ?_
 refine c_seq ?_
 refine c_reg ?_
 refine sq (rd_move rfl) rfl ?_
 refine sq (rd_move rfl) rfl ?_
 refine sq (rd_move rfl) rfl ?_
 refine sq (rd_move rfl) rfl ?_
 refine sq (rd_move rfl) rfl ?_
 refine sx (ef_call rfl rfl K175 (fun _ e => by cases e; rfl) [.row _ _ A n cap _, .blk bk _ _] _ (.refl _) _ _ _ (fun w hS => by exact c175 w A cap n d g cmp hg hcmp hd hn  bk s2 (by omega) p1 p2 (by omega) (by omega) hS.own)) rfl ?_
 rintro ⟨p3, q3, s3⟩ ⟨hp3, hq3, hs3⟩
 dsimp only at hp3 hq3 hs3
 refine sq (rd_move rfl) rfl ?_
 refine sq (rd_extract rfl rfl) rfl ?_
 refine sq (rd_extract rfl rfl) rfl ?_
 refine sq (rd_assign rfl) rfl ?_
 refine sq (rd_assign rfl) rfl ?_
 refine s_end ?_
 refine f_then ?_
 refine c_seq ?_
 refine c_reg ?_
 refine sq (rd_move rfl) rfl ?_
 refine sq (rd_assign rfl) rfl ?_
 refine s_end ?_
 refine f_then ?_
 refine c_ret ?_
 refine f_ret rfl (.tmp rfl .nil) ?_
 exact fun w' hS => ⟨_, rfl, (q3, s3), rfl, by refine ⟨?_, ?_⟩ <;> (dsimp only; omega), hS⟩

theorem c159 (w : World) (A : Option Addr) (cap n : Nat) (d : Array SN) (g : Nat) (cmp : SN → SN → Int) (hg : callTy Tryz.prog g) (hcmp : ∀ x y, Pu Tryz.prog g [.agg (SN.enc x).toArray, .agg (SN.enc y).toArray] (.int .i64 (cmp x y))) (hd : d.size = n) (hn : n ≤ 1000000) (bk sw : Nat) (hsw : sw ≤ 1000) (hsw2 : sw ≤ 900) (a : Nat) (ha : 1 ≤ a) (ha2 : a + 1 < n) (hS : St w (fpOf [.row 64 4 A n cap (flat SN.enc d.toList), .blk bk [.int .i64 (sw : Int)] 3]) [.row 64 4 A n cap (flat SN.enc d.toList), .blk bk [.int .i64 (sw : Int)] 3] w) : Calls Tryz.prog 159 [.slice A n cap, .int .i64 (a : Int), .pointer (some ⟨bk, 0, none⟩), .func (.func g) #[] #[]].toArray w (RtE fun v w' => ∃ x : Nat × Nat, v = (fun x => .int .i64 (x.1 : Int)) x ∧ (fun x => (x.1 = a - 1 ∨ x.1 = a ∨ x.1 = a + 1) ∧ x.2 ≤ sw + 3) x ∧ St w (fpOf [.row 64 4 A n cap (flat SN.enc d.toList), .blk bk [.int .i64 (sw : Int)] 3]) ((fun x => [.row 64 4 A n cap (flat SN.enc d.toList), .blk bk [.int .i64 (x.2 : Int)] 3]) x) w') := by
 refine enter Tryz.func159 rfl Tryz.ntmps159 rfl hS ?_
 refine c_seq ?_
 have hA0 : 0 < n → plainA A := fun h => ((row_know (List.mem_cons_self ..) w hS).2.2.2 h).1
 refine c_reg ?_
 refine sq (rd_assign rfl) rfl ?_
 refine s_end ?_
 refine f_then ?_
 refine c_seq ?_
 refine c_reg ?_
 refine sq (rd_move rfl) rfl ?_
 refine sq (rd_move rfl) rfl ?_
 refine sq (rd_subn (a) (1) rfl rfl rfl rfl (by omega) (by omega)) rfl ?_
 refine sq (rd_move rfl) rfl ?_
 refine sq (rd_move rfl) rfl ?_
 refine sq (rd_addn (a) (1) rfl rfl rfl rfl (by omega)) rfl ?_
 refine sq (rd_move rfl) rfl ?_
 refine sq (rd_move rfl) rfl ?_
 refine sx (ef_call rfl rfl K160 (fun _ e => by cases e; rfl) [.row _ _ A n cap _, .blk bk _ _] _ (.refl _) _ _ _ (fun w hS => by exact c160 w A cap n d g cmp hg hcmp hd hn  bk sw hsw hsw2 (a - 1) a (a + 1) (by omega) (by omega) (by omega) hS.own)) rfl ?_
 rintro ⟨p, s⟩ ⟨hp, hs⟩
 dsimp only at hp hs
 refine sq (rd_assign rfl) rfl ?_
 refine s_end ?_
 refine f_then ?_
 refine c_ret ?_
 refine f_ret rfl (.tmp rfl .nil) ?_
 exact fun w' hS => ⟨_, rfl, (p, s), rfl, by refine ⟨?_, ?_⟩ <;> (dsimp only; omega), hS⟩

theorem c180 (w : World) (A : Option Addr) (cap n : Nat) (d : Array Int) (hd : d.size = n) (hn : n ≤ 1000000) (bk sw : Nat) (hsw : sw ≤ 1000) (a b : Nat) (ha : a < n) (hb : b < n) (hS : St w (fpOf [.row 3 1 A n cap (ints d.toList), .blk bk [.int .i64 (sw : Int)] 3]) [.row 3 1 A n cap (ints d.toList), .blk bk [.int .i64 (sw : Int)] 3] w) : Calls Tryz.prog 180 [.slice A n cap, .int .i64 (a : Int), .int .i64 (b : Int), .pointer (some ⟨bk, 0, none⟩)].toArray w (RtE fun v w' => ∃ x : Nat × Nat × Nat, v = (fun x => .tuple #[.int .i64 (x.1 : Int), .int .i64 (x.2.1 : Int)]) x ∧ (fun x => (x.1 = a ∨ x.1 = b) ∧ (x.2.1 = a ∨ x.2.1 = b) ∧ x.2.2 ≤ sw + 1) x ∧ St w (fpOf [.row 3 1 A n cap (ints d.toList), .blk bk [.int .i64 (sw : Int)] 3]) ((fun x => [.row 3 1 A n cap (ints d.toList), .blk bk [.int .i64 (x.2.2 : Int)] 3]) x) w') := by
 refine enter Tryz.func180 rfl Tryz.ntmps180 rfl hS ?_
 refine c_seq ?_
 have hA0 : 0 < n → plainA A := fun h => ((row_know (List.mem_cons_self ..) w hS).2.2.2 h).1
 refine c_reg ?_
 refine sq (rd_assign rfl) rfl ?_
 refine sq (rd_assign rfl) rfl ?_
 refine s_end ?_
 refine f_then ?_
 refine c_seq ?_
 refine c_seq ?_
 refine c_regd [.row _ _ A n cap _, .blk bk _ _] (.q 0 (.q 1 (.q 2 (.q 3 (.q 4 (.q 5 (.q 6 (.q 7 (.alt 8 .done .stop))))))))) (by kernel_rfl) (by kernel_rfl) (by kernel_rfl) (by kernel_rfl) (fun _ h => h.sb) ?_
 refine dq rfl (rd_move rfl) rfl ?_
 refine dq rfl (rd_move rfl) rfl ?_
 refine dq rfl (rd_index S128 rfl rfl hA0 (by omega) (by omega)) rfl ?_
 refine dq rfl (rd_ldr C3 (by repeat constructor) rfl (arr_get1 (i := b) (by first | omega | (simp only [swp_size, Array.size_setIfInBounds]; omega)))) rfl ?_
 refine dq rfl (rd_move rfl) rfl ?_
 refine dq rfl (rd_move rfl) rfl ?_
 refine dq rfl (rd_index S128 rfl rfl hA0 (by omega) (by omega)) rfl ?_
 refine dq rfl (rd_ldr C3 (by repeat constructor) rfl (arr_get1 (i := a) (by first | omega | (simp only [swp_size, Array.size_setIfInBounds]; omega)))) rfl ?_
 refine de rfl rfl (ef_pure rfl rfl K167 rfl (by exact c167 _ _)) (fun _ h => h.sb) ?_ d_stop
 refine d_end ?_
 refine f_then ?_
 refine c_cond rfl (fun h18 => ?_) (fun h18 => ?_)
 ·refine c_seq ?_
  refine c_reg ?_
  refine sq (rd_move rfl) rfl ?_
  refine sq (rd_nil rfl) rfl ?_
  refine sq (rd_ldb C3 rfl (by repeat constructor) rfl) rfl ?_
  refine sq (rd_addn (sw) (1) rfl rfl rfl rfl (by omega)) rfl ?_
  refine sq (rd_nil rfl) rfl ?_
  refine se (ef_store C3 rfl rfl (by repeat constructor) (by repeat constructor) rfl) rfl ?_
  refine s_end ?_
  refine f_then ?_
  refine c_seq ?_
  refine c_reg ?_
  refine sq (rd_move rfl) rfl ?_
  refine sq (rd_move rfl) rfl ?_
  refine sq (rd_assign rfl) rfl ?_
  refine sq (rd_assign rfl) rfl ?_
  refine s_end ?_
  refine f_then ?_
  refine c_ret ?_
  refine f_then_r ?_
  refine f_ret rfl (.tmp rfl (.tmp rfl .nil)) ?_
  exact fun w' hS => ⟨_, rfl, (b, a, sw + 1), rfl, by refine ⟨?_, ?_, ?_⟩ <;> (dsimp only; omega), hS⟩
 ·refine c_skip ?_
  refine f_then ?_
  refine c_seq ?_
  refine c_reg ?_
  refine sq (rd_move rfl) rfl ?_
  refine sq (rd_move rfl) rfl ?_
  refine sq (rd_assign rfl) rfl ?_
  refine sq (rd_assign rfl) rfl ?_
  refine s_end ?_
  refine f_then ?_
  refine c_ret ?_
  refine f_ret rfl (.tmp rfl (.tmp rfl .nil)) ?_
  exact fun w' hS => ⟨_, rfl, (a, b, sw), rfl, by refine ⟨?_, ?_, ?_⟩ <;> (dsimp only; omega), hS⟩

theorem c178 (w : World) (A : Option Addr) (cap n : Nat) (d : Array Int) (hd : d.size = n) (hn : n ≤ 1000000) (bk sw : Nat) (hsw : sw ≤ 1000) (hsw2 : sw ≤ 900) (a b c : Nat) (ha : a < n) (hb : b < n) (hc : c < n) (hS : St w (fpOf [.row 3 1 A n cap (ints d.toList), .blk bk [.int .i64 (sw : Int)] 3]) [.row 3 1 A n cap (ints d.toList), .blk bk [.int .i64 (sw : Int)] 3] w) : Calls Tryz.prog 178 [.slice A n cap, .int .i64 (a : Int), .int .i64 (b : Int), .int .i64 (c : Int), .pointer (some ⟨bk, 0, none⟩)].toArray w (RtE fun v w' => ∃ x : Nat × Nat, v = (fun x => .int .i64 (x.1 : Int)) x ∧ (fun x => (x.1 = a ∨ x.1 = b ∨ x.1 = c) ∧ x.2 ≤ sw + 3) x ∧ St w (fpOf [.row 3 1 A n cap (ints d.toList), .blk bk [.int .i64 (sw : Int)] 3]) ((fun x => [.row 3 1 A n cap (ints d.toList), .blk bk [.int .i64 (x.2 : Int)] 3]) x) w') := by
 refine enter Tryz.func178 rfl Tryz.ntmps178 rfl hS ?_
 refine c_seq ?_
 have hA0 : 0 < n → plainA A := fun h => ((row_know (List.mem_cons_self ..) w hS).2.2.2 h).1
 refine c_reg ?_
 refine sq (rd_assign rfl) rfl ?_
 refine s_end ?_
 refine f_then ?_
 refine c_seq ?_
 refine c_reg ?_
 refine sq (rd_move rfl) rfl ?_
 refine sq (rd_move rfl) rfl ?_
 refine sq (rd_move rfl) rfl ?_
 refine sq (rd_move rfl) rfl ?_
 refine sx (ef_call rfl rfl K180 (fun _ e => by cases e; rfl) [.row _ _ A n cap _, .blk bk _ _] _ (.refl _) _ _ _ (fun w hS => by exact c180 w A cap n d hd hn  bk sw (by omega) a b (by omega) (by omega) hS.own)) rfl ?_
 rintro ⟨p1, q1, s1⟩ ⟨hp1, hq1, hs1⟩
 dsimp only at hp1 hq1 hs1
 refine sq (rd_move rfl) rfl ?_
 refine sq (rd_extract rfl rfl) rfl ?_
 refine sq (rd_extract rfl rfl) rfl ?_
 refine sq (rd_assign rfl) rfl ?_
 refine sq (rd_assign rfl) rfl ?_
 refine s_end ?_
 refine f_then ?_
 refine c_seq ?_
 refine c_reg ?_
 refine sq (rd_move rfl) rfl ?_
 refine sq (rd_move rfl) rfl ?_
 refine sq (rd_move rfl) rfl ?_
 refine sq (rd_move rfl) rfl ?_
 refine sx (ef_call rfl rfl K180 (fun _ e => by cases e; rfl) [.row _ _ A n cap _, .blk bk _ _] _ (.refl _) _ _ _ (fun w hS => by exact c180 w A cap n d hd hn  bk s1 (by omega) q1 c (by omega) (by omega) hS.own)) rfl ?_
 rintro ⟨p2, q2, s2⟩ ⟨hp2, hq2, hs2⟩
 dsimp only at hp2 hq2 hs2
 refine sq (rd_move rfl) rfl ?_
 refine sq (rd_extract rfl rfl) rfl ?_
 refine sq (rd_extract rfl rfl) rfl ?_
 refine sq (rd_assign rfl) rfl ?_
 refine sq (rd_assign rfl) rfl ?_
 refine s_end ?_
 refine f_then ?_
 refine c_seq ?_
 refine c_reg ?_
 refine sq (rd_move rfl) rfl ?_
 refine sq (rd_move rfl) rfl ?_
 refine sq (rd_move rfl) rfl ?_
 refine sq (rd_move rfl) rfl ?_
 refine sx (ef_call rfl rfl K180 (fun _ e => by cases e; rfl) [.row _ _ A n cap _, .blk bk _ _] _ (.refl _) _ _ _ (fun w hS => by exact c180 w A cap n d hd hn  bk s2 (by omega) p1 p2 (by omega) (by omega) hS.own)) rfl ?_
 rintro ⟨p3, q3, s3⟩ ⟨hp3, hq3, hs3⟩
 dsimp only at hp3 hq3 hs3
 refine sq (rd_move rfl) rfl ?_
 refine sq (rd_extract rfl rfl) rfl ?_
 refine sq (rd_extract rfl rfl) rfl ?_
 refine sq (rd_assign rfl) rfl ?_
 refine sq (rd_assign rfl) rfl ?_
 refine s_end ?_
 refine f_then ?_
 refine c_seq ?_
 refine c_reg ?_
 refine sq (rd_move rfl) rfl ?_
 refine sq (rd_assign rfl) rfl ?_
 refine s_end ?_
 refine f_then ?_
 refine c_ret ?_
 refine f_ret rfl (.tmp rfl .nil) ?_
 exact fun w' hS => ⟨_, rfl, (q3, s3), rfl, by refine ⟨?_, ?_⟩ <;> (dsimp only; omega), hS⟩

theorem c177 (w : World) (A : Option Addr) (cap n : Nat) (d : Array Int) (hd : d.size = n) (hn : n ≤ 1000000) (bk sw : Nat) (hsw : sw ≤ 1000) (hsw2 : sw ≤ 900) (a : Nat) (ha : 1 ≤ a) (ha2 : a + 1 < n) (hS : St w (fpOf [.row 3 1 A n cap (ints d.toList), .blk bk [.int .i64 (sw : Int)] 3]) [.row 3 1 A n cap (ints d.toList), .blk bk [.int .i64 (sw : Int)] 3] w) : Calls Tryz.prog 177 [.slice A n cap, .int .i64 (a : Int), .pointer (some ⟨bk, 0, none⟩)].toArray w (RtE fun v w' => ∃ x : Nat × Nat, v = (fun x => .int .i64 (x.1 : Int)) x ∧ (fun x => (x.1 = a - 1 ∨ x.1 = a ∨ x.1 = a + 1) ∧ x.2 ≤ sw + 3) x ∧ St w (fpOf [.row 3 1 A n cap (ints d.toList), .blk bk [.int .i64 (sw : Int)] 3]) ((fun x => [.row 3 1 A n cap (ints d.toList), .blk bk [.int .i64 (x.2 : Int)] 3]) x) w') := by
 refine enter Tryz.func177 rfl Tryz.ntmps177 rfl hS ?_
 refine c_seq ?_
 have hA0 : 0 < n → plainA A := fun h => ((row_know (List.mem_cons_self ..) w hS).2.2.2 h).1
 refine c_reg ?_
 refine sq (rd_assign rfl) rfl ?_
 refine s_end ?_
 refine f_then ?_
 refine c_seq ?_
 refine c_reg ?_
 refine sq (rd_move rfl) rfl ?_
 refine sq (rd_move rfl) rfl ?_
 refine sq (rd_subn (a) (1) rfl rfl rfl rfl (by omega) (by omega)) rfl ?_
 refine sq (rd_move rfl) rfl ?_
 refine sq (rd_move rfl) rfl ?_
 refine sq (rd_addn (a) (1) rfl rfl rfl rfl (by omega)) rfl ?_
 refine sq (rd_move rfl) rfl ?_
 refine sx (ef_call rfl rfl K178 (fun _ e => by cases e; rfl) [.row _ _ A n cap _, .blk bk _ _] _ (.refl _) _ _ _ (fun w hS => by exact c178 w A cap n d hd hn  bk sw hsw hsw2 (a - 1) a (a + 1) (by omega) (by omega) (by omega) hS.own)) rfl ?_
 rintro ⟨p, s⟩ ⟨hp, hs⟩
 dsimp only at hp hs
 refine sq (rd_assign rfl) rfl ?_
 refine s_end ?_
 refine f_then ?_
 refine c_ret ?_
 refine f_ret rfl (.tmp rfl .nil) ?_
 exact fun w' hS => ⟨_, rfl, (p, s), rfl, by refine ⟨?_, ?_⟩ <;> (dsimp only; omega), hS⟩

end Go.Proofs.YtfccnoccfhgcbaaGreatDoor
namespace Go.Proofs.YtfccnoccfhgcbaaGreatDoor
open Go Go.RowKit

theorem bitsLen_step {x : Nat} (h : 1 ≤ x) : Sort.bitsLen x = Sort.bitsLen (x / 2) + 1 := by
 unfold Sort.bitsLen
 rw [if_neg (by omega)]
 rw [Nat.log2_def]
 by_cases h2 : 2 ≤ x
 ·rw [if_pos h2, if_neg (by omega)]
 ·have : x = 1 := by omega
  subst this
  rfl
theorem bitsLen_div : ∀ (k : Nat) {x : Nat}, 2 ^ k ≤ x → Sort.bitsLen x = k + Sort.bitsLen (x / 2 ^ k)
 | 0, x, _ => by simp
 | k + 1, x, h => by
  have h1 : 1 ≤ x := Nat.le_trans Nat.one_le_two_pow h
  have h2 : 2 ^ k ≤ x / 2 := by
   rw [Nat.le_div_iff_mul_le (by decide)]
   rw [Nat.pow_succ] at h
   exact h
  rw [bitsLen_step h1, bitsLen_div k h2, Nat.div_div_eq_div_mul, Nat.pow_succ, Nat.mul_comm 2]
  omega
theorem bitsLen_le8 {x : Nat} (h : x < 256) : Sort.bitsLen x ≤ 8 := (Sort.bitsLen_le_iff x 8).2 h
/-- A text's bytes are how long their places are in bits. -/
def tabLen (s : ByteArray) : Bool := (List.range 256).all fun i => s[i]? == some (UInt8.ofNat (Sort.bitsLen i))
theorem shrn (a k m : Nat) (hk : k < 64) (hm : 2 ^ k = m) : (a : Int).fdiv (2 ^ (min ((k : Int)).toNat IntKind.u64.bits)) = ((a / m : Nat) : Int) := by
 have e : min ((k : Int)).toNat IntKind.u64.bits = k := by
  show min k 64 = k
  omega
 subst hm
 rw [e, Int.fdiv_eq_ediv_of_nonneg _ (Int.pow_nonneg (by decide))]
 simp
theorem wrap_u64_range (x : Int) : 0 ≤ IntKind.u64.wrap x ∧ IntKind.u64.wrap x ≤ 18446744073709551615 := by
 unfold IntKind.wrap
 simp only [IntKind.bits, IntKind.signed, Bool.false_and, Bool.false_eq_true, if_false]
 omega
theorem bits_u64_range (o : BinOp) (a b : Int) : 0 ≤ bits o .u64 a b ∧ bits o .u64 a b ≤ 18446744073709551615 := by
 unfold bits
 exact wrap_u64_range _
theorem and_u64_le {a b : Int} (hb : 0 ≤ b) (hb2 : b ≤ 18446744073709551615) : 0 ≤ bits .and .u64 a b ∧ bits .and .u64 a b ≤ b := by
 have e : bits .and .u64 a b = IntKind.u64.wrap ((BitVec.ofInt 64 a &&& BitVec.ofInt 64 b).toNat : Int) := rfl
 have h1 : (BitVec.ofInt 64 b).toNat = b.toNat := by
  rw [BitVec.toNat_ofInt]
  congr 1
  exact Int.emod_eq_of_lt hb (by
   have : ((2 ^ 64 : Nat) : Int) = 18446744073709551616 := rfl
   omega)
 have h2 : (BitVec.ofInt 64 a &&& BitVec.ofInt 64 b).toNat ≤ b.toNat := by
  rw [BitVec.toNat_and, h1]
  exact Nat.and_le_right
 rw [e, wrap_u64 ⟨by omega, by omega⟩]
 omega
theorem shl1 (k : Nat) (hk : k ≤ 62) : IntKind.u64.wrap ((1 : Int) * 2 ^ (min ((k : Int)).toNat IntKind.u64.bits)) = ((2 ^ k : Nat) : Int) := by
 have e : min ((k : Int)).toNat IntKind.u64.bits = k := by
  show min k 64 = k
  omega
 have h : (2 : Nat) ^ k ≤ 2 ^ 62 := Nat.pow_le_pow_right (by decide) hk
 have h2 : (2 : Nat) ^ 62 = 4611686018427387904 := rfl
 have h3 : (1 : Int) * 2 ^ k = ((2 ^ k : Nat) : Int) := by simp
 rw [e, h3]
 have h4 : (2 : Nat) ^ k ≤ 4611686018427387904 := h
 clear h h3 e
 generalize (2 : Nat) ^ k = m at *
 exact wrap_u64 ⟨by omega, by omega⟩
theorem bitsLen_le62 {n : Nat} (h : n ≤ 1000000) : Sort.bitsLen n ≤ 62 := (Sort.bitsLen_le_iff n 62).2 (Nat.lt_of_le_of_lt h (by decide))
section
variable {P : Program} {S : World → Prop} {n : Nat} {L : Slots} {dst : Option Nat} {ty : Nat} {pos : String} {af : Array Edge} {g : Option (Nat × Bool)} {x y : Operand} {t : TypeId} {k : IntKind}
theorem rd_index_str {s : ByteArray} {i : Nat} {b : UInt8} (hs : P.underlying t = some .string) (hx : opv L x = some (.string s)) (hy : opv L y = some (.int k (i : Int))) (hb : s[i]? = some b) : Rd P S n L ⟨dst, .index t x y, ty, pos, af, g⟩ (.int .u8 (b.toNat : Int)) := fun A w hA _ => by
 have h0 : (0 : Int) ≤ (i : Int) := Int.natCast_nonneg i
 simp [execOp, hA.eval hx, hA.eval hy, Instr.index, asIntOf, run_underlying hs, hb]
theorem rd_index_len {s : ByteArray} {i : Nat} (hs : P.underlying t = some .string) (hx : opv L x = some (.string s)) (hy : opv L y = some (.int k (i : Int))) (hi : i < 256) (ht : tabLen s = true) : Rd P S n L ⟨dst, .index t x y, ty, pos, af, g⟩ (.int .u8 (Sort.bitsLen i : Int)) := by
 have h : s[i]? = some (UInt8.ofNat (Sort.bitsLen i)) := by
  unfold tabLen at ht
  rw [List.all_eq_true] at ht
  exact eq_of_beq (ht i (List.mem_range.2 hi))
 have h8 := bitsLen_le8 hi
 have e : (UInt8.ofNat (Sort.bitsLen i)).toNat = Sort.bitsLen i := by
  rw [UInt8.toNat_ofNat']
  omega
 have := rd_index_str (S := S) (n := n) (dst := dst) (ty := ty) (pos := pos) (af := af) (g := g) hs hx hy h
 rwa [e] at this
end
end Go.Proofs.YtfccnoccfhgcbaaGreatDoor
namespace Go.Proofs.YtfccnoccfhgcbaaGreatDoor
open Go Go.RowKit
theorem I5 : Tryz.prog.underlying 5 = some (.int .u8) := by kernel_rfl
theorem Str9 : Tryz.prog.underlying 9 = some .string := by kernel_rfl
theorem K134 : callTy Tryz.prog 134 := by unfold callTy; kernel_rfl
theorem c134 (n : Nat) (hn : n ≤ 18446744073709551615) : Pu Tryz.prog 134 [.int .u64 (n : Int)] (.int .i64 (Sort.bitsLen n : Int)) := by
 refine Pu.enter Tryz.func134 rfl Tryz.ntmps134 rfl (fun w => ?_)
 refine c_seq ?_
 refine c_reg ?_
 refine sq (rd_assign rfl) rfl ?_
 refine s_end ?_
 refine f_then ?_
 refine c_seq ?_
 refine c_seq ?_
 refine c_reg ?_
 refine sq (rd_move rfl) rfl ?_
 refine sq (rd_geq rfl rfl) rfl ?_
 refine s_end ?_
 refine f_then ?_
 refine c_if rfl (fun h4 => ?_) (fun h4 => ?_)
 ·refine c_seq ?_
  refine c_reg ?_
  refine sq (rd_move rfl) rfl ?_
  refine sq (rd_shr rfl rfl (by omega) (shrn (n) 32 4294967296 (by decide) (by decide))) rfl ?_
  refine sq (rd_assign rfl) rfl ?_
  refine s_end ?_
  refine f_then ?_
  refine c_reg ?_
  refine sq (rd_assign rfl) rfl ?_
  refine s_end ?_
  refine f_then ?_
  refine c_seq ?_
  refine c_seq ?_
  refine c_reg ?_
  refine sq (rd_move rfl) rfl ?_
  refine sq (rd_geq rfl rfl) rfl ?_
  refine s_end ?_
  refine f_then ?_
  refine c_if rfl (fun h8 => ?_) (fun h8 => ?_)
  ·refine c_seq ?_
   refine c_reg ?_
   refine sq (rd_move rfl) rfl ?_
   refine sq (rd_shr rfl rfl (by omega) (shrn ((n / 4294967296)) 16 65536 (by decide) (by decide))) rfl ?_
   refine sq (rd_assign rfl) rfl ?_
   refine s_end ?_
   refine f_then ?_
   refine c_reg ?_
   refine sq (rd_move rfl) rfl ?_
   refine sq (rd_add rfl rfl (by first | exact wrap_i64 (by omega) | exact rfl)) rfl ?_
   refine sq (rd_assign rfl) rfl ?_
   refine s_end ?_
   refine f_then ?_
   refine c_seq ?_
   refine c_seq ?_
   refine c_reg ?_
   refine sq (rd_move rfl) rfl ?_
   refine sq (rd_geq rfl rfl) rfl ?_
   refine s_end ?_
   refine f_then ?_
   refine c_if rfl (fun h14 => ?_) (fun h14 => ?_)
   ·refine c_seq ?_
    refine c_reg ?_
    refine sq (rd_move rfl) rfl ?_
    refine sq (rd_shr rfl rfl (by omega) (shrn (((n / 4294967296) / 65536)) 8 256 (by decide) (by decide))) rfl ?_
    refine sq (rd_assign rfl) rfl ?_
    refine s_end ?_
    refine f_then ?_
    refine c_reg ?_
    refine sq (rd_move rfl) rfl ?_
    refine sq (rd_add rfl rfl (by first | exact wrap_i64 (by omega) | exact rfl)) rfl ?_
    refine sq (rd_assign rfl) rfl ?_
    refine s_end ?_
    refine f_then ?_
    refine c_seq ?_
    refine c_reg ?_
    refine sq (rd_move rfl) rfl ?_
    refine sq (rd_move rfl) rfl ?_
    refine sq (rd_conv ⟨_, I118⟩ I5 rfl (by first | exact wrap_u8 (by omega) | exact rfl)) rfl ?_
    refine sq (rd_index_len Str9 rfl rfl (by omega) (by kernel_rfl)) rfl ?_
    have hb8 := bitsLen_le8 (x := (((n / 4294967296) / 65536) / 256)) (by omega)
    refine sq (rd_conv ⟨_, I5⟩ I3 rfl (by first | exact wrap_i64 (by omega) | exact rfl)) rfl ?_
    refine sq (rd_add rfl rfl (by first | exact wrap_i64 (by omega) | exact rfl)) rfl ?_
    refine sq (rd_assign rfl) rfl ?_
    refine s_end ?_
    refine f_then ?_
    refine c_ret ?_
    refine f_ret rfl (.tmp rfl .nil) ?_
    refine pu_end (int_eq ?_)
    have e0 := bitsLen_div 32 (x := n) (by show 4294967296 ≤ n; omega)
    rw [show (2 : Nat) ^ 32 = 4294967296 from rfl] at e0
    have e1 := bitsLen_div 16 (x := (n / 4294967296)) (by show 65536 ≤ (n / 4294967296); omega)
    rw [show (2 : Nat) ^ 16 = 65536 from rfl] at e1
    have e2 := bitsLen_div 8 (x := ((n / 4294967296) / 65536)) (by show 256 ≤ ((n / 4294967296) / 65536); omega)
    rw [show (2 : Nat) ^ 8 = 256 from rfl] at e2
    omega
   ·refine c_skip ?_
    refine f_then ?_
    refine c_seq ?_
    refine c_reg ?_
    refine sq (rd_move rfl) rfl ?_
    refine sq (rd_move rfl) rfl ?_
    refine sq (rd_conv ⟨_, I118⟩ I5 rfl (by first | exact wrap_u8 (by omega) | exact rfl)) rfl ?_
    refine sq (rd_index_len Str9 rfl rfl (by omega) (by kernel_rfl)) rfl ?_
    have hb8 := bitsLen_le8 (x := ((n / 4294967296) / 65536)) (by omega)
    refine sq (rd_conv ⟨_, I5⟩ I3 rfl (by first | exact wrap_i64 (by omega) | exact rfl)) rfl ?_
    refine sq (rd_add rfl rfl (by first | exact wrap_i64 (by omega) | exact rfl)) rfl ?_
    refine sq (rd_assign rfl) rfl ?_
    refine s_end ?_
    refine f_then ?_
    refine c_ret ?_
    refine f_ret rfl (.tmp rfl .nil) ?_
    refine pu_end (int_eq ?_)
    have e0 := bitsLen_div 32 (x := n) (by show 4294967296 ≤ n; omega)
    rw [show (2 : Nat) ^ 32 = 4294967296 from rfl] at e0
    have e1 := bitsLen_div 16 (x := (n / 4294967296)) (by show 65536 ≤ (n / 4294967296); omega)
    rw [show (2 : Nat) ^ 16 = 65536 from rfl] at e1
    omega
  ·refine c_skip ?_
   refine f_then ?_
   refine c_seq ?_
   refine c_seq ?_
   refine c_reg ?_
   refine sq (rd_move rfl) rfl ?_
   refine sq (rd_geq rfl rfl) rfl ?_
   refine s_end ?_
   refine f_then ?_
   refine c_if rfl (fun h14 => ?_) (fun h14 => ?_)
   ·refine c_seq ?_
    refine c_reg ?_
    refine sq (rd_move rfl) rfl ?_
    refine sq (rd_shr rfl rfl (by omega) (shrn ((n / 4294967296)) 8 256 (by decide) (by decide))) rfl ?_
    refine sq (rd_assign rfl) rfl ?_
    refine s_end ?_
    refine f_then ?_
    refine c_reg ?_
    refine sq (rd_move rfl) rfl ?_
    refine sq (rd_add rfl rfl (by first | exact wrap_i64 (by omega) | exact rfl)) rfl ?_
    refine sq (rd_assign rfl) rfl ?_
    refine s_end ?_
    refine f_then ?_
    refine c_seq ?_
    refine c_reg ?_
    refine sq (rd_move rfl) rfl ?_
    refine sq (rd_move rfl) rfl ?_
    refine sq (rd_conv ⟨_, I118⟩ I5 rfl (by first | exact wrap_u8 (by omega) | exact rfl)) rfl ?_
    refine sq (rd_index_len Str9 rfl rfl (by omega) (by kernel_rfl)) rfl ?_
    have hb8 := bitsLen_le8 (x := ((n / 4294967296) / 256)) (by omega)
    refine sq (rd_conv ⟨_, I5⟩ I3 rfl (by first | exact wrap_i64 (by omega) | exact rfl)) rfl ?_
    refine sq (rd_add rfl rfl (by first | exact wrap_i64 (by omega) | exact rfl)) rfl ?_
    refine sq (rd_assign rfl) rfl ?_
    refine s_end ?_
    refine f_then ?_
    refine c_ret ?_
    refine f_ret rfl (.tmp rfl .nil) ?_
    refine pu_end (int_eq ?_)
    have e0 := bitsLen_div 32 (x := n) (by show 4294967296 ≤ n; omega)
    rw [show (2 : Nat) ^ 32 = 4294967296 from rfl] at e0
    have e1 := bitsLen_div 8 (x := (n / 4294967296)) (by show 256 ≤ (n / 4294967296); omega)
    rw [show (2 : Nat) ^ 8 = 256 from rfl] at e1
    omega
   ·refine c_skip ?_
    refine f_then ?_
    refine c_seq ?_
    refine c_reg ?_
    refine sq (rd_move rfl) rfl ?_
    refine sq (rd_move rfl) rfl ?_
    refine sq (rd_conv ⟨_, I118⟩ I5 rfl (by first | exact wrap_u8 (by omega) | exact rfl)) rfl ?_
    refine sq (rd_index_len Str9 rfl rfl (by omega) (by kernel_rfl)) rfl ?_
    have hb8 := bitsLen_le8 (x := (n / 4294967296)) (by omega)
    refine sq (rd_conv ⟨_, I5⟩ I3 rfl (by first | exact wrap_i64 (by omega) | exact rfl)) rfl ?_
    refine sq (rd_add rfl rfl (by first | exact wrap_i64 (by omega) | exact rfl)) rfl ?_
    refine sq (rd_assign rfl) rfl ?_
    refine s_end ?_
    refine f_then ?_
    refine c_ret ?_
    refine f_ret rfl (.tmp rfl .nil) ?_
    refine pu_end (int_eq ?_)
    have e0 := bitsLen_div 32 (x := n) (by show 4294967296 ≤ n; omega)
    rw [show (2 : Nat) ^ 32 = 4294967296 from rfl] at e0
    omega
 ·refine c_skip ?_
  refine f_then ?_
  refine c_seq ?_
  refine c_seq ?_
  refine c_reg ?_
  refine sq (rd_move rfl) rfl ?_
  refine sq (rd_geq rfl rfl) rfl ?_
  refine s_end ?_
  refine f_then ?_
  refine c_if rfl (fun h8 => ?_) (fun h8 => ?_)
  ·refine c_seq ?_
   refine c_reg ?_
   refine sq (rd_move rfl) rfl ?_
   refine sq (rd_shr rfl rfl (by omega) (shrn (n) 16 65536 (by decide) (by decide))) rfl ?_
   refine sq (rd_assign rfl) rfl ?_
   refine s_end ?_
   refine f_then ?_
   refine c_reg ?_
   refine sq (rd_move rfl) rfl ?_
   refine sq (rd_add rfl rfl (by first | exact wrap_i64 (by omega) | exact rfl)) rfl ?_
   refine sq (rd_assign rfl) rfl ?_
   refine s_end ?_
   refine f_then ?_
   refine c_seq ?_
   refine c_seq ?_
   refine c_reg ?_
   refine sq (rd_move rfl) rfl ?_
   refine sq (rd_geq rfl rfl) rfl ?_
   refine s_end ?_
   refine f_then ?_
   refine c_if rfl (fun h14 => ?_) (fun h14 => ?_)
   ·refine c_seq ?_
    refine c_reg ?_
    refine sq (rd_move rfl) rfl ?_
    refine sq (rd_shr rfl rfl (by omega) (shrn ((n / 65536)) 8 256 (by decide) (by decide))) rfl ?_
    refine sq (rd_assign rfl) rfl ?_
    refine s_end ?_
    refine f_then ?_
    refine c_reg ?_
    refine sq (rd_move rfl) rfl ?_
    refine sq (rd_add rfl rfl (by first | exact wrap_i64 (by omega) | exact rfl)) rfl ?_
    refine sq (rd_assign rfl) rfl ?_
    refine s_end ?_
    refine f_then ?_
    refine c_seq ?_
    refine c_reg ?_
    refine sq (rd_move rfl) rfl ?_
    refine sq (rd_move rfl) rfl ?_
    refine sq (rd_conv ⟨_, I118⟩ I5 rfl (by first | exact wrap_u8 (by omega) | exact rfl)) rfl ?_
    refine sq (rd_index_len Str9 rfl rfl (by omega) (by kernel_rfl)) rfl ?_
    have hb8 := bitsLen_le8 (x := ((n / 65536) / 256)) (by omega)
    refine sq (rd_conv ⟨_, I5⟩ I3 rfl (by first | exact wrap_i64 (by omega) | exact rfl)) rfl ?_
    refine sq (rd_add rfl rfl (by first | exact wrap_i64 (by omega) | exact rfl)) rfl ?_
    refine sq (rd_assign rfl) rfl ?_
    refine s_end ?_
    refine f_then ?_
    refine c_ret ?_
    refine f_ret rfl (.tmp rfl .nil) ?_
    refine pu_end (int_eq ?_)
    have e0 := bitsLen_div 16 (x := n) (by show 65536 ≤ n; omega)
    rw [show (2 : Nat) ^ 16 = 65536 from rfl] at e0
    have e1 := bitsLen_div 8 (x := (n / 65536)) (by show 256 ≤ (n / 65536); omega)
    rw [show (2 : Nat) ^ 8 = 256 from rfl] at e1
    omega
   ·refine c_skip ?_
    refine f_then ?_
    refine c_seq ?_
    refine c_reg ?_
    refine sq (rd_move rfl) rfl ?_
    refine sq (rd_move rfl) rfl ?_
    refine sq (rd_conv ⟨_, I118⟩ I5 rfl (by first | exact wrap_u8 (by omega) | exact rfl)) rfl ?_
    refine sq (rd_index_len Str9 rfl rfl (by omega) (by kernel_rfl)) rfl ?_
    have hb8 := bitsLen_le8 (x := (n / 65536)) (by omega)
    refine sq (rd_conv ⟨_, I5⟩ I3 rfl (by first | exact wrap_i64 (by omega) | exact rfl)) rfl ?_
    refine sq (rd_add rfl rfl (by first | exact wrap_i64 (by omega) | exact rfl)) rfl ?_
    refine sq (rd_assign rfl) rfl ?_
    refine s_end ?_
    refine f_then ?_
    refine c_ret ?_
    refine f_ret rfl (.tmp rfl .nil) ?_
    refine pu_end (int_eq ?_)
    have e0 := bitsLen_div 16 (x := n) (by show 65536 ≤ n; omega)
    rw [show (2 : Nat) ^ 16 = 65536 from rfl] at e0
    omega
  ·refine c_skip ?_
   refine f_then ?_
   refine c_seq ?_
   refine c_seq ?_
   refine c_reg ?_
   refine sq (rd_move rfl) rfl ?_
   refine sq (rd_geq rfl rfl) rfl ?_
   refine s_end ?_
   refine f_then ?_
   refine c_if rfl (fun h14 => ?_) (fun h14 => ?_)
   ·refine c_seq ?_
    refine c_reg ?_
    refine sq (rd_move rfl) rfl ?_
    refine sq (rd_shr rfl rfl (by omega) (shrn (n) 8 256 (by decide) (by decide))) rfl ?_
    refine sq (rd_assign rfl) rfl ?_
    refine s_end ?_
    refine f_then ?_
    refine c_reg ?_
    refine sq (rd_move rfl) rfl ?_
    refine sq (rd_add rfl rfl (by first | exact wrap_i64 (by omega) | exact rfl)) rfl ?_
    refine sq (rd_assign rfl) rfl ?_
    refine s_end ?_
    refine f_then ?_
    refine c_seq ?_
    refine c_reg ?_
    refine sq (rd_move rfl) rfl ?_
    refine sq (rd_move rfl) rfl ?_
    refine sq (rd_conv ⟨_, I118⟩ I5 rfl (by first | exact wrap_u8 (by omega) | exact rfl)) rfl ?_
    refine sq (rd_index_len Str9 rfl rfl (by omega) (by kernel_rfl)) rfl ?_
    have hb8 := bitsLen_le8 (x := (n / 256)) (by omega)
    refine sq (rd_conv ⟨_, I5⟩ I3 rfl (by first | exact wrap_i64 (by omega) | exact rfl)) rfl ?_
    refine sq (rd_add rfl rfl (by first | exact wrap_i64 (by omega) | exact rfl)) rfl ?_
    refine sq (rd_assign rfl) rfl ?_
    refine s_end ?_
    refine f_then ?_
    refine c_ret ?_
    refine f_ret rfl (.tmp rfl .nil) ?_
    refine pu_end (int_eq ?_)
    have e0 := bitsLen_div 8 (x := n) (by show 256 ≤ n; omega)
    rw [show (2 : Nat) ^ 8 = 256 from rfl] at e0
    omega
   ·refine c_skip ?_
    refine f_then ?_
    refine c_seq ?_
    refine c_reg ?_
    refine sq (rd_move rfl) rfl ?_
    refine sq (rd_move rfl) rfl ?_
    refine sq (rd_conv ⟨_, I118⟩ I5 rfl (by first | exact wrap_u8 (by omega) | exact rfl)) rfl ?_
    refine sq (rd_index_len Str9 rfl rfl (by omega) (by kernel_rfl)) rfl ?_
    have hb8 := bitsLen_le8 (x := n) (by omega)
    refine sq (rd_conv ⟨_, I5⟩ I3 rfl (by first | exact wrap_i64 (by omega) | exact rfl)) rfl ?_
    refine sq (rd_add rfl rfl (by first | exact wrap_i64 (by omega) | exact rfl)) rfl ?_
    refine sq (rd_assign rfl) rfl ?_
    refine s_end ?_
    refine f_then ?_
    refine c_ret ?_
    refine f_ret rfl (.tmp rfl .nil) ?_
    refine pu_end (int_eq ?_)
    omega

theorem c78 (n : Nat) (hn : n ≤ 18446744073709551615) : Pu Tryz.prog 78 [.int .u64 (n : Int)] (.int .i64 (Sort.bitsLen n : Int)) := by
 refine Pu.enter Tryz.func78 rfl Tryz.ntmps78 rfl (fun w => ?_)
 refine c_seq ?_
 refine c_reg ?_
 refine sq (rd_assign rfl) rfl ?_
 refine s_end ?_
 refine f_then ?_
 refine c_seq ?_
 refine c_cond rfl (fun h => ?_) (fun h => ?_)
 ·cases h
 ·refine c_skip ?_
  refine f_then ?_
  refine c_seq ?_
  refine c_reg ?_
  refine sq (rd_move rfl) rfl ?_
  refine se (ef_pure rfl rfl K134 rfl (by exact c134 n hn)) rfl ?_
  refine sq (rd_assign rfl) rfl ?_
  refine s_end ?_
  refine f_then ?_
  refine c_ret ?_
  refine f_ret rfl (.tmp rfl .nil) ?_
  exact pu_end (by rfl)

end Go.Proofs.YtfccnoccfhgcbaaGreatDoor
namespace Go.Proofs.YtfccnoccfhgcbaaGreatDoor
open Go Go.RowKit
theorem I133 : Tryz.prog.underlying 133 = some (.int .u64) := by kernel_rfl
theorem K78 : callTy Tryz.prog 78 := by unfold callTy; kernel_rfl
theorem C211 : cellTy Tryz.prog 211 := ⟨by kernel_rfl, by kernel_rfl⟩
theorem I211 : Tryz.prog.underlying 211 = some (.int .u64) := by kernel_rfl
theorem Z211 : zeroTy Tryz.prog 211 [.int .u64 0] := by unfold zeroTy; kernel_rfl
theorem K157 : callTy Tryz.prog 157 := by unfold callTy; kernel_rfl
theorem K158 : callTy Tryz.prog 158 := by unfold callTy; kernel_rfl
theorem c157 (n : Nat) (hn : n ≤ 1000000) : Pu Tryz.prog 157 [.int .i64 (n : Int)] (.int .u64 ((2 ^ Sort.bitsLen n : Nat) : Int)) := by
 refine Pu.enter Tryz.func157 rfl Tryz.ntmps157 rfl (fun w => ?_)
 refine c_seq ?_
 have h62 := bitsLen_le62 hn
 refine c_reg ?_
 refine sq (rd_assign rfl) rfl ?_
 refine s_end ?_
 refine f_then ?_
 refine c_seq ?_
 refine c_reg ?_
 refine sq (rd_move rfl) rfl ?_
 refine sq (rd_conv ⟨_, I3⟩ I133 rfl (by first | exact wrap_u64 (by omega) | exact rfl)) rfl ?_
 refine se (ef_pure rfl rfl K78 rfl (by exact c78 n (by omega))) rfl ?_
 refine sq (rd_shl rfl rfl (by omega) (shl1 _ h62)) rfl ?_
 refine sq (rd_assign rfl) rfl ?_
 refine s_end ?_
 refine f_then ?_
 refine c_ret ?_
 refine f_ret rfl (.tmp rfl .nil) ?_
 exact pu_end (by rfl)

theorem c158 (w : World) (bk : Nat) (y : Int) (hS : St w (fpOf [.blk bk [.int .u64 y] 211]) [.blk bk [.int .u64 y] 211] w) : Calls Tryz.prog 158 [.pointer (some ⟨bk, 0, none⟩)].toArray w (RtE fun v w' => ∃ x : Int, v = (fun x => .int .u64 x) x ∧ (fun x => 0 ≤ x ∧ x ≤ 18446744073709551615) x ∧ St w (fpOf [.blk bk [.int .u64 y] 211]) ((fun x => [.blk bk [.int .u64 x] 211]) x) w') := by
 refine enter Tryz.func158 rfl Tryz.ntmps158 rfl hS ?_
 refine c_seq ?_
 refine c_reg ?_
 refine sq (rd_assign rfl) rfl ?_
 refine s_end ?_
 refine f_then ?_
 refine c_seq ?_
 refine c_regd [] (.q 0 (.q 1 (.q 3 (.q 4 (.alt 2 (.alt 5 (.q 6 (.q 7 (.q 8 (.alt 9 .done .stop)))) .stop) (.alt 5 (.q 6 (.alt 2 (.q 7 (.q 8 (.alt 9 .done .stop))) .stop)) .stop)))))) (by kernel_rfl) (by kernel_rfl) (by kernel_rfl) (by kernel_rfl) (fun _ h => h.sb) ?_
 refine dq rfl (rd_move rfl) rfl ?_
 refine dq rfl (rd_nil rfl) rfl ?_
 refine dq rfl (rd_move rfl) rfl ?_
 refine dq rfl (rd_nil rfl) rfl ?_
 refine de rfl rfl (ef_quiet (rd_ldb C211 rfl (by first | exact .head _) rfl) rfl) (fun _ h => h.sb) ?_ ?_
 ·refine de rfl rfl (ef_quiet (rd_ldb C211 rfl (by first | exact .head _) rfl) rfl) (fun _ h => h.sb) ?_ d_stop
  refine dq rfl (rd_shl rfl rfl (by omega) rfl) rfl ?_
  refine dq rfl (rd_xor' rfl rfl rfl) rfl ?_
  refine dq rfl (rd_nil rfl) rfl ?_
  refine de rfl rfl (ef_store C211 rfl rfl (by first | exact .here) (by repeat constructor) rfl) (fun _ h => h.sb) ?_ d_stop
  refine d_end ?_
  refine f_then ?_
  refine c_seq ?_
  refine c_regd [] (.q 0 (.q 1 (.q 3 (.q 4 (.alt 2 (.alt 5 (.q 6 (.q 7 (.q 8 (.alt 9 .done .stop)))) .stop) (.alt 5 (.q 6 (.alt 2 (.q 7 (.q 8 (.alt 9 .done .stop))) .stop)) .stop)))))) (by kernel_rfl) (by kernel_rfl) (by kernel_rfl) (by kernel_rfl) (fun _ h => h.sb) ?_
  refine dq rfl (rd_move rfl) rfl ?_
  refine dq rfl (rd_nil rfl) rfl ?_
  refine dq rfl (rd_move rfl) rfl ?_
  refine dq rfl (rd_nil rfl) rfl ?_
  refine de rfl rfl (ef_quiet (rd_ldb C211 rfl (by first | exact .head _) rfl) rfl) (fun _ h => h.sb) ?_ ?_
  ·refine de rfl rfl (ef_quiet (rd_ldb C211 rfl (by first | exact .head _) rfl) rfl) (fun _ h => h.sb) ?_ d_stop
   refine dq rfl (rd_shr rfl rfl (by omega) rfl) rfl ?_
   refine dq rfl (rd_xor' rfl rfl rfl) rfl ?_
   refine dq rfl (rd_nil rfl) rfl ?_
   refine de rfl rfl (ef_store C211 rfl rfl (by first | exact .here) (by repeat constructor) rfl) (fun _ h => h.sb) ?_ d_stop
   refine d_end ?_
   refine f_then ?_
   refine c_seq ?_
   refine c_regd [] (.q 0 (.q 1 (.q 3 (.q 4 (.alt 2 (.alt 5 (.q 6 (.q 7 (.q 8 (.alt 9 .done .stop)))) .stop) (.alt 5 (.q 6 (.alt 2 (.q 7 (.q 8 (.alt 9 .done .stop))) .stop)) .stop)))))) (by kernel_rfl) (by kernel_rfl) (by kernel_rfl) (by kernel_rfl) (fun _ h => h.sb) ?_
   refine dq rfl (rd_move rfl) rfl ?_
   refine dq rfl (rd_nil rfl) rfl ?_
   refine dq rfl (rd_move rfl) rfl ?_
   refine dq rfl (rd_nil rfl) rfl ?_
   refine de rfl rfl (ef_quiet (rd_ldb C211 rfl (by first | exact .head _) rfl) rfl) (fun _ h => h.sb) ?_ ?_
   ·refine de rfl rfl (ef_quiet (rd_ldb C211 rfl (by first | exact .head _) rfl) rfl) (fun _ h => h.sb) ?_ d_stop
    refine dq rfl (rd_shl rfl rfl (by omega) rfl) rfl ?_
    refine dq rfl (rd_xor' rfl rfl rfl) rfl ?_
    refine dq rfl (rd_nil rfl) rfl ?_
    refine de rfl rfl (ef_store C211 rfl rfl (by first | exact .here) (by repeat constructor) rfl) (fun _ h => h.sb) ?_ d_stop
    refine d_end ?_
    refine f_then ?_
    refine c_seq ?_
    refine c_reg ?_
    refine sq (rd_move rfl) rfl ?_
    refine sq (rd_nil rfl) rfl ?_
    refine sq (rd_ldb C211 rfl (by first | exact .head _) rfl) rfl ?_
    refine sq (rd_assign rfl) rfl ?_
    refine s_end ?_
    refine f_then ?_
    refine c_ret ?_
    refine f_ret rfl (.tmp rfl .nil) ?_
    exact fun w' hS => ⟨_, rfl, _, rfl, bits_u64_range .xor _ _, hS⟩
   refine de rfl rfl (ef_quiet (rd_ldb C211 rfl (by first | exact .head _) rfl) rfl) (fun _ h => h.sb) ?_ ?_
   ·refine dq rfl (rd_shl rfl rfl (by omega) rfl) rfl ?_
    refine de rfl rfl (ef_quiet (rd_ldb C211 rfl (by first | exact .head _) rfl) rfl) (fun _ h => h.sb) ?_ d_stop
    refine dq rfl (rd_xor' rfl rfl rfl) rfl ?_
    refine dq rfl (rd_nil rfl) rfl ?_
    refine de rfl rfl (ef_store C211 rfl rfl (by first | exact .here) (by repeat constructor) rfl) (fun _ h => h.sb) ?_ d_stop
    refine d_end ?_
    refine f_then ?_
    refine c_seq ?_
    refine c_reg ?_
    refine sq (rd_move rfl) rfl ?_
    refine sq (rd_nil rfl) rfl ?_
    refine sq (rd_ldb C211 rfl (by first | exact .head _) rfl) rfl ?_
    refine sq (rd_assign rfl) rfl ?_
    refine s_end ?_
    refine f_then ?_
    refine c_ret ?_
    refine f_ret rfl (.tmp rfl .nil) ?_
    exact fun w' hS => ⟨_, rfl, _, rfl, bits_u64_range .xor _ _, hS⟩
   exact d_stop
  refine de rfl rfl (ef_quiet (rd_ldb C211 rfl (by first | exact .head _) rfl) rfl) (fun _ h => h.sb) ?_ ?_
  ·refine dq rfl (rd_shr rfl rfl (by omega) rfl) rfl ?_
   refine de rfl rfl (ef_quiet (rd_ldb C211 rfl (by first | exact .head _) rfl) rfl) (fun _ h => h.sb) ?_ d_stop
   refine dq rfl (rd_xor' rfl rfl rfl) rfl ?_
   refine dq rfl (rd_nil rfl) rfl ?_
   refine de rfl rfl (ef_store C211 rfl rfl (by first | exact .here) (by repeat constructor) rfl) (fun _ h => h.sb) ?_ d_stop
   refine d_end ?_
   refine f_then ?_
   refine c_seq ?_
   refine c_regd [] (.q 0 (.q 1 (.q 3 (.q 4 (.alt 2 (.alt 5 (.q 6 (.q 7 (.q 8 (.alt 9 .done .stop)))) .stop) (.alt 5 (.q 6 (.alt 2 (.q 7 (.q 8 (.alt 9 .done .stop))) .stop)) .stop)))))) (by kernel_rfl) (by kernel_rfl) (by kernel_rfl) (by kernel_rfl) (fun _ h => h.sb) ?_
   refine dq rfl (rd_move rfl) rfl ?_
   refine dq rfl (rd_nil rfl) rfl ?_
   refine dq rfl (rd_move rfl) rfl ?_
   refine dq rfl (rd_nil rfl) rfl ?_
   refine de rfl rfl (ef_quiet (rd_ldb C211 rfl (by first | exact .head _) rfl) rfl) (fun _ h => h.sb) ?_ ?_
   ·refine de rfl rfl (ef_quiet (rd_ldb C211 rfl (by first | exact .head _) rfl) rfl) (fun _ h => h.sb) ?_ d_stop
    refine dq rfl (rd_shl rfl rfl (by omega) rfl) rfl ?_
    refine dq rfl (rd_xor' rfl rfl rfl) rfl ?_
    refine dq rfl (rd_nil rfl) rfl ?_
    refine de rfl rfl (ef_store C211 rfl rfl (by first | exact .here) (by repeat constructor) rfl) (fun _ h => h.sb) ?_ d_stop
    refine d_end ?_
    refine f_then ?_
    refine c_seq ?_
    refine c_reg ?_
    refine sq (rd_move rfl) rfl ?_
    refine sq (rd_nil rfl) rfl ?_
    refine sq (rd_ldb C211 rfl (by first | exact .head _) rfl) rfl ?_
    refine sq (rd_assign rfl) rfl ?_
    refine s_end ?_
    refine f_then ?_
    refine c_ret ?_
    refine f_ret rfl (.tmp rfl .nil) ?_
    exact fun w' hS => ⟨_, rfl, _, rfl, bits_u64_range .xor _ _, hS⟩
   refine de rfl rfl (ef_quiet (rd_ldb C211 rfl (by first | exact .head _) rfl) rfl) (fun _ h => h.sb) ?_ ?_
   ·refine dq rfl (rd_shl rfl rfl (by omega) rfl) rfl ?_
    refine de rfl rfl (ef_quiet (rd_ldb C211 rfl (by first | exact .head _) rfl) rfl) (fun _ h => h.sb) ?_ d_stop
    refine dq rfl (rd_xor' rfl rfl rfl) rfl ?_
    refine dq rfl (rd_nil rfl) rfl ?_
    refine de rfl rfl (ef_store C211 rfl rfl (by first | exact .here) (by repeat constructor) rfl) (fun _ h => h.sb) ?_ d_stop
    refine d_end ?_
    refine f_then ?_
    refine c_seq ?_
    refine c_reg ?_
    refine sq (rd_move rfl) rfl ?_
    refine sq (rd_nil rfl) rfl ?_
    refine sq (rd_ldb C211 rfl (by first | exact .head _) rfl) rfl ?_
    refine sq (rd_assign rfl) rfl ?_
    refine s_end ?_
    refine f_then ?_
    refine c_ret ?_
    refine f_ret rfl (.tmp rfl .nil) ?_
    exact fun w' hS => ⟨_, rfl, _, rfl, bits_u64_range .xor _ _, hS⟩
   exact d_stop
  exact d_stop
 refine de rfl rfl (ef_quiet (rd_ldb C211 rfl (by first | exact .head _) rfl) rfl) (fun _ h => h.sb) ?_ ?_
 ·refine dq rfl (rd_shl rfl rfl (by omega) rfl) rfl ?_
  refine de rfl rfl (ef_quiet (rd_ldb C211 rfl (by first | exact .head _) rfl) rfl) (fun _ h => h.sb) ?_ d_stop
  refine dq rfl (rd_xor' rfl rfl rfl) rfl ?_
  refine dq rfl (rd_nil rfl) rfl ?_
  refine de rfl rfl (ef_store C211 rfl rfl (by first | exact .here) (by repeat constructor) rfl) (fun _ h => h.sb) ?_ d_stop
  refine d_end ?_
  refine f_then ?_
  refine c_seq ?_
  refine c_regd [] (.q 0 (.q 1 (.q 3 (.q 4 (.alt 2 (.alt 5 (.q 6 (.q 7 (.q 8 (.alt 9 .done .stop)))) .stop) (.alt 5 (.q 6 (.alt 2 (.q 7 (.q 8 (.alt 9 .done .stop))) .stop)) .stop)))))) (by kernel_rfl) (by kernel_rfl) (by kernel_rfl) (by kernel_rfl) (fun _ h => h.sb) ?_
  refine dq rfl (rd_move rfl) rfl ?_
  refine dq rfl (rd_nil rfl) rfl ?_
  refine dq rfl (rd_move rfl) rfl ?_
  refine dq rfl (rd_nil rfl) rfl ?_
  refine de rfl rfl (ef_quiet (rd_ldb C211 rfl (by first | exact .head _) rfl) rfl) (fun _ h => h.sb) ?_ ?_
  ·refine de rfl rfl (ef_quiet (rd_ldb C211 rfl (by first | exact .head _) rfl) rfl) (fun _ h => h.sb) ?_ d_stop
   refine dq rfl (rd_shr rfl rfl (by omega) rfl) rfl ?_
   refine dq rfl (rd_xor' rfl rfl rfl) rfl ?_
   refine dq rfl (rd_nil rfl) rfl ?_
   refine de rfl rfl (ef_store C211 rfl rfl (by first | exact .here) (by repeat constructor) rfl) (fun _ h => h.sb) ?_ d_stop
   refine d_end ?_
   refine f_then ?_
   refine c_seq ?_
   refine c_regd [] (.q 0 (.q 1 (.q 3 (.q 4 (.alt 2 (.alt 5 (.q 6 (.q 7 (.q 8 (.alt 9 .done .stop)))) .stop) (.alt 5 (.q 6 (.alt 2 (.q 7 (.q 8 (.alt 9 .done .stop))) .stop)) .stop)))))) (by kernel_rfl) (by kernel_rfl) (by kernel_rfl) (by kernel_rfl) (fun _ h => h.sb) ?_
   refine dq rfl (rd_move rfl) rfl ?_
   refine dq rfl (rd_nil rfl) rfl ?_
   refine dq rfl (rd_move rfl) rfl ?_
   refine dq rfl (rd_nil rfl) rfl ?_
   refine de rfl rfl (ef_quiet (rd_ldb C211 rfl (by first | exact .head _) rfl) rfl) (fun _ h => h.sb) ?_ ?_
   ·refine de rfl rfl (ef_quiet (rd_ldb C211 rfl (by first | exact .head _) rfl) rfl) (fun _ h => h.sb) ?_ d_stop
    refine dq rfl (rd_shl rfl rfl (by omega) rfl) rfl ?_
    refine dq rfl (rd_xor' rfl rfl rfl) rfl ?_
    refine dq rfl (rd_nil rfl) rfl ?_
    refine de rfl rfl (ef_store C211 rfl rfl (by first | exact .here) (by repeat constructor) rfl) (fun _ h => h.sb) ?_ d_stop
    refine d_end ?_
    refine f_then ?_
    refine c_seq ?_
    refine c_reg ?_
    refine sq (rd_move rfl) rfl ?_
    refine sq (rd_nil rfl) rfl ?_
    refine sq (rd_ldb C211 rfl (by first | exact .head _) rfl) rfl ?_
    refine sq (rd_assign rfl) rfl ?_
    refine s_end ?_
    refine f_then ?_
    refine c_ret ?_
    refine f_ret rfl (.tmp rfl .nil) ?_
    exact fun w' hS => ⟨_, rfl, _, rfl, bits_u64_range .xor _ _, hS⟩
   refine de rfl rfl (ef_quiet (rd_ldb C211 rfl (by first | exact .head _) rfl) rfl) (fun _ h => h.sb) ?_ ?_
   ·refine dq rfl (rd_shl rfl rfl (by omega) rfl) rfl ?_
    refine de rfl rfl (ef_quiet (rd_ldb C211 rfl (by first | exact .head _) rfl) rfl) (fun _ h => h.sb) ?_ d_stop
    refine dq rfl (rd_xor' rfl rfl rfl) rfl ?_
    refine dq rfl (rd_nil rfl) rfl ?_
    refine de rfl rfl (ef_store C211 rfl rfl (by first | exact .here) (by repeat constructor) rfl) (fun _ h => h.sb) ?_ d_stop
    refine d_end ?_
    refine f_then ?_
    refine c_seq ?_
    refine c_reg ?_
    refine sq (rd_move rfl) rfl ?_
    refine sq (rd_nil rfl) rfl ?_
    refine sq (rd_ldb C211 rfl (by first | exact .head _) rfl) rfl ?_
    refine sq (rd_assign rfl) rfl ?_
    refine s_end ?_
    refine f_then ?_
    refine c_ret ?_
    refine f_ret rfl (.tmp rfl .nil) ?_
    exact fun w' hS => ⟨_, rfl, _, rfl, bits_u64_range .xor _ _, hS⟩
   exact d_stop
  refine de rfl rfl (ef_quiet (rd_ldb C211 rfl (by first | exact .head _) rfl) rfl) (fun _ h => h.sb) ?_ ?_
  ·refine dq rfl (rd_shr rfl rfl (by omega) rfl) rfl ?_
   refine de rfl rfl (ef_quiet (rd_ldb C211 rfl (by first | exact .head _) rfl) rfl) (fun _ h => h.sb) ?_ d_stop
   refine dq rfl (rd_xor' rfl rfl rfl) rfl ?_
   refine dq rfl (rd_nil rfl) rfl ?_
   refine de rfl rfl (ef_store C211 rfl rfl (by first | exact .here) (by repeat constructor) rfl) (fun _ h => h.sb) ?_ d_stop
   refine d_end ?_
   refine f_then ?_
   refine c_seq ?_
   refine c_regd [] (.q 0 (.q 1 (.q 3 (.q 4 (.alt 2 (.alt 5 (.q 6 (.q 7 (.q 8 (.alt 9 .done .stop)))) .stop) (.alt 5 (.q 6 (.alt 2 (.q 7 (.q 8 (.alt 9 .done .stop))) .stop)) .stop)))))) (by kernel_rfl) (by kernel_rfl) (by kernel_rfl) (by kernel_rfl) (fun _ h => h.sb) ?_
   refine dq rfl (rd_move rfl) rfl ?_
   refine dq rfl (rd_nil rfl) rfl ?_
   refine dq rfl (rd_move rfl) rfl ?_
   refine dq rfl (rd_nil rfl) rfl ?_
   refine de rfl rfl (ef_quiet (rd_ldb C211 rfl (by first | exact .head _) rfl) rfl) (fun _ h => h.sb) ?_ ?_
   ·refine de rfl rfl (ef_quiet (rd_ldb C211 rfl (by first | exact .head _) rfl) rfl) (fun _ h => h.sb) ?_ d_stop
    refine dq rfl (rd_shl rfl rfl (by omega) rfl) rfl ?_
    refine dq rfl (rd_xor' rfl rfl rfl) rfl ?_
    refine dq rfl (rd_nil rfl) rfl ?_
    refine de rfl rfl (ef_store C211 rfl rfl (by first | exact .here) (by repeat constructor) rfl) (fun _ h => h.sb) ?_ d_stop
    refine d_end ?_
    refine f_then ?_
    refine c_seq ?_
    refine c_reg ?_
    refine sq (rd_move rfl) rfl ?_
    refine sq (rd_nil rfl) rfl ?_
    refine sq (rd_ldb C211 rfl (by first | exact .head _) rfl) rfl ?_
    refine sq (rd_assign rfl) rfl ?_
    refine s_end ?_
    refine f_then ?_
    refine c_ret ?_
    refine f_ret rfl (.tmp rfl .nil) ?_
    exact fun w' hS => ⟨_, rfl, _, rfl, bits_u64_range .xor _ _, hS⟩
   refine de rfl rfl (ef_quiet (rd_ldb C211 rfl (by first | exact .head _) rfl) rfl) (fun _ h => h.sb) ?_ ?_
   ·refine dq rfl (rd_shl rfl rfl (by omega) rfl) rfl ?_
    refine de rfl rfl (ef_quiet (rd_ldb C211 rfl (by first | exact .head _) rfl) rfl) (fun _ h => h.sb) ?_ d_stop
    refine dq rfl (rd_xor' rfl rfl rfl) rfl ?_
    refine dq rfl (rd_nil rfl) rfl ?_
    refine de rfl rfl (ef_store C211 rfl rfl (by first | exact .here) (by repeat constructor) rfl) (fun _ h => h.sb) ?_ d_stop
    refine d_end ?_
    refine f_then ?_
    refine c_seq ?_
    refine c_reg ?_
    refine sq (rd_move rfl) rfl ?_
    refine sq (rd_nil rfl) rfl ?_
    refine sq (rd_ldb C211 rfl (by first | exact .head _) rfl) rfl ?_
    refine sq (rd_assign rfl) rfl ?_
    refine s_end ?_
    refine f_then ?_
    refine c_ret ?_
    refine f_ret rfl (.tmp rfl .nil) ?_
    exact fun w' hS => ⟨_, rfl, _, rfl, bits_u64_range .xor _ _, hS⟩
   exact d_stop
  exact d_stop
 exact d_stop

theorem c127 (w : World) (A : Option Addr) (cap n : Nat) (d : Array SN) (g : Nat) (cmp : SN → SN → Int) (hg : callTy Tryz.prog g) (hcmp : ∀ x y, Pu Tryz.prog g [.agg (SN.enc x).toArray, .agg (SN.enc y).toArray] (.int .i64 (cmp x y))) (hd : d.size = n) (hn : n ≤ 1000000) (a b : Nat) (hab : a ≤ b) (hb : b ≤ n) (hS : St w (fpOf [.row 64 4 A n cap (flat SN.enc d.toList)]) [.row 64 4 A n cap (flat SN.enc d.toList)] w) : Calls Tryz.prog 127 [.slice A n cap, .int .i64 (a : Int), .int .i64 (b : Int), .func (.func g) #[] #[]].toArray w (RtE fun v w' => ∃ x : Array SN, v = (fun _ => .tuple #[]) x ∧ (fun x => x.size = n ∧ Sort.PermIn a b d x) x ∧ St w (fpOf [.row 64 4 A n cap (flat SN.enc d.toList)]) ((fun x => [.row 64 4 A n cap (flat SN.enc x.toList)]) x) w') := by
 refine enter Tryz.func127 rfl Tryz.ntmps127 rfl hS ?_
 refine c_seq ?_
 have hA0 : 0 < n → plainA A := fun h => ((row_know (List.mem_cons_self ..) w hS).2.2.2 h).1
 refine c_reg ?_
 refine sq (rd_move rfl) rfl ?_
 refine sq (rd_move rfl) rfl ?_
 refine sq (rd_subn (b) (a) rfl rfl rfl rfl (by omega) (by omega)) rfl ?_
 refine sq (rd_assign rfl) rfl ?_
 refine s_end ?_
 refine f_then ?_
 refine c_seq ?_
 refine c_reg ?_
 refine sq (rd_move rfl) rfl ?_
 refine sq (rd_geq rfl rfl) rfl ?_
 refine s_end ?_
 refine f_then ?_
 refine c_if rfl (fun h17 => ?_) (fun h17 => ?_)
 ·refine c_seq ?_
  refine c_reg ?_
  refine sq (rd_move rfl) rfl ?_
  refine sq (rd_conv ⟨_, I3⟩ I211 rfl (by first | exact wrap_u64 (by omega) | exact rfl)) rfl ?_
  refine sx (ef_alloc Z211 rfl) rfl ?_
  rintro b9 hb9
  refine se (ef_store C211 rfl rfl (by repeat constructor) (by repeat constructor) rfl) rfl ?_
  refine s_end ?_
  refine f_then ?_
  refine c_seq ?_
  refine c_reg ?_
  refine sq (rd_move rfl) rfl ?_
  refine se (ef_pure rfl rfl K157 rfl (by exact c157 (b - a) (by omega))) rfl ?_
  refine sq (rd_assign rfl) rfl ?_
  refine s_end ?_
  refine f_then ?_
  refine c_seq ?_
  refine c_reg ?_
  refine sq (rd_move rfl) rfl ?_
  refine sq (rd_move rfl) rfl ?_
  refine sq (rd_quon ((b - a)) (4) rfl rfl rfl rfl (by omega) (by omega)) rfl ?_
  refine sq (rd_muln (((b - a) / 4)) (2) rfl rfl rfl rfl (by omega)) rfl ?_
  refine sq (rd_addn (a) ((((b - a) / 4) * 2)) rfl rfl rfl rfl (by omega)) rfl ?_
  refine sq (rd_subn ((a + (((b - a) / 4) * 2))) (1) rfl rfl rfl rfl (by omega) (by omega)) rfl ?_
  refine sq (rd_assign rfl) rfl ?_
  refine s_end ?_
  refine f_then ?_
  refine c_block ?_
  refine c_keep (L' := [(0, _), (1, _), (8, _), (9, _), (10, _), (11, _)]) (by repeat constructor) ?_
  refine c_front (.row _ _ A n cap _) (by repeat constructor) ?_
  refine c_for (α := Nat × Int × Array SN) (fun ⟨i, x, dk⟩ => a ≤ i ∧ i ≤ a + (b - a) / 4 * 2 + 2 ∧ 0 ≤ x ∧ x ≤ 18446744073709551615 ∧ dk.size = n ∧ Sort.PermIn a b d dk) (fun ⟨i, x, dk⟩ => [.row 64 4 A n cap (flat SN.enc dk.toList), .blk b9 [.int .u64 x] 211]) [] (fun ⟨i, x, dk⟩ => [(11, .int .i64 (i : Int))]) [(0, _), (1, _), (8, _), (9, _), (10, _)] (fun ⟨i, x, dk⟩ => a + (b - a) / 4 * 2 + 3 - i) ((a + (b - a) / 4 * 2 - 1, ((b - a : Nat) : Int), d)) (⟨by omega, by omega, by omega, by omega, hd, Sort.permIn_refl _ _ _⟩) (by repeat constructor) (fun _ h => h) ?_
  rintro ⟨i, x, dk⟩ ⟨hi1, hi2, hx1, hx2, hdk, hp⟩
  refine c_seq ?_
  refine c_seq ?_
  have hpw := Sort.two_pow_bitsLen_le (n := b - a) (by omega)
  have hpw0 : 0 < 2 ^ Sort.bitsLen (b - a) := Nat.pow_pos (by decide)
  refine c_reg ?_
  refine sq (rd_move rfl) rfl ?_
  refine sq (rd_move rfl) rfl ?_
  refine sq (rd_move rfl) rfl ?_
  refine sq (rd_quon ((b - a)) (4) rfl rfl rfl rfl (by omega) (by omega)) rfl ?_
  refine sq (rd_muln (((b - a) / 4)) (2) rfl rfl rfl rfl (by omega)) rfl ?_
  refine sq (rd_addn (a) ((((b - a) / 4) * 2)) rfl rfl rfl rfl (by omega)) rfl ?_
  refine sq (rd_addn ((a + (((b - a) / 4) * 2))) (1) rfl rfl rfl rfl (by omega)) rfl ?_
  refine sq (rd_leq rfl rfl) rfl ?_
  refine s_end ?_
  refine f_then ?_
  refine c_if rfl (fun h35 => ?_) (fun h35 => ?_)
  ·refine c_skip ?_
   refine f_then ?_
   refine c_seq ?_
   refine c_block ?_
   refine c_seq ?_
   refine c_reg ?_
   refine s_front (.blk b9 _ _) (by repeat constructor) ?_
   refine sx (ef_call rfl rfl K158 (fun _ e => by cases e; rfl) [.blk b9 _ _] _ (.refl _) _ _ _ (fun w hS => by exact c158 w b9 x hS.own)) rfl ?_
   rintro x2 ⟨hx21, hx22⟩
   refine sq (rd_move rfl) rfl ?_
   refine sq (rd_sub rfl rfl (by first | exact wrap_u64 (by omega) | exact rfl)) rfl ?_
   have hand := and_u64_le (a := x2) (b := ((2 ^ Sort.bitsLen (b - a) : Nat) : Int) - 1) (by omega) (by omega)
   refine sq (rd_and' rfl rfl rfl) rfl ?_
   refine sq (rd_conv ⟨_, I133⟩ I3 rfl (wrap_i64 (by omega))) rfl ?_
   obtain ⟨o, ho⟩ : ∃ o : Nat, bits .and .u64 x2 (((2 ^ Sort.bitsLen (b - a) : Nat) : Int) - 1) = (o : Int) := ⟨_, (Int.toNat_of_nonneg hand.1).symm⟩
   rw [ho] at hand
   refine s_keep (L' := [(11, _), (0, _), (1, _), (8, _), (9, _), (10, _), (28, _), (29, _), (30, _), (31, _), (32, _), (33, _), (34, _), (35, _), (38, _), (39, _), (40, _), (41, _), (42, .int .i64 (o : Int))]) (.cons rfl (.cons rfl (.cons rfl (.cons rfl (.cons rfl (.cons rfl (.cons rfl (.cons rfl (.cons rfl (.cons rfl (.cons rfl (.cons rfl (.cons rfl (.cons rfl (.cons rfl (.cons rfl (.cons rfl (.cons rfl (.cons (congrArg some (int_eq ho)) .nil))))))))))))))))))) ?_
   refine sq (rd_assign rfl) rfl ?_
   refine s_end ?_
   refine f_then ?_
   refine c_meet2 (α := Nat) (fun u => u < b - a) (fun u => []) [.blk b9 _ _, .row _ _ A n cap _] (fun u => [(12, .int .i64 (u : Int))]) [(11, _), (0, _), (1, _), (8, _), (9, _), (10, _), (28, _), (29, _), (30, _), (31, _), (32, _), (33, _), (34, _), (35, _), (38, _), (39, _), (40, _), (41, _), (42, _)] (by repeat constructor) [] (fun _ h => h) ?_ ?_
   ·refine c_seq ?_
    refine c_reg ?_
    refine sq (rd_move rfl) rfl ?_
    refine sq (rd_move rfl) rfl ?_
    refine sq (rd_geq rfl rfl) rfl ?_
    refine s_end ?_
    refine f_then ?_
    refine c_if rfl (fun h45 => ?_) (fun h45 => ?_)
    ·refine c_reg ?_
     refine sq (rd_move rfl) rfl ?_
     refine sq (rd_move rfl) rfl ?_
     refine sq (rd_subn (o) ((b - a)) rfl rfl rfl rfl (by omega) (by omega)) rfl ?_
     refine sq (rd_assign rfl) rfl ?_
     refine s_end ?_
     refine f_cut (o - (b - a)) (by omega) (by repeat constructor) (fun _ h => h.sb)
    ·refine c_skip ?_
     refine f_cut (o) (by omega) (by repeat constructor) (fun _ h => h.sb)
   ·rintro u hu
    refine c_regd [.blk b9 _ _] (.q 0 (.q 1 (.q 2 (.q 3 (.q 4 (.q 5 (.q 6 (.q 7 (.q 8 (.q 9 (.q 10 (.q 12 (.q 13 (.q 14 (.alt 11 (.alt 15 (.q 16 (.alt 17 (.q 18 (.alt 19 .done .stop)) .stop)) .stop) (.alt 15 (.alt 11 (.q 16 (.alt 17 (.q 18 (.alt 19 .done .stop)) .stop)) .stop) .stop)))))))))))))))) (by kernel_rfl) (by kernel_rfl) (by kernel_rfl) (by kernel_rfl) (fun _ h => h.sb) ?_
    refine dq rfl (rd_move rfl) rfl ?_
    refine dq rfl (rd_move rfl) rfl ?_
    refine dq rfl (rd_move rfl) rfl ?_
    refine dq rfl (rd_move rfl) rfl ?_
    refine dq rfl (rd_move rfl) rfl ?_
    refine dq rfl (rd_addn (a) (u) rfl rfl rfl rfl (by omega)) rfl ?_
    refine dq rfl (rd_move rfl) rfl ?_
    refine dq rfl (rd_move rfl) rfl ?_
    refine dq rfl (rd_move rfl) rfl ?_
    refine dq rfl (rd_addn (a) (u) rfl rfl rfl rfl (by omega)) rfl ?_
    refine dq rfl (rd_index S62 rfl rfl hA0 (by omega) (by omega)) rfl ?_
    refine dq rfl (rd_move rfl) rfl ?_
    refine dq rfl (rd_move rfl) rfl ?_
    refine dq rfl (rd_index S62 rfl rfl hA0 (by omega) (by omega)) rfl ?_
    refine de rfl rfl (ef_quiet (rd_ldsr A64 (by repeat constructor) rfl (arr_part (f := SN.enc) SN.enc_len (i := (a + u)) (by first | omega | (simp only [swp_size, Array.size_setIfInBounds]; omega)))) rfl) (fun _ h => h.sb) ?_ ?_
    ·refine de rfl rfl (ef_quiet (rd_ldsr A64 (by repeat constructor) rfl (arr_part (f := SN.enc) SN.enc_len (i := i) (by first | omega | (simp only [swp_size, Array.size_setIfInBounds]; omega)))) rfl) (fun _ h => h.sb) ?_ d_stop
     refine dq rfl (rd_index S62 rfl rfl hA0 (by omega) (by omega)) rfl ?_
     refine d_front (.row _ _ A n cap _) (by repeat constructor) ?_
     refine de rfl rfl (ef_storea SN.enc (i) Sz64 rfl rfl rfl SN.enc_len SN.enc_cells (by decide) (by omega) (by first | omega | (simp only [swp_size, Array.size_setIfInBounds]; omega))) (fun _ h => h.sb) ?_ d_stop
     refine dq rfl (rd_index S62 rfl rfl hA0 (by omega) (by omega)) rfl ?_
     refine de rfl rfl (ef_storea SN.enc ((a + u)) Sz64 rfl rfl rfl SN.enc_len SN.enc_cells (by decide) (by omega) (by first | omega | (simp only [swp_size, Array.size_setIfInBounds]; omega))) (fun _ h => h.sb) ?_ d_stop
     refine d_end ?_
     refine f_blk ?_
     refine f_then ?_
     refine c_reg ?_
     refine sq (rd_move rfl) rfl ?_
     refine sq (rd_addn (i) (1) rfl rfl rfl rfl (by omega)) rfl ?_
     refine sq (rd_assign rfl) rfl ?_
     refine s_end ?_
     refine f_again ((i + 1, x2, Sort.swp dk i (a + u))) (⟨by omega, by omega, hx21, hx22, by simpa using hdk, Sort.permIn_trans _ _ _ _ _ hp (Sort.swp_permIn _ a b _ _ (by omega) (by omega) (by omega) (by omega) (by omega))⟩) (by show a + (b - a) / 4 * 2 + 3 - (i + 1) < a + (b - a) / 4 * 2 + 3 - i; omega) (by repeat constructor) (fun _ h => h.sb)
    refine de rfl rfl (ef_quiet (rd_ldsr A64 (by repeat constructor) rfl (arr_part (f := SN.enc) SN.enc_len (i := i) (by first | omega | (simp only [swp_size, Array.size_setIfInBounds]; omega)))) rfl) (fun _ h => h.sb) ?_ ?_
    ·refine de rfl rfl (ef_quiet (rd_ldsr A64 (by repeat constructor) rfl (arr_part (f := SN.enc) SN.enc_len (i := (a + u)) (by first | omega | (simp only [swp_size, Array.size_setIfInBounds]; omega)))) rfl) (fun _ h => h.sb) ?_ d_stop
     refine dq rfl (rd_index S62 rfl rfl hA0 (by omega) (by omega)) rfl ?_
     refine d_front (.row _ _ A n cap _) (by repeat constructor) ?_
     refine de rfl rfl (ef_storea SN.enc (i) Sz64 rfl rfl rfl SN.enc_len SN.enc_cells (by decide) (by omega) (by first | omega | (simp only [swp_size, Array.size_setIfInBounds]; omega))) (fun _ h => h.sb) ?_ d_stop
     refine dq rfl (rd_index S62 rfl rfl hA0 (by omega) (by omega)) rfl ?_
     refine de rfl rfl (ef_storea SN.enc ((a + u)) Sz64 rfl rfl rfl SN.enc_len SN.enc_cells (by decide) (by omega) (by first | omega | (simp only [swp_size, Array.size_setIfInBounds]; omega))) (fun _ h => h.sb) ?_ d_stop
     refine d_end ?_
     refine f_blk ?_
     refine f_then ?_
     refine c_reg ?_
     refine sq (rd_move rfl) rfl ?_
     refine sq (rd_addn (i) (1) rfl rfl rfl rfl (by omega)) rfl ?_
     refine sq (rd_assign rfl) rfl ?_
     refine s_end ?_
     refine f_again ((i + 1, x2, Sort.swp dk i (a + u))) (⟨by omega, by omega, hx21, hx22, by simpa using hdk, Sort.permIn_trans _ _ _ _ _ hp (Sort.swp_permIn _ a b _ _ (by omega) (by omega) (by omega) (by omega) (by omega))⟩) (by show a + (b - a) / 4 * 2 + 3 - (i + 1) < a + (b - a) / 4 * 2 + 3 - i; omega) (by repeat constructor) (fun _ h => h.sb)
    exact d_stop
  ·refine c_exit ?_
   refine f_then_x ?_
   refine f_then_x ?_
   refine f_blk_x ?_
   refine f_end rfl .nil ?_
   exact fun w' hS => ⟨_, rfl, dk, rfl, ⟨hdk, hp⟩, St.sub (E' := [_]) hS (by repeat (first | exact .refl _ | apply List.Sublist.cons_cons | apply List.Sublist.cons))⟩
 ·refine c_skip ?_
  refine f_end rfl .nil ?_
  exact fun w' hS => ⟨_, rfl, d, rfl, ⟨hd, Sort.permIn_refl _ _ _⟩, St.sub (E' := [_]) hS (by repeat (first | exact .refl _ | apply List.Sublist.cons_cons | apply List.Sublist.cons))⟩

theorem c163 (w : World) (A : Option Addr) (cap n : Nat) (d : Array Int) (hd : d.size = n) (hn : n ≤ 1000000) (a b : Nat) (hab : a ≤ b) (hb : b ≤ n) (hS : St w (fpOf [.row 3 1 A n cap (ints d.toList)]) [.row 3 1 A n cap (ints d.toList)] w) : Calls Tryz.prog 163 [.slice A n cap, .int .i64 (a : Int), .int .i64 (b : Int)].toArray w (RtE fun v w' => ∃ x : Array Int, v = (fun _ => .tuple #[]) x ∧ (fun x => x.size = n ∧ Sort.PermIn a b d x) x ∧ St w (fpOf [.row 3 1 A n cap (ints d.toList)]) ((fun x => [.row 3 1 A n cap (ints x.toList)]) x) w') := by
 refine enter Tryz.func163 rfl Tryz.ntmps163 rfl hS ?_
 refine c_seq ?_
 have hA0 : 0 < n → plainA A := fun h => ((row_know (List.mem_cons_self ..) w hS).2.2.2 h).1
 refine c_reg ?_
 refine sq (rd_move rfl) rfl ?_
 refine sq (rd_move rfl) rfl ?_
 refine sq (rd_subn (b) (a) rfl rfl rfl rfl (by omega) (by omega)) rfl ?_
 refine sq (rd_assign rfl) rfl ?_
 refine s_end ?_
 refine f_then ?_
 refine c_seq ?_
 refine c_reg ?_
 refine sq (rd_move rfl) rfl ?_
 refine sq (rd_geq rfl rfl) rfl ?_
 refine s_end ?_
 refine f_then ?_
 refine c_if rfl (fun h15 => ?_) (fun h15 => ?_)
 ·refine c_seq ?_
  refine c_reg ?_
  refine sq (rd_move rfl) rfl ?_
  refine sq (rd_conv ⟨_, I3⟩ I211 rfl (by first | exact wrap_u64 (by omega) | exact rfl)) rfl ?_
  refine sx (ef_alloc Z211 rfl) rfl ?_
  rintro b7 hb7
  refine se (ef_store C211 rfl rfl (by repeat constructor) (by repeat constructor) rfl) rfl ?_
  refine s_end ?_
  refine f_then ?_
  refine c_seq ?_
  refine c_reg ?_
  refine sq (rd_move rfl) rfl ?_
  refine se (ef_pure rfl rfl K157 rfl (by exact c157 (b - a) (by omega))) rfl ?_
  refine sq (rd_assign rfl) rfl ?_
  refine s_end ?_
  refine f_then ?_
  refine c_seq ?_
  refine c_reg ?_
  refine sq (rd_move rfl) rfl ?_
  refine sq (rd_move rfl) rfl ?_
  refine sq (rd_quon ((b - a)) (4) rfl rfl rfl rfl (by omega) (by omega)) rfl ?_
  refine sq (rd_muln (((b - a) / 4)) (2) rfl rfl rfl rfl (by omega)) rfl ?_
  refine sq (rd_addn (a) ((((b - a) / 4) * 2)) rfl rfl rfl rfl (by omega)) rfl ?_
  refine sq (rd_subn ((a + (((b - a) / 4) * 2))) (1) rfl rfl rfl rfl (by omega) (by omega)) rfl ?_
  refine sq (rd_assign rfl) rfl ?_
  refine s_end ?_
  refine f_then ?_
  refine c_block ?_
  refine c_keep (L' := [(0, _), (1, _), (6, _), (7, _), (8, _), (9, _)]) (by repeat constructor) ?_
  refine c_front (.row _ _ A n cap _) (by repeat constructor) ?_
  refine c_for (α := Nat × Int × Array Int) (fun ⟨i, x, dk⟩ => a ≤ i ∧ i ≤ a + (b - a) / 4 * 2 + 2 ∧ 0 ≤ x ∧ x ≤ 18446744073709551615 ∧ dk.size = n ∧ Sort.PermIn a b d dk) (fun ⟨i, x, dk⟩ => [.row 3 1 A n cap (ints dk.toList), .blk b7 [.int .u64 x] 211]) [] (fun ⟨i, x, dk⟩ => [(9, .int .i64 (i : Int))]) [(0, _), (1, _), (6, _), (7, _), (8, _)] (fun ⟨i, x, dk⟩ => a + (b - a) / 4 * 2 + 3 - i) ((a + (b - a) / 4 * 2 - 1, ((b - a : Nat) : Int), d)) (⟨by omega, by omega, by omega, by omega, hd, Sort.permIn_refl _ _ _⟩) (by repeat constructor) (fun _ h => h) ?_
  rintro ⟨i, x, dk⟩ ⟨hi1, hi2, hx1, hx2, hdk, hp⟩
  refine c_seq ?_
  refine c_seq ?_
  have hpw := Sort.two_pow_bitsLen_le (n := b - a) (by omega)
  have hpw0 : 0 < 2 ^ Sort.bitsLen (b - a) := Nat.pow_pos (by decide)
  refine c_reg ?_
  refine sq (rd_move rfl) rfl ?_
  refine sq (rd_move rfl) rfl ?_
  refine sq (rd_move rfl) rfl ?_
  refine sq (rd_quon ((b - a)) (4) rfl rfl rfl rfl (by omega) (by omega)) rfl ?_
  refine sq (rd_muln (((b - a) / 4)) (2) rfl rfl rfl rfl (by omega)) rfl ?_
  refine sq (rd_addn (a) ((((b - a) / 4) * 2)) rfl rfl rfl rfl (by omega)) rfl ?_
  refine sq (rd_addn ((a + (((b - a) / 4) * 2))) (1) rfl rfl rfl rfl (by omega)) rfl ?_
  refine sq (rd_leq rfl rfl) rfl ?_
  refine s_end ?_
  refine f_then ?_
  refine c_if rfl (fun h33 => ?_) (fun h33 => ?_)
  ·refine c_skip ?_
   refine f_then ?_
   refine c_seq ?_
   refine c_block ?_
   refine c_seq ?_
   refine c_reg ?_
   refine s_front (.blk b7 _ _) (by repeat constructor) ?_
   refine sx (ef_call rfl rfl K158 (fun _ e => by cases e; rfl) [.blk b7 _ _] _ (.refl _) _ _ _ (fun w hS => by exact c158 w b7 x hS.own)) rfl ?_
   rintro x2 ⟨hx21, hx22⟩
   refine sq (rd_move rfl) rfl ?_
   refine sq (rd_sub rfl rfl (by first | exact wrap_u64 (by omega) | exact rfl)) rfl ?_
   have hand := and_u64_le (a := x2) (b := ((2 ^ Sort.bitsLen (b - a) : Nat) : Int) - 1) (by omega) (by omega)
   refine sq (rd_and' rfl rfl rfl) rfl ?_
   refine sq (rd_conv ⟨_, I133⟩ I3 rfl (wrap_i64 (by omega))) rfl ?_
   obtain ⟨o, ho⟩ : ∃ o : Nat, bits .and .u64 x2 (((2 ^ Sort.bitsLen (b - a) : Nat) : Int) - 1) = (o : Int) := ⟨_, (Int.toNat_of_nonneg hand.1).symm⟩
   rw [ho] at hand
   refine s_keep (L' := [(9, _), (0, _), (1, _), (6, _), (7, _), (8, _), (26, _), (27, _), (28, _), (29, _), (30, _), (31, _), (32, _), (33, _), (36, _), (37, _), (38, _), (39, _), (40, .int .i64 (o : Int))]) (.cons rfl (.cons rfl (.cons rfl (.cons rfl (.cons rfl (.cons rfl (.cons rfl (.cons rfl (.cons rfl (.cons rfl (.cons rfl (.cons rfl (.cons rfl (.cons rfl (.cons rfl (.cons rfl (.cons rfl (.cons rfl (.cons (congrArg some (int_eq ho)) .nil))))))))))))))))))) ?_
   refine sq (rd_assign rfl) rfl ?_
   refine s_end ?_
   refine f_then ?_
   refine c_meet2 (α := Nat) (fun u => u < b - a) (fun u => []) [.blk b7 _ _, .row _ _ A n cap _] (fun u => [(10, .int .i64 (u : Int))]) [(9, _), (0, _), (1, _), (6, _), (7, _), (8, _), (26, _), (27, _), (28, _), (29, _), (30, _), (31, _), (32, _), (33, _), (36, _), (37, _), (38, _), (39, _), (40, _)] (by repeat constructor) [] (fun _ h => h) ?_ ?_
   ·refine c_seq ?_
    refine c_reg ?_
    refine sq (rd_move rfl) rfl ?_
    refine sq (rd_move rfl) rfl ?_
    refine sq (rd_geq rfl rfl) rfl ?_
    refine s_end ?_
    refine f_then ?_
    refine c_if rfl (fun h43 => ?_) (fun h43 => ?_)
    ·refine c_reg ?_
     refine sq (rd_move rfl) rfl ?_
     refine sq (rd_move rfl) rfl ?_
     refine sq (rd_subn (o) ((b - a)) rfl rfl rfl rfl (by omega) (by omega)) rfl ?_
     refine sq (rd_assign rfl) rfl ?_
     refine s_end ?_
     refine f_cut (o - (b - a)) (by omega) (by repeat constructor) (fun _ h => h.sb)
    ·refine c_skip ?_
     refine f_cut (o) (by omega) (by repeat constructor) (fun _ h => h.sb)
   ·rintro u hu
    refine c_regd [.blk b7 _ _] (.q 0 (.q 1 (.q 2 (.q 3 (.q 4 (.q 5 (.q 6 (.q 7 (.q 8 (.q 9 (.q 10 (.q 12 (.q 13 (.q 14 (.alt 11 (.alt 15 (.q 16 (.alt 17 (.q 18 (.alt 19 .done .stop)) .stop)) .stop) (.alt 15 (.alt 11 (.q 16 (.alt 17 (.q 18 (.alt 19 .done .stop)) .stop)) .stop) .stop)))))))))))))))) (by kernel_rfl) (by kernel_rfl) (by kernel_rfl) (by kernel_rfl) (fun _ h => h.sb) ?_
    refine dq rfl (rd_move rfl) rfl ?_
    refine dq rfl (rd_move rfl) rfl ?_
    refine dq rfl (rd_move rfl) rfl ?_
    refine dq rfl (rd_move rfl) rfl ?_
    refine dq rfl (rd_move rfl) rfl ?_
    refine dq rfl (rd_addn (a) (u) rfl rfl rfl rfl (by omega)) rfl ?_
    refine dq rfl (rd_move rfl) rfl ?_
    refine dq rfl (rd_move rfl) rfl ?_
    refine dq rfl (rd_move rfl) rfl ?_
    refine dq rfl (rd_addn (a) (u) rfl rfl rfl rfl (by omega)) rfl ?_
    refine dq rfl (rd_index S128 rfl rfl hA0 (by omega) (by omega)) rfl ?_
    refine dq rfl (rd_move rfl) rfl ?_
    refine dq rfl (rd_move rfl) rfl ?_
    refine dq rfl (rd_index S128 rfl rfl hA0 (by omega) (by omega)) rfl ?_
    refine de rfl rfl (ef_quiet (rd_ldr C3 (by repeat constructor) rfl (arr_get1 (i := (a + u)) (by first | omega | (simp only [swp_size, Array.size_setIfInBounds]; omega)))) rfl) (fun _ h => h.sb) ?_ ?_
    ·refine de rfl rfl (ef_quiet (rd_ldr C3 (by repeat constructor) rfl (arr_get1 (i := i) (by first | omega | (simp only [swp_size, Array.size_setIfInBounds]; omega)))) rfl) (fun _ h => h.sb) ?_ d_stop
     refine dq rfl (rd_index S128 rfl rfl hA0 (by omega) (by omega)) rfl ?_
     refine d_front (.row _ _ A n cap _) (by repeat constructor) ?_
     refine de rfl rfl (ef_storei (i) Sz3 rfl rfl rfl (by omega) (by first | omega | (simp only [swp_size, Array.size_setIfInBounds]; omega))) (fun _ h => h.sb) ?_ d_stop
     refine dq rfl (rd_index S128 rfl rfl hA0 (by omega) (by omega)) rfl ?_
     refine de rfl rfl (ef_storei ((a + u)) Sz3 rfl rfl rfl (by omega) (by first | omega | (simp only [swp_size, Array.size_setIfInBounds]; omega))) (fun _ h => h.sb) ?_ d_stop
     refine d_end ?_
     refine f_blk ?_
     refine f_then ?_
     refine c_reg ?_
     refine sq (rd_move rfl) rfl ?_
     refine sq (rd_addn (i) (1) rfl rfl rfl rfl (by omega)) rfl ?_
     refine sq (rd_assign rfl) rfl ?_
     refine s_end ?_
     refine f_again ((i + 1, x2, Sort.swp dk i (a + u))) (⟨by omega, by omega, hx21, hx22, by simpa using hdk, Sort.permIn_trans _ _ _ _ _ hp (Sort.swp_permIn _ a b _ _ (by omega) (by omega) (by omega) (by omega) (by omega))⟩) (by show a + (b - a) / 4 * 2 + 3 - (i + 1) < a + (b - a) / 4 * 2 + 3 - i; omega) (by repeat constructor) (fun _ h => h.sb)
    refine de rfl rfl (ef_quiet (rd_ldr C3 (by repeat constructor) rfl (arr_get1 (i := i) (by first | omega | (simp only [swp_size, Array.size_setIfInBounds]; omega)))) rfl) (fun _ h => h.sb) ?_ ?_
    ·refine de rfl rfl (ef_quiet (rd_ldr C3 (by repeat constructor) rfl (arr_get1 (i := (a + u)) (by first | omega | (simp only [swp_size, Array.size_setIfInBounds]; omega)))) rfl) (fun _ h => h.sb) ?_ d_stop
     refine dq rfl (rd_index S128 rfl rfl hA0 (by omega) (by omega)) rfl ?_
     refine d_front (.row _ _ A n cap _) (by repeat constructor) ?_
     refine de rfl rfl (ef_storei (i) Sz3 rfl rfl rfl (by omega) (by first | omega | (simp only [swp_size, Array.size_setIfInBounds]; omega))) (fun _ h => h.sb) ?_ d_stop
     refine dq rfl (rd_index S128 rfl rfl hA0 (by omega) (by omega)) rfl ?_
     refine de rfl rfl (ef_storei ((a + u)) Sz3 rfl rfl rfl (by omega) (by first | omega | (simp only [swp_size, Array.size_setIfInBounds]; omega))) (fun _ h => h.sb) ?_ d_stop
     refine d_end ?_
     refine f_blk ?_
     refine f_then ?_
     refine c_reg ?_
     refine sq (rd_move rfl) rfl ?_
     refine sq (rd_addn (i) (1) rfl rfl rfl rfl (by omega)) rfl ?_
     refine sq (rd_assign rfl) rfl ?_
     refine s_end ?_
     refine f_again ((i + 1, x2, Sort.swp dk i (a + u))) (⟨by omega, by omega, hx21, hx22, by simpa using hdk, Sort.permIn_trans _ _ _ _ _ hp (Sort.swp_permIn _ a b _ _ (by omega) (by omega) (by omega) (by omega) (by omega))⟩) (by show a + (b - a) / 4 * 2 + 3 - (i + 1) < a + (b - a) / 4 * 2 + 3 - i; omega) (by repeat constructor) (fun _ h => h.sb)
    exact d_stop
  ·refine c_exit ?_
   refine f_then_x ?_
   refine f_then_x ?_
   refine f_blk_x ?_
   refine f_end rfl .nil ?_
   exact fun w' hS => ⟨_, rfl, dk, rfl, ⟨hdk, hp⟩, St.sub (E' := [_]) hS (by repeat (first | exact .refl _ | apply List.Sublist.cons_cons | apply List.Sublist.cons))⟩
 ·refine c_skip ?_
  refine f_end rfl .nil ?_
  exact fun w' hS => ⟨_, rfl, d, rfl, ⟨hd, Sort.permIn_refl _ _ _⟩, St.sub (E' := [_]) hS (by repeat (first | exact .refl _ | apply List.Sublist.cons_cons | apply List.Sublist.cons))⟩

end Go.Proofs.YtfccnoccfhgcbaaGreatDoor
namespace Go.Proofs.YtfccnoccfhgcbaaGreatDoor
open Go Go.RowKit
theorem Z3 : zeroTy Tryz.prog 3 [.int .i64 0] := by unfold zeroTy; kernel_rfl
theorem K159 : callTy Tryz.prog 159 := by unfold callTy; kernel_rfl
theorem K177 : callTy Tryz.prog 177 := by unfold callTy; kernel_rfl
theorem c128 (w : World) (A : Option Addr) (cap n : Nat) (d : Array SN) (g : Nat) (cmp : SN → SN → Int) (hg : callTy Tryz.prog g) (hcmp : ∀ x y, Pu Tryz.prog g [.agg (SN.enc x).toArray, .agg (SN.enc y).toArray] (.int .i64 (cmp x y))) (hd : d.size = n) (hn : n ≤ 1000000) (a b : Nat) (hab : a < b) (hb : b ≤ n) (hS : St w (fpOf [.row 64 4 A n cap (flat SN.enc d.toList)]) [.row 64 4 A n cap (flat SN.enc d.toList)] w) : Calls Tryz.prog 128 [.slice A n cap, .int .i64 (a : Int), .int .i64 (b : Int), .func (.func g) #[] #[]].toArray w (RtE fun v w' => ∃ x : Nat × Int, v = (fun x => .tuple #[.int .i64 (x.1 : Int), .int .i64 x.2]) x ∧ (fun x => a ≤ x.1 ∧ x.1 < b) x ∧ St w (fpOf [.row 64 4 A n cap (flat SN.enc d.toList)]) ((fun _ => [.row 64 4 A n cap (flat SN.enc d.toList)]) x) w') := by
 refine enter Tryz.func128 rfl Tryz.ntmps128 rfl hS ?_
 refine c_seq ?_
 have hA0 : 0 < n → plainA A := fun h => ((row_know (List.mem_cons_self ..) w hS).2.2.2 h).1
 refine c_reg ?_
 refine sq (rd_assign rfl) rfl ?_
 refine sq (rd_assign rfl) rfl ?_
 refine s_end ?_
 refine f_then ?_
 refine c_seq ?_
 refine c_reg ?_
 refine sq (rd_move rfl) rfl ?_
 refine sq (rd_move rfl) rfl ?_
 refine sq (rd_subn (b) (a) rfl rfl rfl rfl (by omega) (by omega)) rfl ?_
 refine sq (rd_assign rfl) rfl ?_
 refine s_end ?_
 refine f_then ?_
 refine c_seq ?_
 refine c_reg ?_
 refine sx (ef_alloc Z3 rfl) rfl ?_
 rintro b11 hb11
 refine s_end ?_
 refine f_then ?_
 refine c_seq ?_
 refine c_reg ?_
 refine sq (rd_move rfl) rfl ?_
 refine sq (rd_move rfl) rfl ?_
 refine sq (rd_quon ((b - a)) (4) rfl rfl rfl rfl (by omega) (by omega)) rfl ?_
 refine sq (rd_muln (((b - a) / 4)) (1) rfl rfl rfl rfl (by omega)) rfl ?_
 refine sq (rd_addn (a) ((((b - a) / 4) * 1)) rfl rfl rfl rfl (by omega)) rfl ?_
 refine sq (rd_assign rfl) rfl ?_
 refine s_end ?_
 refine f_then ?_
 refine c_seq ?_
 refine c_reg ?_
 refine sq (rd_move rfl) rfl ?_
 refine sq (rd_move rfl) rfl ?_
 refine sq (rd_quon ((b - a)) (4) rfl rfl rfl rfl (by omega) (by omega)) rfl ?_
 refine sq (rd_muln (((b - a) / 4)) (2) rfl rfl rfl rfl (by omega)) rfl ?_
 refine sq (rd_addn (a) ((((b - a) / 4) * 2)) rfl rfl rfl rfl (by omega)) rfl ?_
 refine sq (rd_assign rfl) rfl ?_
 refine s_end ?_
 refine f_then ?_
 refine c_seq ?_
 refine c_reg ?_
 refine sq (rd_move rfl) rfl ?_
 refine sq (rd_move rfl) rfl ?_
 refine sq (rd_quon ((b - a)) (4) rfl rfl rfl rfl (by omega) (by omega)) rfl ?_
 refine sq (rd_muln (((b - a) / 4)) (3) rfl rfl rfl rfl (by omega)) rfl ?_
 refine sq (rd_addn (a) ((((b - a) / 4) * 3)) rfl rfl rfl rfl (by omega)) rfl ?_
 refine sq (rd_assign rfl) rfl ?_
 refine s_end ?_
 refine f_then ?_
 refine c_front (.row _ _ A n cap _) (by repeat constructor) ?_
 refine c_meet2 (α := Nat × Nat) (fun ⟨p, s⟩ => a ≤ p ∧ p < b ∧ s ≤ 12) (fun ⟨p, s⟩ => [.row 64 4 A n cap (flat SN.enc d.toList), .blk b11 [.int .i64 (s : Int)] 3]) [] (fun ⟨p, s⟩ => [(13, .int .i64 (p : Int))]) [(8, _), (9, _), (11, _)] (by repeat constructor) [.row _ _ A n cap _, .blk b11 _ _] (fun _ h => h) ?_ ?_
 ·refine c_seq ?_
  refine c_reg ?_
  refine sq (rd_move rfl) rfl ?_
  refine sq (rd_geq rfl rfl) rfl ?_
  refine s_end ?_
  refine f_then ?_
  refine c_if rfl (fun h34 => ?_) (fun h34 => ?_)
  ·refine c_meet2 (α := Nat × Nat × Nat × Nat) (fun ⟨i, j, k, s⟩ => a ≤ i ∧ i < b ∧ a ≤ j ∧ j < b ∧ a ≤ k ∧ k < b ∧ s ≤ 9) (fun ⟨i, j, k, s⟩ => [.row 64 4 A n cap (flat SN.enc d.toList), .blk b11 [.int .i64 (s : Int)] 3]) [] (fun ⟨i, j, k, s⟩ => [(12, .int .i64 (i : Int)), (13, .int .i64 (j : Int)), (14, .int .i64 (k : Int))]) [(0, _), (3, _), (8, _), (9, _), (11, _)] (by repeat constructor) [.row _ _ A n cap _, .blk b11 _ _] (fun _ h => h) ?_ ?_
   ·refine c_seq ?_
    refine c_reg ?_
    refine sq (rd_move rfl) rfl ?_
    refine sq (rd_geq rfl rfl) rfl ?_
    refine s_end ?_
    refine f_then ?_
    refine c_if rfl (fun h36 => ?_) (fun h36 => ?_)
    ·refine c_seq ?_
     refine c_reg ?_
     refine sq (rd_move rfl) rfl ?_
     refine sq (rd_move rfl) rfl ?_
     refine sq (rd_move rfl) rfl ?_
     refine sx (ef_call rfl rfl K159 (fun _ e => by cases e; rfl) [.row _ _ A n cap _, .blk b11 _ _] _ (.refl _) _ _ _ (fun w hS => by exact c159 w A cap n d g cmp hg hcmp hd hn  b11 0 (by omega) (by omega) (a + (b - a) / 4 * 1) (by omega) (by omega) hS.own)) rfl ?_
     rintro ⟨p1, s1⟩ ⟨hp1, hs1⟩
     dsimp only at hp1 hs1
     refine sq (rd_assign rfl) rfl ?_
     refine s_end ?_
     refine f_then ?_
     refine c_seq ?_
     refine c_reg ?_
     refine sq (rd_move rfl) rfl ?_
     refine sq (rd_move rfl) rfl ?_
     refine sq (rd_move rfl) rfl ?_
     refine sx (ef_call rfl rfl K159 (fun _ e => by cases e; rfl) [.row _ _ A n cap _, .blk b11 _ _] _ (.refl _) _ _ _ (fun w hS => by exact c159 w A cap n d g cmp hg hcmp hd hn  b11 s1 (by omega) (by omega) (a + (b - a) / 4 * 2) (by omega) (by omega) hS.own)) rfl ?_
     rintro ⟨p2, s2⟩ ⟨hp2, hs2⟩
     dsimp only at hp2 hs2
     refine sq (rd_assign rfl) rfl ?_
     refine s_end ?_
     refine f_then ?_
     refine c_reg ?_
     refine sq (rd_move rfl) rfl ?_
     refine sq (rd_move rfl) rfl ?_
     refine sq (rd_move rfl) rfl ?_
     refine sx (ef_call rfl rfl K159 (fun _ e => by cases e; rfl) [.row _ _ A n cap _, .blk b11 _ _] _ (.refl _) _ _ _ (fun w hS => by exact c159 w A cap n d g cmp hg hcmp hd hn  b11 s2 (by omega) (by omega) (a + (b - a) / 4 * 3) (by omega) (by omega) hS.own)) rfl ?_
     rintro ⟨p3, s3⟩ ⟨hp3, hs3⟩
     dsimp only at hp3 hs3
     refine sq (rd_assign rfl) rfl ?_
     refine s_end ?_
     refine f_cut ((p1, p2, p3, s3)) (⟨by omega, by omega, by omega, by omega, by omega, by omega, by omega⟩) (by repeat constructor) (fun _ h => h.sb)
    ·refine c_skip ?_
     refine f_cut (((a + (b - a) / 4 * 1), (a + (b - a) / 4 * 2), (a + (b - a) / 4 * 3), 0)) (⟨by omega, by omega, by omega, by omega, by omega, by omega, by omega⟩) (by repeat constructor) (fun _ h => h.sb)
   ·rintro ⟨i, j, k, s⟩ ⟨hi1, hi2, hj1, hj2, hk1, hk2, hs⟩
    refine c_reg ?_
    refine sq (rd_move rfl) rfl ?_
    refine sq (rd_move rfl) rfl ?_
    refine sq (rd_move rfl) rfl ?_
    refine sq (rd_move rfl) rfl ?_
    refine sq (rd_move rfl) rfl ?_
    refine sx (ef_call rfl rfl K160 (fun _ e => by cases e; rfl) [.row _ _ A n cap _, .blk b11 _ _] _ (.refl _) _ _ _ (fun w hS => by exact c160 w A cap n d g cmp hg hcmp hd hn  b11 s (by omega) (by omega) i j k (by omega) (by omega) (by omega) hS.own)) rfl ?_
    rintro ⟨p4, s4⟩ ⟨hp4, hs4⟩
    dsimp only at hp4 hs4
    refine sq (rd_assign rfl) rfl ?_
    refine s_end ?_
    refine f_cut ((p4, s4)) (⟨by omega, by omega, by omega⟩) (by repeat constructor) (fun _ h => h.sb)
  ·refine c_skip ?_
   refine f_cut (((a + (b - a) / 4 * 2), 0)) (⟨by omega, by omega, by omega⟩) (by repeat constructor) (fun _ h => h.sb)
 ·rintro ⟨p, s⟩ ⟨hpa, hpb, hs⟩
  refine c_seq ?_
  refine c_reg ?_
  refine sq (rd_ldb C3 rfl (by repeat constructor) rfl) rfl ?_
  refine s_end ?_
  refine f_then ?_
  refine c_block ?_
  refine c_seq ?_
  refine c_reg ?_
  refine sq (rd_eql rfl rfl) rfl ?_
  refine sq (rd_assign rfl) rfl ?_
  refine s_end ?_
  refine f_then ?_
  refine c_if rfl (fun h57 => ?_) (fun h57 => ?_)
  ·refine c_seq ?_
   refine c_reg ?_
   refine sq (rd_move rfl) rfl ?_
   refine sq (rd_assign rfl) rfl ?_
   refine sq (rd_assign rfl) rfl ?_
   refine s_end ?_
   refine f_then ?_
   refine c_ret ?_
   refine f_blk_r ?_
   refine f_ret rfl (.tmp rfl (.tmp rfl .nil)) ?_
   exact fun w' hS => ⟨_, rfl, (p, 1), rfl, ⟨hpa, hpb⟩, St.sub (E' := [_]) hS (by repeat (first | exact .refl _ | apply List.Sublist.cons_cons | apply List.Sublist.cons))⟩
  ·refine c_seq ?_
   refine c_reg ?_
   refine sq (rd_eql rfl rfl) rfl ?_
   refine sq (rd_assign rfl) rfl ?_
   refine s_end ?_
   refine f_then ?_
   refine c_if rfl (fun h60 => ?_) (fun h60 => ?_)
   ·refine c_seq ?_
    refine c_reg ?_
    refine sq (rd_move rfl) rfl ?_
    refine sq (rd_assign rfl) rfl ?_
    refine sq (rd_assign rfl) rfl ?_
    refine s_end ?_
    refine f_then ?_
    refine c_ret ?_
    refine f_blk_r ?_
    refine f_ret rfl (.tmp rfl (.tmp rfl .nil)) ?_
    exact fun w' hS => ⟨_, rfl, (p, 2), rfl, ⟨hpa, hpb⟩, St.sub (E' := [_]) hS (by repeat (first | exact .refl _ | apply List.Sublist.cons_cons | apply List.Sublist.cons))⟩
   ·refine c_seq ?_
    refine c_reg ?_
    refine sq (rd_move rfl) rfl ?_
    refine sq (rd_assign rfl) rfl ?_
    refine sq (rd_assign rfl) rfl ?_
    refine s_end ?_
    refine f_then ?_
    refine c_ret ?_
    refine f_blk_r ?_
    refine f_ret rfl (.tmp rfl (.tmp rfl .nil)) ?_
    exact fun w' hS => ⟨_, rfl, (p, 0), rfl, ⟨hpa, hpb⟩, St.sub (E' := [_]) hS (by repeat (first | exact .refl _ | apply List.Sublist.cons_cons | apply List.Sublist.cons))⟩

theorem c164 (w : World) (A : Option Addr) (cap n : Nat) (d : Array Int) (hd : d.size = n) (hn : n ≤ 1000000) (a b : Nat) (hab : a < b) (hb : b ≤ n) (hS : St w (fpOf [.row 3 1 A n cap (ints d.toList)]) [.row 3 1 A n cap (ints d.toList)] w) : Calls Tryz.prog 164 [.slice A n cap, .int .i64 (a : Int), .int .i64 (b : Int)].toArray w (RtE fun v w' => ∃ x : Nat × Int, v = (fun x => .tuple #[.int .i64 (x.1 : Int), .int .i64 x.2]) x ∧ (fun x => a ≤ x.1 ∧ x.1 < b) x ∧ St w (fpOf [.row 3 1 A n cap (ints d.toList)]) ((fun _ => [.row 3 1 A n cap (ints d.toList)]) x) w') := by
 refine enter Tryz.func164 rfl Tryz.ntmps164 rfl hS ?_
 refine c_seq ?_
 have hA0 : 0 < n → plainA A := fun h => ((row_know (List.mem_cons_self ..) w hS).2.2.2 h).1
 refine c_reg ?_
 refine sq (rd_assign rfl) rfl ?_
 refine sq (rd_assign rfl) rfl ?_
 refine s_end ?_
 refine f_then ?_
 refine c_seq ?_
 refine c_reg ?_
 refine sq (rd_move rfl) rfl ?_
 refine sq (rd_move rfl) rfl ?_
 refine sq (rd_subn (b) (a) rfl rfl rfl rfl (by omega) (by omega)) rfl ?_
 refine sq (rd_assign rfl) rfl ?_
 refine s_end ?_
 refine f_then ?_
 refine c_seq ?_
 refine c_reg ?_
 refine sx (ef_alloc Z3 rfl) rfl ?_
 rintro b9 hb9
 refine s_end ?_
 refine f_then ?_
 refine c_seq ?_
 refine c_reg ?_
 refine sq (rd_move rfl) rfl ?_
 refine sq (rd_move rfl) rfl ?_
 refine sq (rd_quon ((b - a)) (4) rfl rfl rfl rfl (by omega) (by omega)) rfl ?_
 refine sq (rd_muln (((b - a) / 4)) (1) rfl rfl rfl rfl (by omega)) rfl ?_
 refine sq (rd_addn (a) ((((b - a) / 4) * 1)) rfl rfl rfl rfl (by omega)) rfl ?_
 refine sq (rd_assign rfl) rfl ?_
 refine s_end ?_
 refine f_then ?_
 refine c_seq ?_
 refine c_reg ?_
 refine sq (rd_move rfl) rfl ?_
 refine sq (rd_move rfl) rfl ?_
 refine sq (rd_quon ((b - a)) (4) rfl rfl rfl rfl (by omega) (by omega)) rfl ?_
 refine sq (rd_muln (((b - a) / 4)) (2) rfl rfl rfl rfl (by omega)) rfl ?_
 refine sq (rd_addn (a) ((((b - a) / 4) * 2)) rfl rfl rfl rfl (by omega)) rfl ?_
 refine sq (rd_assign rfl) rfl ?_
 refine s_end ?_
 refine f_then ?_
 refine c_seq ?_
 refine c_reg ?_
 refine sq (rd_move rfl) rfl ?_
 refine sq (rd_move rfl) rfl ?_
 refine sq (rd_quon ((b - a)) (4) rfl rfl rfl rfl (by omega) (by omega)) rfl ?_
 refine sq (rd_muln (((b - a) / 4)) (3) rfl rfl rfl rfl (by omega)) rfl ?_
 refine sq (rd_addn (a) ((((b - a) / 4) * 3)) rfl rfl rfl rfl (by omega)) rfl ?_
 refine sq (rd_assign rfl) rfl ?_
 refine s_end ?_
 refine f_then ?_
 refine c_front (.row _ _ A n cap _) (by repeat constructor) ?_
 refine c_meet2 (α := Nat × Nat) (fun ⟨p, s⟩ => a ≤ p ∧ p < b ∧ s ≤ 12) (fun ⟨p, s⟩ => [.row 3 1 A n cap (ints d.toList), .blk b9 [.int .i64 (s : Int)] 3]) [] (fun ⟨p, s⟩ => [(11, .int .i64 (p : Int))]) [(6, _), (7, _), (9, _)] (by repeat constructor) [.row _ _ A n cap _, .blk b9 _ _] (fun _ h => h) ?_ ?_
 ·refine c_seq ?_
  refine c_reg ?_
  refine sq (rd_move rfl) rfl ?_
  refine sq (rd_geq rfl rfl) rfl ?_
  refine s_end ?_
  refine f_then ?_
  refine c_if rfl (fun h32 => ?_) (fun h32 => ?_)
  ·refine c_meet2 (α := Nat × Nat × Nat × Nat) (fun ⟨i, j, k, s⟩ => a ≤ i ∧ i < b ∧ a ≤ j ∧ j < b ∧ a ≤ k ∧ k < b ∧ s ≤ 9) (fun ⟨i, j, k, s⟩ => [.row 3 1 A n cap (ints d.toList), .blk b9 [.int .i64 (s : Int)] 3]) [] (fun ⟨i, j, k, s⟩ => [(10, .int .i64 (i : Int)), (11, .int .i64 (j : Int)), (12, .int .i64 (k : Int))]) [(0, _), (6, _), (7, _), (9, _)] (by repeat constructor) [.row _ _ A n cap _, .blk b9 _ _] (fun _ h => h) ?_ ?_
   ·refine c_seq ?_
    refine c_reg ?_
    refine sq (rd_move rfl) rfl ?_
    refine sq (rd_geq rfl rfl) rfl ?_
    refine s_end ?_
    refine f_then ?_
    refine c_if rfl (fun h34 => ?_) (fun h34 => ?_)
    ·refine c_seq ?_
     refine c_reg ?_
     refine sq (rd_move rfl) rfl ?_
     refine sq (rd_move rfl) rfl ?_
     refine sx (ef_call rfl rfl K177 (fun _ e => by cases e; rfl) [.row _ _ A n cap _, .blk b9 _ _] _ (.refl _) _ _ _ (fun w hS => by exact c177 w A cap n d hd hn  b9 0 (by omega) (by omega) (a + (b - a) / 4 * 1) (by omega) (by omega) hS.own)) rfl ?_
     rintro ⟨p1, s1⟩ ⟨hp1, hs1⟩
     dsimp only at hp1 hs1
     refine sq (rd_assign rfl) rfl ?_
     refine s_end ?_
     refine f_then ?_
     refine c_seq ?_
     refine c_reg ?_
     refine sq (rd_move rfl) rfl ?_
     refine sq (rd_move rfl) rfl ?_
     refine sx (ef_call rfl rfl K177 (fun _ e => by cases e; rfl) [.row _ _ A n cap _, .blk b9 _ _] _ (.refl _) _ _ _ (fun w hS => by exact c177 w A cap n d hd hn  b9 s1 (by omega) (by omega) (a + (b - a) / 4 * 2) (by omega) (by omega) hS.own)) rfl ?_
     rintro ⟨p2, s2⟩ ⟨hp2, hs2⟩
     dsimp only at hp2 hs2
     refine sq (rd_assign rfl) rfl ?_
     refine s_end ?_
     refine f_then ?_
     refine c_reg ?_
     refine sq (rd_move rfl) rfl ?_
     refine sq (rd_move rfl) rfl ?_
     refine sx (ef_call rfl rfl K177 (fun _ e => by cases e; rfl) [.row _ _ A n cap _, .blk b9 _ _] _ (.refl _) _ _ _ (fun w hS => by exact c177 w A cap n d hd hn  b9 s2 (by omega) (by omega) (a + (b - a) / 4 * 3) (by omega) (by omega) hS.own)) rfl ?_
     rintro ⟨p3, s3⟩ ⟨hp3, hs3⟩
     dsimp only at hp3 hs3
     refine sq (rd_assign rfl) rfl ?_
     refine s_end ?_
     refine f_cut ((p1, p2, p3, s3)) (⟨by omega, by omega, by omega, by omega, by omega, by omega, by omega⟩) (by repeat constructor) (fun _ h => h.sb)
    ·refine c_skip ?_
     refine f_cut (((a + (b - a) / 4 * 1), (a + (b - a) / 4 * 2), (a + (b - a) / 4 * 3), 0)) (⟨by omega, by omega, by omega, by omega, by omega, by omega, by omega⟩) (by repeat constructor) (fun _ h => h.sb)
   ·rintro ⟨i, j, k, s⟩ ⟨hi1, hi2, hj1, hj2, hk1, hk2, hs⟩
    refine c_reg ?_
    refine sq (rd_move rfl) rfl ?_
    refine sq (rd_move rfl) rfl ?_
    refine sq (rd_move rfl) rfl ?_
    refine sq (rd_move rfl) rfl ?_
    refine sx (ef_call rfl rfl K178 (fun _ e => by cases e; rfl) [.row _ _ A n cap _, .blk b9 _ _] _ (.refl _) _ _ _ (fun w hS => by exact c178 w A cap n d hd hn  b9 s (by omega) (by omega) i j k (by omega) (by omega) (by omega) hS.own)) rfl ?_
    rintro ⟨p4, s4⟩ ⟨hp4, hs4⟩
    dsimp only at hp4 hs4
    refine sq (rd_assign rfl) rfl ?_
    refine s_end ?_
    refine f_cut ((p4, s4)) (⟨by omega, by omega, by omega⟩) (by repeat constructor) (fun _ h => h.sb)
  ·refine c_skip ?_
   refine f_cut (((a + (b - a) / 4 * 2), 0)) (⟨by omega, by omega, by omega⟩) (by repeat constructor) (fun _ h => h.sb)
 ·rintro ⟨p, s⟩ ⟨hpa, hpb, hs⟩
  refine c_seq ?_
  refine c_reg ?_
  refine sq (rd_ldb C3 rfl (by repeat constructor) rfl) rfl ?_
  refine s_end ?_
  refine f_then ?_
  refine c_block ?_
  refine c_seq ?_
  refine c_reg ?_
  refine sq (rd_eql rfl rfl) rfl ?_
  refine sq (rd_assign rfl) rfl ?_
  refine s_end ?_
  refine f_then ?_
  refine c_if rfl (fun h51 => ?_) (fun h51 => ?_)
  ·refine c_seq ?_
   refine c_reg ?_
   refine sq (rd_move rfl) rfl ?_
   refine sq (rd_assign rfl) rfl ?_
   refine sq (rd_assign rfl) rfl ?_
   refine s_end ?_
   refine f_then ?_
   refine c_ret ?_
   refine f_blk_r ?_
   refine f_ret rfl (.tmp rfl (.tmp rfl .nil)) ?_
   exact fun w' hS => ⟨_, rfl, (p, 1), rfl, ⟨hpa, hpb⟩, St.sub (E' := [_]) hS (by repeat (first | exact .refl _ | apply List.Sublist.cons_cons | apply List.Sublist.cons))⟩
  ·refine c_seq ?_
   refine c_reg ?_
   refine sq (rd_eql rfl rfl) rfl ?_
   refine sq (rd_assign rfl) rfl ?_
   refine s_end ?_
   refine f_then ?_
   refine c_if rfl (fun h54 => ?_) (fun h54 => ?_)
   ·refine c_seq ?_
    refine c_reg ?_
    refine sq (rd_move rfl) rfl ?_
    refine sq (rd_assign rfl) rfl ?_
    refine sq (rd_assign rfl) rfl ?_
    refine s_end ?_
    refine f_then ?_
    refine c_ret ?_
    refine f_blk_r ?_
    refine f_ret rfl (.tmp rfl (.tmp rfl .nil)) ?_
    exact fun w' hS => ⟨_, rfl, (p, 2), rfl, ⟨hpa, hpb⟩, St.sub (E' := [_]) hS (by repeat (first | exact .refl _ | apply List.Sublist.cons_cons | apply List.Sublist.cons))⟩
   ·refine c_seq ?_
    refine c_reg ?_
    refine sq (rd_move rfl) rfl ?_
    refine sq (rd_assign rfl) rfl ?_
    refine sq (rd_assign rfl) rfl ?_
    refine s_end ?_
    refine f_then ?_
    refine c_ret ?_
    refine f_blk_r ?_
    refine f_ret rfl (.tmp rfl (.tmp rfl .nil)) ?_
    exact fun w' hS => ⟨_, rfl, (p, 0), rfl, ⟨hpa, hpb⟩, St.sub (E' := [_]) hS (by repeat (first | exact .refl _ | apply List.Sublist.cons_cons | apply List.Sublist.cons))⟩

end Go.Proofs.YtfccnoccfhgcbaaGreatDoor
namespace Go.Proofs.YtfccnoccfhgcbaaGreatDoor
open Go Go.RowKit
theorem K124 : callTy Tryz.prog 124 := by unfold callTy; kernel_rfl
theorem K126 : callTy Tryz.prog 126 := by unfold callTy; kernel_rfl
theorem K127 : callTy Tryz.prog 127 := by unfold callTy; kernel_rfl
theorem K128 : callTy Tryz.prog 128 := by unfold callTy; kernel_rfl
theorem K129 : callTy Tryz.prog 129 := by unfold callTy; kernel_rfl
theorem K130 : callTy Tryz.prog 130 := by unfold callTy; kernel_rfl
theorem K131 : callTy Tryz.prog 131 := by unfold callTy; kernel_rfl
theorem K132 : callTy Tryz.prog 132 := by unfold callTy; kernel_rfl
theorem K77 : callTy Tryz.prog 77 := by unfold callTy; kernel_rfl
theorem K161 : callTy Tryz.prog 161 := by unfold callTy; kernel_rfl
theorem K162 : callTy Tryz.prog 162 := by unfold callTy; kernel_rfl
theorem K163 : callTy Tryz.prog 163 := by unfold callTy; kernel_rfl
theorem K164 : callTy Tryz.prog 164 := by unfold callTy; kernel_rfl
theorem K165 : callTy Tryz.prog 165 := by unfold callTy; kernel_rfl
theorem K166 : callTy Tryz.prog 166 := by unfold callTy; kernel_rfl
theorem K168 : callTy Tryz.prog 168 := by unfold callTy; kernel_rfl
theorem K169 : callTy Tryz.prog 169 := by unfold callTy; kernel_rfl
theorem K136 : callTy Tryz.prog 136 := by unfold callTy; kernel_rfl
theorem c77 : ∀ (m : Nat) (w : World) (A : Option Addr) (cap n : Nat) (d : Array SN) (g : Nat) (cmp : SN → SN → Int) (hg : callTy Tryz.prog g) (hcmp : ∀ x y, Pu Tryz.prog g [.agg (SN.enc x).toArray, .agg (SN.enc y).toArray] (.int .i64 (cmp x y))) (hd : d.size = n) (hn : n ≤ 1000000) (hO : Sort.SWO (ltOf cmp)) (a b : Nat) (hB : Sort.Below (ltOf cmp) a b d) (hab : a ≤ b) (hb : b ≤ n) (l0 : Int) (hl0 : 0 ≤ l0) (hl1 : l0 ≤ 100) (hm : b - a < m) (hS : St w (fpOf [.row 64 4 A n cap (flat SN.enc d.toList)]) [.row 64 4 A n cap (flat SN.enc d.toList)] w), Calls Tryz.prog 77 [.slice A n cap, .int .i64 (a : Int), .int .i64 (b : Int), .int .i64 l0, .func (.func g) #[] #[]].toArray w (RtE fun v w' => ∃ x : Array SN, v = (fun _ => .tuple #[]) x ∧ (fun x => x.size = n ∧ Sort.PermIn a b d x ∧ Sort.SortedIn (ltOf cmp) a b x) x ∧ St w (fpOf [.row 64 4 A n cap (flat SN.enc d.toList)]) ((fun x => [.row 64 4 A n cap (flat SN.enc x.toList)]) x) w') := by
 intro m
 induction m with
 | zero =>
  intro w A cap n d g cmp hg hcmp hd hn hO a b hB hab hb l0 hl0 hl1 hm hS
  exact absurd hm (Nat.not_lt_zero _)
 | succ m ih =>
  intro w A cap n d g cmp hg hcmp hd hn hO a b hB hab hb l0 hl0 hl1 hm hS
  refine enter Tryz.func77 rfl Tryz.ntmps77 rfl hS ?_
  refine c_seq ?_
  have hA0 : 0 < n → plainA A := fun h => ((row_know (List.mem_cons_self ..) w hS).2.2.2 h).1
  refine c_reg ?_
  refine sq (rd_assign rfl) rfl ?_
  refine s_end ?_
  refine f_then ?_
  refine c_seq ?_
  refine c_reg ?_
  refine sq (rd_assign rfl) rfl ?_
  refine s_end ?_
  refine f_then ?_
  refine c_block ?_
  refine c_keep (L' := [(0, _), (1, _), (2, _), (3, _), (4, _), (10, _), (11, _)]) (by repeat constructor) ?_
  refine c_for (α := Nat × Nat × Int × Bool × Bool × Array SN) (fun ⟨a2, b2, lim, wb, wp, dk⟩ => 0 ≤ lim ∧ lim ≤ 100 ∧ Mid (ltOf cmp) n a b d a2 b2 dk) (fun ⟨a2, b2, lim, wb, wp, dk⟩ => [.row 64 4 A n cap (flat SN.enc dk.toList)]) [] (fun ⟨a2, b2, lim, wb, wp, dk⟩ => [(1, .int .i64 (a2 : Int)), (2, .int .i64 (b2 : Int)), (3, .int .i64 lim), (10, .bool wb), (11, .bool wp)]) [(0, _), (4, _)] (fun ⟨a2, b2, lim, wb, wp, dk⟩ => b2 - a2) ((a, b, l0, true, true, d)) (⟨hl0, hl1, Mid.start hd hab hb hB⟩) (by repeat constructor) (fun _ h => h) ?_
  rintro ⟨a2, b2, lim, wb, wp, dk⟩ ⟨hm1, hm2, hM⟩
  have hMa := hM.ha
  have hMb := hM.hb
  have hMab := hM.hab
  have hdk := hM.size
  refine c_block ?_
  refine c_seq ?_
  refine c_reg ?_
  refine sq (rd_move rfl) rfl ?_
  refine sq (rd_move rfl) rfl ?_
  refine sq (rd_subn (b2) (a2) rfl rfl rfl rfl (by omega) (by omega)) rfl ?_
  refine sq (rd_assign rfl) rfl ?_
  refine s_end ?_
  refine f_then ?_
  refine c_seq ?_
  refine c_seq ?_
  refine c_reg ?_
  refine sq (rd_move rfl) rfl ?_
  refine sq (rd_leq rfl rfl) rfl ?_
  refine s_end ?_
  refine f_then ?_
  refine c_if rfl (fun h25 => ?_) (fun h25 => ?_)
  ·refine c_seq ?_
   refine c_reg ?_
   refine sq (rd_move rfl) rfl ?_
   refine sq (rd_move rfl) rfl ?_
   refine sq (rd_move rfl) rfl ?_
   refine sq (rd_move rfl) rfl ?_
   refine sx (ef_call rfl rfl K124 (fun _ e => by cases e; rfl) [.row _ _ A n cap _] _ (.refl _) _ _ _ (fun w hS => by exact c124 w A cap n dk g cmp hg hcmp hdk hn  a2 b2 (by omega) (by omega) hS.own)) rfl ?_
   rintro _ _
   refine s_end ?_
   refine f_then ?_
   refine c_ret ?_
   refine f_then_r ?_
   refine f_blk_r ?_
   refine f_then_r ?_
   refine f_blk_r ?_
   refine f_ret rfl .nil ?_
   have hf := hM.done (Sort.insertionSort_holds hO dk a2 b2 (by omega) (by omega)).1 (Sort.insertionSort_holds hO dk a2 b2 (by omega) (by omega)).2
   exact fun w' hS => ⟨_, rfl, (Sort.insertionSort (ltOf cmp) dk a2 b2), rfl, hf, hS⟩
  ·refine c_skip ?_
   refine f_then ?_
   refine c_seq ?_
   refine c_seq ?_
   refine c_reg ?_
   refine sq (rd_move rfl) rfl ?_
   refine sq (rd_eql rfl rfl) rfl ?_
   refine s_end ?_
   refine f_then ?_
   refine c_if rfl (fun h32 => ?_) (fun h32 => ?_)
   ·refine c_seq ?_
    refine c_reg ?_
    refine sq (rd_move rfl) rfl ?_
    refine sq (rd_move rfl) rfl ?_
    refine sq (rd_move rfl) rfl ?_
    refine sq (rd_move rfl) rfl ?_
    refine sx (ef_call rfl rfl K126 (fun _ e => by cases e; rfl) [.row _ _ A n cap _] _ (.refl _) _ _ _ (fun w hS => by exact c126 w A cap n dk g cmp hg hcmp hdk hn  a2 b2 (by omega) (by omega) hS.own)) rfl ?_
    rintro _ _
    refine s_end ?_
    refine f_then ?_
    refine c_ret ?_
    refine f_then_r ?_
    refine f_blk_r ?_
    refine f_then_r ?_
    refine f_blk_r ?_
    refine f_ret rfl .nil ?_
    have hf := hM.done (Sort.heapSort_holds hO dk a2 b2 (by omega) (by omega)).1 (Sort.heapSort_holds hO dk a2 b2 (by omega) (by omega)).2
    exact fun w' hS => ⟨_, rfl, (Sort.heapSort (ltOf cmp) dk a2 b2), rfl, hf, hS⟩
   ·refine c_skip ?_
    refine f_then ?_
    refine c_meet2 (α := Int × Array SN) (fun ⟨l1, d1⟩ => 0 ≤ l1 ∧ l1 ≤ 100 ∧ Mid (ltOf cmp) n a b d a2 b2 d1) (fun ⟨l1, d1⟩ => [.row 64 4 A n cap (flat SN.enc d1.toList)]) [] (fun ⟨l1, d1⟩ => [(3, .int .i64 l1)]) [(1, _), (2, _), (10, _), (11, _), (0, _), (4, _), (21, _), (22, _), (23, _), (12, _), (24, _), (25, _), (31, _), (32, _)] (by repeat constructor) [.row _ _ A n cap _] (fun _ h => h) ?_ ?_
    ·refine c_seq ?_
     refine c_reg ?_
     refine sq (rd_move rfl) rfl ?_
     refine sq ((by first | exact rd_notd rfl | exact rd_not rfl)) rfl ?_
     refine s_end ?_
     refine f_then ?_
     refine c_cond rfl (fun h39 => ?_) (fun h39 => ?_)
     ·refine c_seq ?_
      refine c_reg ?_
      refine sq (rd_move rfl) rfl ?_
      refine sq (rd_move rfl) rfl ?_
      refine sq (rd_move rfl) rfl ?_
      refine sq (rd_move rfl) rfl ?_
      refine sx (ef_call rfl rfl K127 (fun _ e => by cases e; rfl) [.row _ _ A n cap _] _ (.refl _) _ _ _ (fun w hS => by exact c127 w A cap n dk g cmp hg hcmp hdk hn  a2 b2 (by omega) (by omega) hS.own)) rfl ?_
      rintro d1 ⟨hb1, hb2⟩
      refine s_end ?_
      refine f_then ?_
      refine c_reg ?_
      refine sq (rd_move rfl) rfl ?_
      refine sq (rd_sub rfl rfl (wrap_i64 (by omega))) rfl ?_
      refine sq (rd_assign rfl) rfl ?_
      refine s_end ?_
      refine f_cut ((lim - 1, d1)) (⟨by omega, by omega, hM.turn hb2⟩) (by repeat constructor) (fun _ h => h.sb)
     ·refine c_skip ?_
      refine f_cut ((lim, dk)) (⟨by omega, by omega, hM⟩) (by repeat constructor) (fun _ h => h.sb)
    ·rintro ⟨l1, d1⟩ ⟨hm3, hm4, hM1⟩
     have hd1 := hM1.size
     refine c_seq ?_
     refine c_reg ?_
     refine sq (rd_move rfl) rfl ?_
     refine sq (rd_move rfl) rfl ?_
     refine sq (rd_move rfl) rfl ?_
     refine sq (rd_move rfl) rfl ?_
     refine sx (ef_call rfl rfl K128 (fun _ e => by cases e; rfl) [.row _ _ A n cap _] _ (.refl _) _ _ _ (fun w hS => by exact c128 w A cap n d1 g cmp hg hcmp hd1 hn  a2 b2 (by omega) (by omega) hS.own)) rfl ?_
     rintro ⟨p1, h1⟩ ⟨hp1, hp2⟩
     dsimp only at hp1 hp2
     refine sq (rd_move rfl) rfl ?_
     refine sq (rd_extract rfl rfl) rfl ?_
     refine sq (rd_extract rfl rfl) rfl ?_
     refine sq (rd_assign rfl) rfl ?_
     refine sq (rd_assign rfl) rfl ?_
     refine s_end ?_
     refine f_then ?_
     refine c_meet2 (α := Nat × Int × Array SN) (fun ⟨p, hh, d2⟩ => a2 ≤ p ∧ p < b2 ∧ Mid (ltOf cmp) n a b d a2 b2 d2) (fun ⟨p, hh, d2⟩ => [.row 64 4 A n cap (flat SN.enc d2.toList)]) [] (fun ⟨p, hh, d2⟩ => [(13, .int .i64 (p : Int)), (14, .int .i64 hh)]) [(3, _), (1, _), (2, _), (10, _), (11, _), (0, _), (4, _), (21, _), (22, _), (23, _), (12, _), (24, _), (25, _), (31, _), (32, _), (48, _), (49, _), (50, _), (51, _), (52, _), (47, _), (53, _), (54, _)] (by repeat constructor) [.row _ _ A n cap _] (fun _ h => h) ?_ ?_
     ·refine c_seq ?_
      refine c_reg ?_
      refine sq (rd_move rfl) rfl ?_
      refine sq (rd_eql rfl rfl) rfl ?_
      refine s_end ?_
      refine f_then ?_
      refine c_if rfl (fun h56 => ?_) (fun h56 => ?_)
      ·refine c_seq ?_
       refine c_reg ?_
       refine sq (rd_move rfl) rfl ?_
       refine sq (rd_move rfl) rfl ?_
       refine sq (rd_move rfl) rfl ?_
       refine sq (rd_move rfl) rfl ?_
       refine sx (ef_call rfl rfl K129 (fun _ e => by cases e; rfl) [.row _ _ A n cap _] _ (.refl _) _ _ _ (fun w hS => by exact c129 w A cap n d1 g cmp hg hcmp hd1 hn  a2 b2 (by omega) (by omega) hS.own)) rfl ?_
       rintro _ _
       refine s_end ?_
       refine f_then ?_
       refine c_seq ?_
       refine c_reg ?_
       refine sq (rd_move rfl) rfl ?_
       refine sq (rd_subn (b2) (1) rfl rfl rfl rfl (by omega) (by omega)) rfl ?_
       refine sq (rd_move rfl) rfl ?_
       refine sq (rd_move rfl) rfl ?_
       refine sq (rd_subn (p1) (a2) rfl rfl rfl rfl (by omega) (by omega)) rfl ?_
       refine sq (rd_subn ((b2 - 1)) ((p1 - a2)) rfl rfl rfl rfl (by omega) (by omega)) rfl ?_
       refine sq (rd_assign rfl) rfl ?_
       refine s_end ?_
       refine f_then ?_
       refine c_reg ?_
       refine sq (rd_assign rfl) rfl ?_
       refine s_end ?_
       refine f_cut (((b2 - 1) - (p1 - a2), 1, Sort.reverseRange d1 a2 b2)) (⟨by omega, by omega, hM1.turn (Sort.reverseRange_holds _ _ _ hM1.hab (by omega))⟩) (by repeat constructor) (fun _ h => h.sb)
      ·refine c_skip ?_
       refine f_cut ((p1, h1, d1)) (⟨by omega, by omega, hM1⟩) (by repeat constructor) (fun _ h => h.sb)
     ·rintro ⟨p, hh, d2⟩ ⟨hp3, hp4, hM2⟩
      have hd2 := hM2.size
      refine c_meet2 (α := Array SN) (fun d3 => Mid (ltOf cmp) n a b d a2 b2 d3) (fun d3 => [.row 64 4 A n cap (flat SN.enc d3.toList)]) [] (fun d3 => []) [(13, _), (14, _), (3, _), (1, _), (2, _), (10, _), (11, _), (0, _), (4, _), (21, _), (22, _), (23, _), (12, _), (24, _), (25, _), (31, _), (32, _), (48, _), (49, _), (50, _), (51, _), (52, _), (47, _), (53, _), (54, _)] (by repeat constructor) [.row _ _ A n cap _] (fun _ h => h) ?_ ?_
      ·refine c_seq ?_
       refine c_reg ?_
       refine sq (rd_move rfl) rfl ?_
       refine sq (rd_move rfl) rfl ?_
       refine s_split (d := 69) rfl (fun g69 => ?_) (fun g69 => ?_)
       ·try have g69p := of_decide_eq_true g69
        refine sg1 (fun a hA => wanted_yes hA rfl rfl rfl g69) (rd_move rfl) rfl ?_
        refine sq (rd_pick_tt rfl g69 rfl) rfl ?_
        refine sq (rd_move rfl) rfl ?_
        refine s_split (d := 72) rfl (fun g72 => ?_) (fun g72 => ?_)
        ·try have g72p := of_decide_eq_true g72
         refine sg1 (fun a hA => wanted_yes hA rfl rfl rfl g72) (rd_move rfl) rfl ?_
         refine sg1 (fun a hA => wanted_yes hA rfl rfl rfl g72) (rd_eql rfl rfl) rfl ?_
         refine sq (rd_pick_tt rfl g72 rfl) rfl ?_
         refine s_end ?_
         refine f_then ?_
         refine c_cond rfl (fun h75 => ?_) (fun h75 => ?_)
         ·refine c_seq ?_
          refine c_reg ?_
          refine sq (rd_move rfl) rfl ?_
          refine sq (rd_move rfl) rfl ?_
          refine sq (rd_move rfl) rfl ?_
          refine sq (rd_move rfl) rfl ?_
          refine sx (ef_call rfl rfl K130 (fun _ e => by cases e; rfl) [.row _ _ A n cap _] _ (.refl _) _ _ _ (fun w hS => by exact c130 w A cap n d2 g cmp hg hcmp hd2 hn  a2 b2 (by omega) (by omega) hS.own)) rfl ?_
          rintro dp hpe
          have hpi := Sort.partialInsertionSort_holds hO d2 a2 b2 (by omega) (by omega) hM2.below
          rw [hpe] at hpi
          have hpp := hpi.1
          refine s_end ?_
          refine f_then ?_
          refine c_cond rfl (fun h80 => ?_) (fun h80 => ?_)
          ·refine c_ret ?_
           refine f_then_r ?_
           refine f_blk_r ?_
           refine f_then_r ?_
           refine f_blk_r ?_
           refine f_ret rfl .nil ?_
           have hf := hM2.done hpp (hpi.2 h80)
           exact fun w' hS => ⟨_, rfl, dp.1, rfl, hf, hS⟩
          ·refine c_skip ?_
           refine f_cut (dp.1) (hM2.turn hpp) (by repeat constructor) (fun _ h => h.sb)
         ·refine c_skip ?_
          refine f_cut (d2) (hM2) (by repeat constructor) (fun _ h => h.sb)
        ·try have g72p := of_decide_eq_false g72
         refine sg0 (fun a hA => wanted_no hA rfl rfl rfl g72 rfl) rfl ?_
         refine sg0 (fun a hA => wanted_no hA rfl rfl rfl g72 rfl) rfl ?_
         refine sq (rd_pick_ff rfl g72 rfl) rfl ?_
         refine s_end ?_
         refine f_then ?_
         refine c_lit_f rfl ?_
         refine c_skip ?_
         refine f_cut (d2) (hM2) (by repeat constructor) (fun _ h => h.sb)
       ·try have g69p := of_decide_eq_false g69
        refine sg0 (fun a hA => wanted_no hA rfl rfl rfl g69 rfl) rfl ?_
        refine sq (rd_pick_ff rfl g69 rfl) rfl ?_
        refine sq (rd_move rfl) rfl ?_
        refine sg0 (fun a hA => wanted_no hA rfl rfl rfl (Eq.refl _) rfl) rfl ?_
        refine sg0 (fun a hA => wanted_no hA rfl rfl rfl (Eq.refl _) rfl) rfl ?_
        refine sq (rd_pick_f rfl rfl) rfl ?_
        refine s_end ?_
        refine f_then ?_
        refine c_lit_f rfl ?_
        refine c_skip ?_
        refine f_cut (d2) (hM2) (by repeat constructor) (fun _ h => h.sb)
      ·rintro d3 hM3
       have hd3 := hM3.size
       refine c_meet2 (α := Unit) (fun x => True) (fun x => []) [.row _ _ A n cap _] (fun x => []) [(13, _), (14, _), (3, _), (1, _), (2, _), (10, _), (11, _), (0, _), (4, _), (21, _), (22, _), (23, _), (12, _), (24, _), (25, _), (31, _), (32, _), (48, _), (49, _), (50, _), (51, _), (52, _), (47, _), (53, _), (54, _)] (by repeat constructor) [] (fun _ h => h) ?_ ?_
       ·refine c_seq ?_
        refine c_regd [.row _ _ A n cap _] (.q 0 (.q 1 (.q 2 (.q 3 (.q 4 (.q 5 (.q 6 (.q 7 (.q 8 (.q 9 (.q 10 (.q 11 (.q 12 (.alt 13 (.q 14 (.q 15 (.q 16 .done))) .stop)))))))))))))) (by kernel_rfl) (by kernel_rfl) (by kernel_rfl) (by kernel_rfl) (fun _ h => h.sb) ?_
        refine dq rfl (rd_move rfl) rfl ?_
        refine dq rfl (rd_gtr rfl rfl) rfl ?_
        refine dq rfl (rd_move rfl) rfl ?_
        refine d_split (d := 83) rfl (fun g83 => ?_) (fun g83 => ?_)
        ·try have g83p := of_decide_eq_true g83
         refine dq1 rfl (fun a hA => wanted_yes hA rfl rfl rfl g83) (rd_move rfl) rfl ?_
         refine dq1 rfl (fun a hA => wanted_yes hA rfl rfl rfl g83) (rd_move rfl) rfl ?_
         refine dq1 rfl (fun a hA => wanted_yes hA rfl rfl rfl g83) (rd_move rfl) rfl ?_
         refine dq1 rfl (fun a hA => wanted_yes hA rfl rfl rfl g83) (rd_subn (a2) (1) rfl rfl rfl rfl (by omega) (by omega)) rfl ?_
         refine dq1 rfl (fun a hA => wanted_yes hA rfl rfl rfl g83) (rd_index S62 rfl rfl hA0 (by omega) (by omega)) rfl ?_
         refine dq1 rfl (fun a hA => wanted_yes hA rfl rfl rfl g83) (rd_ldsr A64 (by first | exact .head _) rfl (arr_part (f := SN.enc) SN.enc_len (i := (a2 - 1)) (by first | omega | (simp only [swp_size, Array.size_setIfInBounds]; omega)))) rfl ?_
         refine dq1 rfl (fun a hA => wanted_yes hA rfl rfl rfl g83) (rd_move rfl) rfl ?_
         refine dq1 rfl (fun a hA => wanted_yes hA rfl rfl rfl g83) (rd_move rfl) rfl ?_
         refine dq1 rfl (fun a hA => wanted_yes hA rfl rfl rfl g83) (rd_index S62 rfl rfl hA0 (by omega) (by omega)) rfl ?_
         refine dq1 rfl (fun a hA => wanted_yes hA rfl rfl rfl g83) (rd_ldsr A64 (by first | exact .head _) rfl (arr_part (f := SN.enc) SN.enc_len (i := p) (by first | omega | (simp only [swp_size, Array.size_setIfInBounds]; omega)))) rfl ?_
         refine deg rfl (fun a hA => wanted_yes hA rfl rfl rfl g83) (ef_pure rfl rfl hg rfl (by exact hcmp _ _)) (fun _ h => h.sb) ?_ d_stop
         refine dq1 rfl (fun a hA => wanted_yes hA rfl rfl rfl g83) (rd_lss rfl rfl) rfl ?_
         refine dq1 rfl (fun a hA => wanted_yes hA rfl rfl rfl g83) ((by first | exact rd_notd rfl | exact rd_not rfl)) rfl ?_
         refine dq rfl (rd_pick_tt rfl g83 rfl) rfl ?_
         refine d_end ?_
         refine f_then ?_
         refine c_cond rfl (fun h97 => ?_) (fun h97 => ?_)
         ·refine c_seq ?_
          refine c_reg ?_
          refine sq (rd_move rfl) rfl ?_
          refine sq (rd_move rfl) rfl ?_
          refine sq (rd_move rfl) rfl ?_
          refine sq (rd_move rfl) rfl ?_
          refine sq (rd_move rfl) rfl ?_
          refine sx (ef_call rfl rfl K131 (fun _ e => by cases e; rfl) [.row _ _ A n cap _] _ (.refl _) _ _ _ (fun w hS => by exact c131 w A cap n d3 g cmp hg hcmp hd3 hn  a2 b2 p (by omega) (by omega) (by omega) hS.own)) rfl ?_
          rintro ⟨mid, d4⟩ hqe
          obtain ⟨hq1, hq2, hq3⟩ := hM3.eq hO (by omega) hp3 hp4 (by first | simpa using h97 | simpa [Sort.ltInt] using h97) hqe
          refine sq (rd_assign rfl) rfl ?_
          refine s_end ?_
          refine f_then ?_
          refine c_seq ?_
          refine c_reg ?_
          refine sq (rd_move rfl) rfl ?_
          refine sq (rd_assign rfl) rfl ?_
          refine s_end ?_
          refine f_then ?_
          refine c_exit ?_
          refine f_then_x ?_
          refine f_blk_x ?_
          refine f_again ((mid, b2, l1, wb, wp, d4)) (⟨by omega, by omega, hq3⟩) (by show b2 - mid < b2 - a2; omega) (by repeat constructor) (fun _ h => h.sb)
         ·refine c_skip ?_
          refine f_cut (()) (trivial) (by repeat constructor) (fun _ h => h.sb)
        ·try have g83p := of_decide_eq_false g83
         refine dq0 rfl (fun a hA => wanted_no hA rfl rfl rfl g83 rfl) rfl ?_
         refine dq0 rfl (fun a hA => wanted_no hA rfl rfl rfl g83 rfl) rfl ?_
         refine dq0 rfl (fun a hA => wanted_no hA rfl rfl rfl g83 rfl) rfl ?_
         refine dq0 rfl (fun a hA => wanted_no hA rfl rfl rfl g83 rfl) rfl ?_
         refine dq0 rfl (fun a hA => wanted_no hA rfl rfl rfl g83 rfl) rfl ?_
         refine dq0 rfl (fun a hA => wanted_no hA rfl rfl rfl g83 rfl) rfl ?_
         refine dq0 rfl (fun a hA => wanted_no hA rfl rfl rfl g83 rfl) rfl ?_
         refine dq0 rfl (fun a hA => wanted_no hA rfl rfl rfl g83 rfl) rfl ?_
         refine dq0 rfl (fun a hA => wanted_no hA rfl rfl rfl g83 rfl) rfl ?_
         refine dq0 rfl (fun a hA => wanted_no hA rfl rfl rfl g83 rfl) rfl ?_
         refine de0 rfl (fun a hA => wanted_no hA rfl rfl rfl g83 rfl) rfl (fun _ h => h.sb) ?_ d_stop
         refine dq0 rfl (fun a hA => wanted_no hA rfl rfl rfl g83 rfl) rfl ?_
         refine dq0 rfl (fun a hA => wanted_no hA rfl rfl rfl g83 rfl) rfl ?_
         refine dq rfl (rd_pick_ff rfl g83 rfl) rfl ?_
         refine d_end ?_
         refine f_then ?_
         refine c_lit_f rfl ?_
         refine c_skip ?_
         refine f_cut (()) (trivial) (by repeat constructor) (fun _ h => h.sb)
       ·rintro _ _
        refine c_seq ?_
        refine c_reg ?_
        refine sq (rd_move rfl) rfl ?_
        refine sq (rd_move rfl) rfl ?_
        refine sq (rd_move rfl) rfl ?_
        refine sq (rd_move rfl) rfl ?_
        refine sq (rd_move rfl) rfl ?_
        refine sx (ef_call rfl rfl K132 (fun _ e => by cases e; rfl) [.row _ _ A n cap _] _ (.refl _) _ _ _ (fun w hS => by exact c132 w A cap n d3 g cmp hg hcmp hd3 hn  a2 b2 p (by omega) (by omega) (by omega) hS.own)) rfl ?_
        rintro ⟨mid, ap, d4⟩ hqe
        obtain ⟨hr1, hr2, hr3, hr4, hr5, hr6, hr7⟩ := hM3.part hO hp3 hp4 hqe
        refine sq (rd_move rfl) rfl ?_
        refine sq (rd_extract rfl rfl) rfl ?_
        refine sq (rd_extract rfl rfl) rfl ?_
        refine sq (rd_assign rfl) rfl ?_
        refine sq (rd_assign rfl) rfl ?_
        refine s_end ?_
        refine f_then ?_
        refine c_seq ?_
        refine c_reg ?_
        refine sq (rd_move rfl) rfl ?_
        refine sq (rd_assign rfl) rfl ?_
        refine s_end ?_
        refine f_then ?_
        refine c_seq ?_
        refine c_reg ?_
        refine sq (rd_move rfl) rfl ?_
        refine sq (rd_move rfl) rfl ?_
        refine sq (rd_subn (mid) (a2) rfl rfl rfl rfl (by omega) (by omega)) rfl ?_
        refine sq (rd_move rfl) rfl ?_
        refine sq (rd_move rfl) rfl ?_
        refine sq (rd_subn (b2) (mid) rfl rfl rfl rfl (by omega) (by omega)) rfl ?_
        refine sq (rd_assign rfl) rfl ?_
        refine sq (rd_assign rfl) rfl ?_
        refine s_end ?_
        refine f_then ?_
        refine c_seq ?_
        refine c_reg ?_
        refine sq (rd_move rfl) rfl ?_
        refine sq (rd_quon ((b2 - a2)) (8) rfl rfl rfl rfl (by omega) (by omega)) rfl ?_
        refine sq (rd_assign rfl) rfl ?_
        refine s_end ?_
        refine f_then ?_
        refine c_seq ?_
        refine c_reg ?_
        refine sq (rd_move rfl) rfl ?_
        refine sq (rd_move rfl) rfl ?_
        refine sq (rd_lss rfl rfl) rfl ?_
        refine s_end ?_
        refine f_then ?_
        refine c_if rfl (fun h125 => ?_) (fun h125 => ?_)
        ·refine c_seq ?_
         refine c_reg ?_
         refine sq (rd_move rfl) rfl ?_
         refine sq (rd_move rfl) rfl ?_
         refine sq (rd_geq rfl rfl) rfl ?_
         refine sq (rd_assign rfl) rfl ?_
         refine s_end ?_
         refine f_then ?_
         refine c_seq ?_
         refine c_reg ?_
         refine sq (rd_move rfl) rfl ?_
         refine sq (rd_move rfl) rfl ?_
         refine sq (rd_move rfl) rfl ?_
         refine sq (rd_move rfl) rfl ?_
         refine sq (rd_move rfl) rfl ?_
         refine sx (ef_call rfl rfl K77 (fun _ e => by cases e; rfl) [.row _ _ A n cap _] _ (.refl _) _ _ _ (fun w hS => by exact ih w A cap n d4 g cmp hg hcmp hr3 hn  hO a2 mid hr4 (by omega) (by omega) l1 (by omega) (by omega) (by omega) hS.own)) rfl ?_
         rintro dl ⟨_, hl1p, hl1s⟩
         refine s_end ?_
         refine f_then ?_
         refine c_reg ?_
         refine sq (rd_move rfl) rfl ?_
         refine sq (rd_addn (mid) (1) rfl rfl rfl rfl (by omega)) rfl ?_
         refine sq (rd_assign rfl) rfl ?_
         refine s_end ?_
         refine f_blk ?_
         refine f_again ((mid + 1, b2, l1, _, ap, dl)) (⟨by omega, by omega, hr6 dl hl1p hl1s⟩) (by show b2 - (mid + 1) < b2 - a2; omega) (by repeat constructor) (fun _ h => h.sb)
        ·refine c_seq ?_
         refine c_reg ?_
         refine sq (rd_move rfl) rfl ?_
         refine sq (rd_move rfl) rfl ?_
         refine sq (rd_geq rfl rfl) rfl ?_
         refine sq (rd_assign rfl) rfl ?_
         refine s_end ?_
         refine f_then ?_
         refine c_seq ?_
         refine c_reg ?_
         refine sq (rd_move rfl) rfl ?_
         refine sq (rd_move rfl) rfl ?_
         refine sq (rd_addn (mid) (1) rfl rfl rfl rfl (by omega)) rfl ?_
         refine sq (rd_move rfl) rfl ?_
         refine sq (rd_move rfl) rfl ?_
         refine sq (rd_move rfl) rfl ?_
         refine sx (ef_call rfl rfl K77 (fun _ e => by cases e; rfl) [.row _ _ A n cap _] _ (.refl _) _ _ _ (fun w hS => by exact ih w A cap n d4 g cmp hg hcmp hr3 hn  hO (mid + 1) b2 hr5 (by omega) (by omega) l1 (by omega) (by omega) (by omega) hS.own)) rfl ?_
         rintro dl ⟨_, hl1p, hl1s⟩
         refine s_end ?_
         refine f_then ?_
         refine c_reg ?_
         refine sq (rd_move rfl) rfl ?_
         refine sq (rd_assign rfl) rfl ?_
         refine s_end ?_
         refine f_blk ?_
         refine f_again ((a2, mid, l1, _, ap, dl)) (⟨by omega, by omega, hr7 dl hl1p hl1s⟩) (by show mid - a2 < b2 - a2; omega) (by repeat constructor) (fun _ h => h.sb)
 

theorem c136 : ∀ (m : Nat) (w : World) (A : Option Addr) (cap n : Nat) (d : Array Int) (hd : d.size = n) (hn : n ≤ 1000000) (hO : Sort.SWO Sort.ltInt) (a b : Nat) (hB : Sort.Below Sort.ltInt a b d) (hab : a ≤ b) (hb : b ≤ n) (l0 : Int) (hl0 : 0 ≤ l0) (hl1 : l0 ≤ 100) (hm : b - a < m) (hS : St w (fpOf [.row 3 1 A n cap (ints d.toList)]) [.row 3 1 A n cap (ints d.toList)] w), Calls Tryz.prog 136 [.slice A n cap, .int .i64 (a : Int), .int .i64 (b : Int), .int .i64 l0].toArray w (RtE fun v w' => ∃ x : Array Int, v = (fun _ => .tuple #[]) x ∧ (fun x => x.size = n ∧ Sort.PermIn a b d x ∧ Sort.SortedIn Sort.ltInt a b x) x ∧ St w (fpOf [.row 3 1 A n cap (ints d.toList)]) ((fun x => [.row 3 1 A n cap (ints x.toList)]) x) w') := by
 intro m
 induction m with
 | zero =>
  intro w A cap n d hd hn hO a b hB hab hb l0 hl0 hl1 hm hS
  exact absurd hm (Nat.not_lt_zero _)
 | succ m ih =>
  intro w A cap n d hd hn hO a b hB hab hb l0 hl0 hl1 hm hS
  refine enter Tryz.func136 rfl Tryz.ntmps136 rfl hS ?_
  refine c_seq ?_
  have hA0 : 0 < n → plainA A := fun h => ((row_know (List.mem_cons_self ..) w hS).2.2.2 h).1
  refine c_reg ?_
  refine sq (rd_assign rfl) rfl ?_
  refine s_end ?_
  refine f_then ?_
  refine c_seq ?_
  refine c_reg ?_
  refine sq (rd_assign rfl) rfl ?_
  refine s_end ?_
  refine f_then ?_
  refine c_block ?_
  refine c_keep (L' := [(0, _), (1, _), (2, _), (3, _), (8, _), (9, _)]) (by repeat constructor) ?_
  refine c_for (α := Nat × Nat × Int × Bool × Bool × Array Int) (fun ⟨a2, b2, lim, wb, wp, dk⟩ => 0 ≤ lim ∧ lim ≤ 100 ∧ Mid Sort.ltInt n a b d a2 b2 dk) (fun ⟨a2, b2, lim, wb, wp, dk⟩ => [.row 3 1 A n cap (ints dk.toList)]) [] (fun ⟨a2, b2, lim, wb, wp, dk⟩ => [(1, .int .i64 (a2 : Int)), (2, .int .i64 (b2 : Int)), (3, .int .i64 lim), (8, .bool wb), (9, .bool wp)]) [(0, _)] (fun ⟨a2, b2, lim, wb, wp, dk⟩ => b2 - a2) ((a, b, l0, true, true, d)) (⟨hl0, hl1, Mid.start hd hab hb hB⟩) (by repeat constructor) (fun _ h => h) ?_
  rintro ⟨a2, b2, lim, wb, wp, dk⟩ ⟨hm1, hm2, hM⟩
  have hMa := hM.ha
  have hMb := hM.hb
  have hMab := hM.hab
  have hdk := hM.size
  refine c_block ?_
  refine c_seq ?_
  refine c_reg ?_
  refine sq (rd_move rfl) rfl ?_
  refine sq (rd_move rfl) rfl ?_
  refine sq (rd_subn (b2) (a2) rfl rfl rfl rfl (by omega) (by omega)) rfl ?_
  refine sq (rd_assign rfl) rfl ?_
  refine s_end ?_
  refine f_then ?_
  refine c_seq ?_
  refine c_seq ?_
  refine c_reg ?_
  refine sq (rd_move rfl) rfl ?_
  refine sq (rd_leq rfl rfl) rfl ?_
  refine s_end ?_
  refine f_then ?_
  refine c_if rfl (fun h23 => ?_) (fun h23 => ?_)
  ·refine c_seq ?_
   refine c_reg ?_
   refine sq (rd_move rfl) rfl ?_
   refine sq (rd_move rfl) rfl ?_
   refine sq (rd_move rfl) rfl ?_
   refine sx (ef_call rfl rfl K161 (fun _ e => by cases e; rfl) [.row _ _ A n cap _] _ (.refl _) _ _ _ (fun w hS => by exact c161 w A cap n dk hdk hn  a2 b2 (by omega) (by omega) hS.own)) rfl ?_
   rintro _ _
   refine s_end ?_
   refine f_then ?_
   refine c_ret ?_
   refine f_then_r ?_
   refine f_blk_r ?_
   refine f_then_r ?_
   refine f_blk_r ?_
   refine f_ret rfl .nil ?_
   have hf := hM.done (Sort.insertionSort_holds hO dk a2 b2 (by omega) (by omega)).1 (Sort.insertionSort_holds hO dk a2 b2 (by omega) (by omega)).2
   exact fun w' hS => ⟨_, rfl, (Sort.insertionSort Sort.ltInt dk a2 b2), rfl, hf, hS⟩
  ·refine c_skip ?_
   refine f_then ?_
   refine c_seq ?_
   refine c_seq ?_
   refine c_reg ?_
   refine sq (rd_move rfl) rfl ?_
   refine sq (rd_eql rfl rfl) rfl ?_
   refine s_end ?_
   refine f_then ?_
   refine c_if rfl (fun h29 => ?_) (fun h29 => ?_)
   ·refine c_seq ?_
    refine c_reg ?_
    refine sq (rd_move rfl) rfl ?_
    refine sq (rd_move rfl) rfl ?_
    refine sq (rd_move rfl) rfl ?_
    refine sx (ef_call rfl rfl K162 (fun _ e => by cases e; rfl) [.row _ _ A n cap _] _ (.refl _) _ _ _ (fun w hS => by exact c162 w A cap n dk hdk hn  a2 b2 (by omega) (by omega) hS.own)) rfl ?_
    rintro _ _
    refine s_end ?_
    refine f_then ?_
    refine c_ret ?_
    refine f_then_r ?_
    refine f_blk_r ?_
    refine f_then_r ?_
    refine f_blk_r ?_
    refine f_ret rfl .nil ?_
    have hf := hM.done (Sort.heapSort_holds hO dk a2 b2 (by omega) (by omega)).1 (Sort.heapSort_holds hO dk a2 b2 (by omega) (by omega)).2
    exact fun w' hS => ⟨_, rfl, (Sort.heapSort Sort.ltInt dk a2 b2), rfl, hf, hS⟩
   ·refine c_skip ?_
    refine f_then ?_
    refine c_meet2 (α := Int × Array Int) (fun ⟨l1, d1⟩ => 0 ≤ l1 ∧ l1 ≤ 100 ∧ Mid Sort.ltInt n a b d a2 b2 d1) (fun ⟨l1, d1⟩ => [.row 3 1 A n cap (ints d1.toList)]) [] (fun ⟨l1, d1⟩ => [(3, .int .i64 l1)]) [(1, _), (2, _), (8, _), (9, _), (0, _), (19, _), (20, _), (21, _), (10, _), (22, _), (23, _), (28, _), (29, _)] (by repeat constructor) [.row _ _ A n cap _] (fun _ h => h) ?_ ?_
    ·refine c_seq ?_
     refine c_reg ?_
     refine sq (rd_move rfl) rfl ?_
     refine sq ((by first | exact rd_notd rfl | exact rd_not rfl)) rfl ?_
     refine s_end ?_
     refine f_then ?_
     refine c_cond rfl (fun h35 => ?_) (fun h35 => ?_)
     ·refine c_seq ?_
      refine c_reg ?_
      refine sq (rd_move rfl) rfl ?_
      refine sq (rd_move rfl) rfl ?_
      refine sq (rd_move rfl) rfl ?_
      refine sx (ef_call rfl rfl K163 (fun _ e => by cases e; rfl) [.row _ _ A n cap _] _ (.refl _) _ _ _ (fun w hS => by exact c163 w A cap n dk hdk hn  a2 b2 (by omega) (by omega) hS.own)) rfl ?_
      rintro d1 ⟨hb1, hb2⟩
      refine s_end ?_
      refine f_then ?_
      refine c_reg ?_
      refine sq (rd_move rfl) rfl ?_
      refine sq (rd_sub rfl rfl (wrap_i64 (by omega))) rfl ?_
      refine sq (rd_assign rfl) rfl ?_
      refine s_end ?_
      refine f_cut ((lim - 1, d1)) (⟨by omega, by omega, hM.turn hb2⟩) (by repeat constructor) (fun _ h => h.sb)
     ·refine c_skip ?_
      refine f_cut ((lim, dk)) (⟨by omega, by omega, hM⟩) (by repeat constructor) (fun _ h => h.sb)
    ·rintro ⟨l1, d1⟩ ⟨hm3, hm4, hM1⟩
     have hd1 := hM1.size
     refine c_seq ?_
     refine c_reg ?_
     refine sq (rd_move rfl) rfl ?_
     refine sq (rd_move rfl) rfl ?_
     refine sq (rd_move rfl) rfl ?_
     refine sx (ef_call rfl rfl K164 (fun _ e => by cases e; rfl) [.row _ _ A n cap _] _ (.refl _) _ _ _ (fun w hS => by exact c164 w A cap n d1 hd1 hn  a2 b2 (by omega) (by omega) hS.own)) rfl ?_
     rintro ⟨p1, h1⟩ ⟨hp1, hp2⟩
     dsimp only at hp1 hp2
     refine sq (rd_move rfl) rfl ?_
     refine sq (rd_extract rfl rfl) rfl ?_
     refine sq (rd_extract rfl rfl) rfl ?_
     refine sq (rd_assign rfl) rfl ?_
     refine sq (rd_assign rfl) rfl ?_
     refine s_end ?_
     refine f_then ?_
     refine c_meet2 (α := Nat × Int × Array Int) (fun ⟨p, hh, d2⟩ => a2 ≤ p ∧ p < b2 ∧ Mid Sort.ltInt n a b d a2 b2 d2) (fun ⟨p, hh, d2⟩ => [.row 3 1 A n cap (ints d2.toList)]) [] (fun ⟨p, hh, d2⟩ => [(11, .int .i64 (p : Int)), (12, .int .i64 hh)]) [(3, _), (1, _), (2, _), (8, _), (9, _), (0, _), (19, _), (20, _), (21, _), (10, _), (22, _), (23, _), (28, _), (29, _), (43, _), (44, _), (45, _), (46, _), (42, _), (47, _), (48, _)] (by repeat constructor) [.row _ _ A n cap _] (fun _ h => h) ?_ ?_
     ·refine c_seq ?_
      refine c_reg ?_
      refine sq (rd_move rfl) rfl ?_
      refine sq (rd_eql rfl rfl) rfl ?_
      refine s_end ?_
      refine f_then ?_
      refine c_if rfl (fun h50 => ?_) (fun h50 => ?_)
      ·refine c_seq ?_
       refine c_reg ?_
       refine sq (rd_move rfl) rfl ?_
       refine sq (rd_move rfl) rfl ?_
       refine sq (rd_move rfl) rfl ?_
       refine sx (ef_call rfl rfl K165 (fun _ e => by cases e; rfl) [.row _ _ A n cap _] _ (.refl _) _ _ _ (fun w hS => by exact c165 w A cap n d1 hd1 hn  a2 b2 (by omega) (by omega) hS.own)) rfl ?_
       rintro _ _
       refine s_end ?_
       refine f_then ?_
       refine c_seq ?_
       refine c_reg ?_
       refine sq (rd_move rfl) rfl ?_
       refine sq (rd_subn (b2) (1) rfl rfl rfl rfl (by omega) (by omega)) rfl ?_
       refine sq (rd_move rfl) rfl ?_
       refine sq (rd_move rfl) rfl ?_
       refine sq (rd_subn (p1) (a2) rfl rfl rfl rfl (by omega) (by omega)) rfl ?_
       refine sq (rd_subn ((b2 - 1)) ((p1 - a2)) rfl rfl rfl rfl (by omega) (by omega)) rfl ?_
       refine sq (rd_assign rfl) rfl ?_
       refine s_end ?_
       refine f_then ?_
       refine c_reg ?_
       refine sq (rd_assign rfl) rfl ?_
       refine s_end ?_
       refine f_cut (((b2 - 1) - (p1 - a2), 1, Sort.reverseRange d1 a2 b2)) (⟨by omega, by omega, hM1.turn (Sort.reverseRange_holds _ _ _ hM1.hab (by omega))⟩) (by repeat constructor) (fun _ h => h.sb)
      ·refine c_skip ?_
       refine f_cut ((p1, h1, d1)) (⟨by omega, by omega, hM1⟩) (by repeat constructor) (fun _ h => h.sb)
     ·rintro ⟨p, hh, d2⟩ ⟨hp3, hp4, hM2⟩
      have hd2 := hM2.size
      refine c_meet2 (α := Array Int) (fun d3 => Mid Sort.ltInt n a b d a2 b2 d3) (fun d3 => [.row 3 1 A n cap (ints d3.toList)]) [] (fun d3 => []) [(11, _), (12, _), (3, _), (1, _), (2, _), (8, _), (9, _), (0, _), (19, _), (20, _), (21, _), (10, _), (22, _), (23, _), (28, _), (29, _), (43, _), (44, _), (45, _), (46, _), (42, _), (47, _), (48, _)] (by repeat constructor) [.row _ _ A n cap _] (fun _ h => h) ?_ ?_
      ·refine c_seq ?_
       refine c_reg ?_
       refine sq (rd_move rfl) rfl ?_
       refine sq (rd_move rfl) rfl ?_
       refine s_split (d := 62) rfl (fun g62 => ?_) (fun g62 => ?_)
       ·try have g62p := of_decide_eq_true g62
        refine sg1 (fun a hA => wanted_yes hA rfl rfl rfl g62) (rd_move rfl) rfl ?_
        refine sq (rd_pick_tt rfl g62 rfl) rfl ?_
        refine sq (rd_move rfl) rfl ?_
        refine s_split (d := 65) rfl (fun g65 => ?_) (fun g65 => ?_)
        ·try have g65p := of_decide_eq_true g65
         refine sg1 (fun a hA => wanted_yes hA rfl rfl rfl g65) (rd_move rfl) rfl ?_
         refine sg1 (fun a hA => wanted_yes hA rfl rfl rfl g65) (rd_eql rfl rfl) rfl ?_
         refine sq (rd_pick_tt rfl g65 rfl) rfl ?_
         refine s_end ?_
         refine f_then ?_
         refine c_cond rfl (fun h68 => ?_) (fun h68 => ?_)
         ·refine c_seq ?_
          refine c_reg ?_
          refine sq (rd_move rfl) rfl ?_
          refine sq (rd_move rfl) rfl ?_
          refine sq (rd_move rfl) rfl ?_
          refine sx (ef_call rfl rfl K166 (fun _ e => by cases e; rfl) [.row _ _ A n cap _] _ (.refl _) _ _ _ (fun w hS => by exact c166 w A cap n d2 hd2 hn  a2 b2 (by omega) (by omega) hS.own)) rfl ?_
          rintro dp hpe
          have hpi := Sort.partialInsertionSort_holds hO d2 a2 b2 (by omega) (by omega) hM2.below
          rw [hpe] at hpi
          have hpp := hpi.1
          refine s_end ?_
          refine f_then ?_
          refine c_cond rfl (fun h72 => ?_) (fun h72 => ?_)
          ·refine c_ret ?_
           refine f_then_r ?_
           refine f_blk_r ?_
           refine f_then_r ?_
           refine f_blk_r ?_
           refine f_ret rfl .nil ?_
           have hf := hM2.done hpp (hpi.2 h72)
           exact fun w' hS => ⟨_, rfl, dp.1, rfl, hf, hS⟩
          ·refine c_skip ?_
           refine f_cut (dp.1) (hM2.turn hpp) (by repeat constructor) (fun _ h => h.sb)
         ·refine c_skip ?_
          refine f_cut (d2) (hM2) (by repeat constructor) (fun _ h => h.sb)
        ·try have g65p := of_decide_eq_false g65
         refine sg0 (fun a hA => wanted_no hA rfl rfl rfl g65 rfl) rfl ?_
         refine sg0 (fun a hA => wanted_no hA rfl rfl rfl g65 rfl) rfl ?_
         refine sq (rd_pick_ff rfl g65 rfl) rfl ?_
         refine s_end ?_
         refine f_then ?_
         refine c_lit_f rfl ?_
         refine c_skip ?_
         refine f_cut (d2) (hM2) (by repeat constructor) (fun _ h => h.sb)
       ·try have g62p := of_decide_eq_false g62
        refine sg0 (fun a hA => wanted_no hA rfl rfl rfl g62 rfl) rfl ?_
        refine sq (rd_pick_ff rfl g62 rfl) rfl ?_
        refine sq (rd_move rfl) rfl ?_
        refine sg0 (fun a hA => wanted_no hA rfl rfl rfl (Eq.refl _) rfl) rfl ?_
        refine sg0 (fun a hA => wanted_no hA rfl rfl rfl (Eq.refl _) rfl) rfl ?_
        refine sq (rd_pick_f rfl rfl) rfl ?_
        refine s_end ?_
        refine f_then ?_
        refine c_lit_f rfl ?_
        refine c_skip ?_
        refine f_cut (d2) (hM2) (by repeat constructor) (fun _ h => h.sb)
      ·rintro d3 hM3
       have hd3 := hM3.size
       refine c_meet2 (α := Unit) (fun x => True) (fun x => []) [.row _ _ A n cap _] (fun x => []) [(11, _), (12, _), (3, _), (1, _), (2, _), (8, _), (9, _), (0, _), (19, _), (20, _), (21, _), (10, _), (22, _), (23, _), (28, _), (29, _), (43, _), (44, _), (45, _), (46, _), (42, _), (47, _), (48, _)] (by repeat constructor) [] (fun _ h => h) ?_ ?_
       ·refine c_seq ?_
        refine c_regd [.row _ _ A n cap _] (.q 0 (.q 1 (.q 2 (.q 3 (.q 4 (.q 5 (.q 6 (.q 7 (.q 8 (.q 9 (.q 10 (.q 11 (.alt 12 (.q 13 (.q 14 .done)) .stop))))))))))))) (by kernel_rfl) (by kernel_rfl) (by kernel_rfl) (by kernel_rfl) (fun _ h => h.sb) ?_
        refine dq rfl (rd_move rfl) rfl ?_
        refine dq rfl (rd_gtr rfl rfl) rfl ?_
        refine dq rfl (rd_move rfl) rfl ?_
        refine d_split (d := 75) rfl (fun g75 => ?_) (fun g75 => ?_)
        ·try have g75p := of_decide_eq_true g75
         refine dq1 rfl (fun a hA => wanted_yes hA rfl rfl rfl g75) (rd_move rfl) rfl ?_
         refine dq1 rfl (fun a hA => wanted_yes hA rfl rfl rfl g75) (rd_move rfl) rfl ?_
         refine dq1 rfl (fun a hA => wanted_yes hA rfl rfl rfl g75) (rd_subn (a2) (1) rfl rfl rfl rfl (by omega) (by omega)) rfl ?_
         refine dq1 rfl (fun a hA => wanted_yes hA rfl rfl rfl g75) (rd_index S128 rfl rfl hA0 (by omega) (by omega)) rfl ?_
         refine dq1 rfl (fun a hA => wanted_yes hA rfl rfl rfl g75) (rd_ldr C3 (by first | exact .head _) rfl (arr_get1 (i := (a2 - 1)) (by first | omega | (simp only [swp_size, Array.size_setIfInBounds]; omega)))) rfl ?_
         refine dq1 rfl (fun a hA => wanted_yes hA rfl rfl rfl g75) (rd_move rfl) rfl ?_
         refine dq1 rfl (fun a hA => wanted_yes hA rfl rfl rfl g75) (rd_move rfl) rfl ?_
         refine dq1 rfl (fun a hA => wanted_yes hA rfl rfl rfl g75) (rd_index S128 rfl rfl hA0 (by omega) (by omega)) rfl ?_
         refine dq1 rfl (fun a hA => wanted_yes hA rfl rfl rfl g75) (rd_ldr C3 (by first | exact .head _) rfl (arr_get1 (i := p) (by first | omega | (simp only [swp_size, Array.size_setIfInBounds]; omega)))) rfl ?_
         refine deg rfl (fun a hA => wanted_yes hA rfl rfl rfl g75) (ef_pure rfl rfl K167 rfl (by exact c167 _ _)) (fun _ h => h.sb) ?_ d_stop
         refine dq1 rfl (fun a hA => wanted_yes hA rfl rfl rfl g75) ((by first | exact rd_notd rfl | exact rd_not rfl)) rfl ?_
         refine dq rfl (rd_pick_tt rfl g75 rfl) rfl ?_
         refine d_end ?_
         refine f_then ?_
         refine c_cond rfl (fun h87 => ?_) (fun h87 => ?_)
         ·refine c_seq ?_
          refine c_reg ?_
          refine sq (rd_move rfl) rfl ?_
          refine sq (rd_move rfl) rfl ?_
          refine sq (rd_move rfl) rfl ?_
          refine sq (rd_move rfl) rfl ?_
          refine sx (ef_call rfl rfl K168 (fun _ e => by cases e; rfl) [.row _ _ A n cap _] _ (.refl _) _ _ _ (fun w hS => by exact c168 w A cap n d3 hd3 hn  a2 b2 p (by omega) (by omega) (by omega) hS.own)) rfl ?_
          rintro ⟨mid, d4⟩ hqe
          obtain ⟨hq1, hq2, hq3⟩ := hM3.eq hO (by omega) hp3 hp4 (by first | simpa using h87 | simpa [Sort.ltInt] using h87) hqe
          refine sq (rd_assign rfl) rfl ?_
          refine s_end ?_
          refine f_then ?_
          refine c_seq ?_
          refine c_reg ?_
          refine sq (rd_move rfl) rfl ?_
          refine sq (rd_assign rfl) rfl ?_
          refine s_end ?_
          refine f_then ?_
          refine c_exit ?_
          refine f_then_x ?_
          refine f_blk_x ?_
          refine f_again ((mid, b2, l1, wb, wp, d4)) (⟨by omega, by omega, hq3⟩) (by show b2 - mid < b2 - a2; omega) (by repeat constructor) (fun _ h => h.sb)
         ·refine c_skip ?_
          refine f_cut (()) (trivial) (by repeat constructor) (fun _ h => h.sb)
        ·try have g75p := of_decide_eq_false g75
         refine dq0 rfl (fun a hA => wanted_no hA rfl rfl rfl g75 rfl) rfl ?_
         refine dq0 rfl (fun a hA => wanted_no hA rfl rfl rfl g75 rfl) rfl ?_
         refine dq0 rfl (fun a hA => wanted_no hA rfl rfl rfl g75 rfl) rfl ?_
         refine dq0 rfl (fun a hA => wanted_no hA rfl rfl rfl g75 rfl) rfl ?_
         refine dq0 rfl (fun a hA => wanted_no hA rfl rfl rfl g75 rfl) rfl ?_
         refine dq0 rfl (fun a hA => wanted_no hA rfl rfl rfl g75 rfl) rfl ?_
         refine dq0 rfl (fun a hA => wanted_no hA rfl rfl rfl g75 rfl) rfl ?_
         refine dq0 rfl (fun a hA => wanted_no hA rfl rfl rfl g75 rfl) rfl ?_
         refine dq0 rfl (fun a hA => wanted_no hA rfl rfl rfl g75 rfl) rfl ?_
         refine de0 rfl (fun a hA => wanted_no hA rfl rfl rfl g75 rfl) rfl (fun _ h => h.sb) ?_ d_stop
         refine dq0 rfl (fun a hA => wanted_no hA rfl rfl rfl g75 rfl) rfl ?_
         refine dq rfl (rd_pick_ff rfl g75 rfl) rfl ?_
         refine d_end ?_
         refine f_then ?_
         refine c_lit_f rfl ?_
         refine c_skip ?_
         refine f_cut (()) (trivial) (by repeat constructor) (fun _ h => h.sb)
       ·rintro _ _
        refine c_seq ?_
        refine c_reg ?_
        refine sq (rd_move rfl) rfl ?_
        refine sq (rd_move rfl) rfl ?_
        refine sq (rd_move rfl) rfl ?_
        refine sq (rd_move rfl) rfl ?_
        refine sx (ef_call rfl rfl K169 (fun _ e => by cases e; rfl) [.row _ _ A n cap _] _ (.refl _) _ _ _ (fun w hS => by exact c169 w A cap n d3 hd3 hn  a2 b2 p (by omega) (by omega) (by omega) hS.own)) rfl ?_
        rintro ⟨mid, ap, d4⟩ hqe
        obtain ⟨hr1, hr2, hr3, hr4, hr5, hr6, hr7⟩ := hM3.part hO hp3 hp4 hqe
        refine sq (rd_move rfl) rfl ?_
        refine sq (rd_extract rfl rfl) rfl ?_
        refine sq (rd_extract rfl rfl) rfl ?_
        refine sq (rd_assign rfl) rfl ?_
        refine sq (rd_assign rfl) rfl ?_
        refine s_end ?_
        refine f_then ?_
        refine c_seq ?_
        refine c_reg ?_
        refine sq (rd_move rfl) rfl ?_
        refine sq (rd_assign rfl) rfl ?_
        refine s_end ?_
        refine f_then ?_
        refine c_seq ?_
        refine c_reg ?_
        refine sq (rd_move rfl) rfl ?_
        refine sq (rd_move rfl) rfl ?_
        refine sq (rd_subn (mid) (a2) rfl rfl rfl rfl (by omega) (by omega)) rfl ?_
        refine sq (rd_move rfl) rfl ?_
        refine sq (rd_move rfl) rfl ?_
        refine sq (rd_subn (b2) (mid) rfl rfl rfl rfl (by omega) (by omega)) rfl ?_
        refine sq (rd_assign rfl) rfl ?_
        refine sq (rd_assign rfl) rfl ?_
        refine s_end ?_
        refine f_then ?_
        refine c_seq ?_
        refine c_reg ?_
        refine sq (rd_move rfl) rfl ?_
        refine sq (rd_quon ((b2 - a2)) (8) rfl rfl rfl rfl (by omega) (by omega)) rfl ?_
        refine sq (rd_assign rfl) rfl ?_
        refine s_end ?_
        refine f_then ?_
        refine c_seq ?_
        refine c_reg ?_
        refine sq (rd_move rfl) rfl ?_
        refine sq (rd_move rfl) rfl ?_
        refine sq (rd_lss rfl rfl) rfl ?_
        refine s_end ?_
        refine f_then ?_
        refine c_if rfl (fun h113 => ?_) (fun h113 => ?_)
        ·refine c_seq ?_
         refine c_reg ?_
         refine sq (rd_move rfl) rfl ?_
         refine sq (rd_move rfl) rfl ?_
         refine sq (rd_geq rfl rfl) rfl ?_
         refine sq (rd_assign rfl) rfl ?_
         refine s_end ?_
         refine f_then ?_
         refine c_seq ?_
         refine c_reg ?_
         refine sq (rd_move rfl) rfl ?_
         refine sq (rd_move rfl) rfl ?_
         refine sq (rd_move rfl) rfl ?_
         refine sq (rd_move rfl) rfl ?_
         refine sx (ef_call rfl rfl K136 (fun _ e => by cases e; rfl) [.row _ _ A n cap _] _ (.refl _) _ _ _ (fun w hS => by exact ih w A cap n d4 hr3 hn  hO a2 mid hr4 (by omega) (by omega) l1 (by omega) (by omega) (by omega) hS.own)) rfl ?_
         rintro dl ⟨_, hl1p, hl1s⟩
         refine s_end ?_
         refine f_then ?_
         refine c_reg ?_
         refine sq (rd_move rfl) rfl ?_
         refine sq (rd_addn (mid) (1) rfl rfl rfl rfl (by omega)) rfl ?_
         refine sq (rd_assign rfl) rfl ?_
         refine s_end ?_
         refine f_blk ?_
         refine f_again ((mid + 1, b2, l1, _, ap, dl)) (⟨by omega, by omega, hr6 dl hl1p hl1s⟩) (by show b2 - (mid + 1) < b2 - a2; omega) (by repeat constructor) (fun _ h => h.sb)
        ·refine c_seq ?_
         refine c_reg ?_
         refine sq (rd_move rfl) rfl ?_
         refine sq (rd_move rfl) rfl ?_
         refine sq (rd_geq rfl rfl) rfl ?_
         refine sq (rd_assign rfl) rfl ?_
         refine s_end ?_
         refine f_then ?_
         refine c_seq ?_
         refine c_reg ?_
         refine sq (rd_move rfl) rfl ?_
         refine sq (rd_move rfl) rfl ?_
         refine sq (rd_addn (mid) (1) rfl rfl rfl rfl (by omega)) rfl ?_
         refine sq (rd_move rfl) rfl ?_
         refine sq (rd_move rfl) rfl ?_
         refine sx (ef_call rfl rfl K136 (fun _ e => by cases e; rfl) [.row _ _ A n cap _] _ (.refl _) _ _ _ (fun w hS => by exact ih w A cap n d4 hr3 hn  hO (mid + 1) b2 hr5 (by omega) (by omega) l1 (by omega) (by omega) (by omega) hS.own)) rfl ?_
         rintro dl ⟨_, hl1p, hl1s⟩
         refine s_end ?_
         refine f_then ?_
         refine c_reg ?_
         refine sq (rd_move rfl) rfl ?_
         refine sq (rd_assign rfl) rfl ?_
         refine s_end ?_
         refine f_blk ?_
         refine f_again ((a2, mid, l1, _, ap, dl)) (⟨by omega, by omega, hr7 dl hl1p hl1s⟩) (by show mid - a2 < b2 - a2; omega) (by repeat constructor) (fun _ h => h.sb)
 

end Go.Proofs.YtfccnoccfhgcbaaGreatDoor
namespace Go.Proofs.YtfccnoccfhgcbaaGreatDoor
open Go Go.RowKit
theorem c38 (w : World) (A : Option Addr) (cap n : Nat) (d : Array SN) (g : Nat) (cmp : SN → SN → Int) (hg : callTy Tryz.prog g) (hcmp : ∀ x y, Pu Tryz.prog g [.agg (SN.enc x).toArray, .agg (SN.enc y).toArray] (.int .i64 (cmp x y))) (hd : d.size = n) (hn : n ≤ 1000000) (hO : Sort.SWO (ltOf cmp)) (hS : St w (fpOf [.row 64 4 A n cap (flat SN.enc d.toList)]) [.row 64 4 A n cap (flat SN.enc d.toList)] w) : Calls Tryz.prog 38 [.slice A n cap, .func (.func g) #[] #[]].toArray w (RtE fun v w' => ∃ x : Array SN, v = (fun _ => .tuple #[]) x ∧ (fun x => x.size = n ∧ Sort.PermIn 0 n d x ∧ Sort.SortedIn (ltOf cmp) 0 n x) x ∧ St w (fpOf [.row 64 4 A n cap (flat SN.enc d.toList)]) ((fun x => [.row 64 4 A n cap (flat SN.enc x.toList)]) x) w') := by
 refine enter Tryz.func38 rfl Tryz.ntmps38 rfl hS ?_
 refine c_seq ?_
 have hA0 : 0 < n → plainA A := fun h => ((row_know (List.mem_cons_self ..) w hS).2.2.2 h).1
 have h62 := bitsLen_le62 hn
 refine c_reg ?_
 refine sq (rd_move rfl) rfl ?_
 refine sq (rd_len S62 rfl rfl) rfl ?_
 refine sq (rd_assign rfl) rfl ?_
 refine s_end ?_
 refine f_then ?_
 refine c_reg ?_
 refine sq (rd_move rfl) rfl ?_
 refine sq (rd_move rfl) rfl ?_
 refine sq (rd_move rfl) rfl ?_
 refine sq (rd_conv ⟨_, I3⟩ I133 rfl (by first | exact wrap_u64 (by omega) | exact rfl)) rfl ?_
 refine se (ef_pure rfl rfl K78 rfl (by exact c78 n (by omega))) rfl ?_
 refine sq (rd_move rfl) rfl ?_
 refine sx (ef_call rfl rfl K77 (fun _ e => by cases e; rfl) [.row _ _ A n cap _] _ (.refl _) _ _ _ (fun w hS => by exact c77 (n + 1) w A cap n d g cmp hg hcmp hd hn  hO 0 n (Or.inl rfl) (by omega) (Nat.le_refl _) (Sort.bitsLen n : Int) (by omega) (by omega) (by omega) hS.own)) rfl ?_
 rintro x hx
 refine s_end ?_
 refine f_end rfl .nil ?_
 exact fun w' hS => ⟨_, rfl, x, rfl, hx, hS⟩

theorem c87 (w : World) (A : Option Addr) (cap n : Nat) (d : Array Int) (hd : d.size = n) (hn : n ≤ 1000000) (hO : Sort.SWO Sort.ltInt) (hS : St w (fpOf [.row 3 1 A n cap (ints d.toList)]) [.row 3 1 A n cap (ints d.toList)] w) : Calls Tryz.prog 87 [.slice A n cap].toArray w (RtE fun v w' => ∃ x : Array Int, v = (fun _ => .tuple #[]) x ∧ (fun x => x.size = n ∧ Sort.PermIn 0 n d x ∧ Sort.SortedIn Sort.ltInt 0 n x) x ∧ St w (fpOf [.row 3 1 A n cap (ints d.toList)]) ((fun x => [.row 3 1 A n cap (ints x.toList)]) x) w') := by
 refine enter Tryz.func87 rfl Tryz.ntmps87 rfl hS ?_
 refine c_seq ?_
 have hA0 : 0 < n → plainA A := fun h => ((row_know (List.mem_cons_self ..) w hS).2.2.2 h).1
 have h62 := bitsLen_le62 hn
 refine c_reg ?_
 refine sq (rd_move rfl) rfl ?_
 refine sq (rd_len S128 rfl rfl) rfl ?_
 refine sq (rd_assign rfl) rfl ?_
 refine s_end ?_
 refine f_then ?_
 refine c_reg ?_
 refine sq (rd_move rfl) rfl ?_
 refine sq (rd_move rfl) rfl ?_
 refine sq (rd_move rfl) rfl ?_
 refine sq (rd_conv ⟨_, I3⟩ I133 rfl (by first | exact wrap_u64 (by omega) | exact rfl)) rfl ?_
 refine se (ef_pure rfl rfl K78 rfl (by exact c78 n (by omega))) rfl ?_
 refine sx (ef_call rfl rfl K136 (fun _ e => by cases e; rfl) [.row _ _ A n cap _] _ (.refl _) _ _ _ (fun w hS => by exact c136 (n + 1) w A cap n d hd hn  hO 0 n (Or.inl rfl) (by omega) (Nat.le_refl _) (Sort.bitsLen n : Int) (by omega) (by omega) (by omega) hS.own)) rfl ?_
 rintro x hx
 refine s_end ?_
 refine f_end rfl .nil ?_
 exact fun w' hS => ⟨_, rfl, x, rfl, hx, hS⟩

end Go.Proofs.YtfccnoccfhgcbaaGreatDoor
namespace Go.Proofs.YtfccnoccfhgcbaaGreatDoor
open Go

section
variable {α : Type} [Inhabited α] {lt lt' : α → α → Bool} {d dk x y : Array α} {a b i j m n k t e : Nat}
/-- Two ranges of 'm' elements, exchanged. -/
def swpv (d : Array α) (a b m t : Nat) : α := if a ≤ t ∧ t < a + m then d[t - a + b]! else if b ≤ t ∧ t < b + m then d[t - b + a]! else d[t]!
/-- What lies in [m, b) comes ahead of what lies in [a, m). -/
def rotv (d : Array α) (a m b t : Nat) : α := if a ≤ t ∧ t < a + (b - m) then d[t + (m - a)]! else if a + (b - m) ≤ t ∧ t < b then d[t - (b - m)]! else d[t]!
theorem at_eq (d : Array α) {p q : Nat} (h : p = q) : d[p]! = d[q]! := by rw [h]
theorem swpv_step (hd : ∀ t, dk[t]! = swpv d a b i t) (h1 : a + i < b) (h2 : a + i < dk.size) (h3 : b + i < dk.size) : ∀ t, (Sort.swp dk (a + i) (b + i))[t]! = swpv d a b (i + 1) t := by
 intro t
 rw [Sort.swp_get dk h2 h3, hd, hd, hd]
 unfold swpv
 repeat' split
 all_goals first | (exfalso; omega) | (exact at_eq d (by omega))
theorem rot_one (h1 : 1 ≤ j) (h2 : j < i) (h3 : i ≤ m) (hx : ∀ t, x[t]! = swpv dk (m - i) m j t) : ∀ t, rotv x (m - (i - j)) m (m + j) t = rotv dk (m - i) m (m + j) t := by
 intro t
 unfold rotv
 simp only [hx]
 unfold swpv
 repeat' split
 all_goals first | (exfalso; omega) | (exact at_eq dk (by omega))
theorem rot_two (h1 : 1 ≤ i) (h2 : i < j) (h3 : i ≤ m) (hx : ∀ t, x[t]! = swpv dk (m - i) (m + j - i) i t) : ∀ t, rotv x (m - i) m (m + (j - i)) t = rotv dk (m - i) m (m + j) t := by
 intro t
 unfold rotv
 simp only [hx]
 unfold swpv
 repeat' split
 all_goals first | (exfalso; omega) | (exact at_eq dk (by omega))
theorem rot_end (h1 : 1 ≤ i) (h3 : i ≤ m) (hx : ∀ t, x[t]! = swpv dk (m - i) m i t) : ∀ t, x[t]! = rotv dk (m - i) m (m + i) t := by
 intro t
 rw [hx]
 unfold rotv swpv
 repeat' split
 all_goals first | (exfalso; omega) | (exact at_eq dk (by omega))
theorem rot_none (h : a = m ∨ m = b) : ∀ t, d[t]! = rotv d a m b t := by
 intro t
 unfold rotv
 repeat' split
 all_goals first | (exfalso; omega) | (exact at_eq d (by omega))
theorem rot_left (hd : ∀ t, dk[t]! = rotv d a (a + 1) (k + 1) t) (h1 : a ≤ k) (h2 : k + 1 < dk.size) : ∀ t, (Sort.swp dk k (k + 1))[t]! = rotv d a (a + 1) (k + 1 + 1) t := by
 intro t
 rw [Sort.swp_get dk (by omega) h2, hd, hd, hd]
 unfold rotv
 repeat' split
 all_goals first | (exfalso; omega) | (exact at_eq d (by omega))
theorem rot_right (hd : ∀ t, dk[t]! = rotv d k m (m + 1) t) (h1 : 1 ≤ k) (h2 : k ≤ m) (h3 : k < dk.size) : ∀ t, (Sort.swp dk k (k - 1))[t]! = rotv d (k - 1) m (m + 1) t := by
 intro t
 rw [Sort.swp_get dk h3 (by omega), hd, hd, hd]
 unfold rotv
 repeat' split
 all_goals first | (exfalso; omega) | (exact at_eq d (by omega))
end
end Go.Proofs.YtfccnoccfhgcbaaGreatDoor
namespace Go.Proofs.YtfccnoccfhgcbaaGreatDoor
open Go

section
variable {α : Type} [Inhabited α] {lt lt' : α → α → Bool} {d d1 d2 d3 dk x y : Array α} {a b i j m n k t e s r mid : Nat}
/-- One ahead of a range in order: it goes behind all that are less. -/
theorem case_one (hO : Sort.SWO lt') (hm : m = a + 1) (hi : m ≤ i) (hib : i ≤ b) (hs : Sort.SortedIn lt' m b d) (hlo : ∀ t, m ≤ t → t < i → lt' d[t]! d[a]! = true) (hhi : ∀ t, i ≤ t → t < b → lt' d[t]! d[a]! = false) (hx : ∀ t, x[t]! = rotv d a m i t) : Sort.SortedIn lt' a b x := by
 intro p q hp hpq hq
 subst hm
 rw [hx, hx]
 unfold rotv
 by_cases h1 : q < a + (i - (a + 1))
 ·rw [if_pos ⟨by omega, h1⟩, if_pos ⟨by omega, by omega⟩]
  exact hs _ _ (by omega) (by omega) (by omega)
 ·rw [if_neg (by omega : ¬ (a ≤ q ∧ q < a + (i - (a + 1))))]
  by_cases h2 : q < i
  ·rw [if_pos (by omega : a + (i - (a + 1)) ≤ q ∧ q < i), if_pos (by omega : a ≤ p ∧ p < a + (i - (a + 1)))]
   have := hlo (p + (a + 1 - a)) (by omega) (by omega)
   rw [at_eq d (show q - (i - (a + 1)) = a by omega)]
   exact hO.asymm this
  ·rw [if_neg (by omega : ¬ (a + (i - (a + 1)) ≤ q ∧ q < i))]
   by_cases h3 : p < a + (i - (a + 1))
   ·rw [if_pos (by omega)]
    exact hs _ _ (by omega) (by omega) (by omega)
   ·rw [if_neg (by omega : ¬ (a ≤ p ∧ p < a + (i - (a + 1))))]
    by_cases h4 : p < i
    ·rw [if_pos (by omega), at_eq d (show p - (i - (a + 1)) = a by omega)]
     exact hhi q (by omega) (by omega)
    ·rw [if_neg (by omega)]
     exact hs _ _ (by omega) (by omega) (by omega)
/-- One behind a range in order: it goes ahead of all that are more. -/
theorem case_two (hO : Sort.SWO lt') (hm : b = m + 1) (hi : a ≤ i) (him : i ≤ m) (hs : Sort.SortedIn lt' a m d) (hlo : ∀ t, a ≤ t → t < i → lt' d[m]! d[t]! = false) (hhi : ∀ t, i ≤ t → t < m → lt' d[m]! d[t]! = true) (hx : ∀ t, x[t]! = rotv d i m b t) : Sort.SortedIn lt' a b x := by
 intro p q hp hpq hq
 subst hm
 rw [hx, hx]
 unfold rotv
 by_cases h1 : q < i
 ·rw [if_neg (by omega), if_neg (by omega), if_neg (by omega), if_neg (by omega)]
  exact hs _ _ (by omega) (by omega) (by omega)
 ·by_cases h2 : q = i
  ·rw [if_pos (by omega), at_eq d (show q + (m - i) = m by omega), if_neg (by omega), if_neg (by omega)]
   exact hlo p (by omega) (by omega)
  ·rw [if_neg (by omega : ¬ (i ≤ q ∧ q < i + (m + 1 - m))), if_pos (by omega : i + (m + 1 - m) ≤ q ∧ q < m + 1)]
   by_cases h3 : p < i
   ·rw [if_neg (by omega), if_neg (by omega)]
    exact hs _ _ (by omega) (by omega) (by omega)
   ·by_cases h4 : p = i
    ·rw [if_pos (by omega), at_eq d (show p + (m - i) = m by omega)]
     exact hO.asymm (hhi _ (by omega) (by omega))
    ·rw [if_neg (by omega), if_pos (by omega)]
     exact hs _ _ (by omega) (by omega) (by omega)
/-- In a range in order: what holds at one place holds at the places ahead of it, or behind it. -/
theorem ahead_lt (hO : Sort.SWO lt') {u : α} (hs : Sort.SortedIn lt' m b d) (hk : m ≤ k) (hkb : k < b) (h : lt' d[k]! u = true) : ∀ t, m ≤ t → t ≤ k → lt' d[t]! u = true := by
 intro t h1 h2
 rcases Nat.eq_or_lt_of_le h2 with rfl | h2
 ·exact h
 ·cases hc : lt' d[t]! u with
  | true => rfl
  | false => have := hO.ntrans _ _ _ (hs t k h1 h2 hkb) hc; rw [h] at this; cases this
theorem behind_ge (hO : Sort.SWO lt') {u : α} (hs : Sort.SortedIn lt' m b d) (hk : m ≤ k) (h : lt' d[k]! u = false) : ∀ t, k ≤ t → t < b → lt' d[t]! u = false := by
 intro t h1 h2
 rcases Nat.eq_or_lt_of_le h1 with rfl | h1
 ·exact h
 ·exact hO.ntrans _ _ _ (hs k t hk h1 h2) h
theorem ahead_ge (hO : Sort.SWO lt') {u : α} (hs : Sort.SortedIn lt' a m d) (hkm : k < m) (h : lt' u d[k]! = false) : ∀ t, a ≤ t → t ≤ k → lt' u d[t]! = false := by
 intro t h1 h2
 rcases Nat.eq_or_lt_of_le h2 with rfl | h2
 ·exact h
 ·exact hO.ntrans _ _ _ h (hs t k h1 h2 hkm)
theorem behind_lt (hO : Sort.SWO lt') {u : α} (hs : Sort.SortedIn lt' a m d) (hk : a ≤ k) (h : lt' u d[k]! = true) : ∀ t, k ≤ t → t < m → lt' u d[t]! = true := by
 intro t h1 h2
 rcases Nat.eq_or_lt_of_le h1 with rfl | h1
 ·exact h
 ·cases hc : lt' u d[t]! with
  | true => rfl
  | false => have := hO.ntrans _ _ _ hc (hs k t hk h1 h2); rw [h] at this; cases this
/-- What the search for the parting place asks. -/
theorem part_false (hO : Sort.SWO lt') (hs1 : Sort.SortedIn lt' a m d) (hs2 : Sort.SortedIn lt' m b d) (p c c' : Nat) (h1 : a ≤ c') (h2 : c' ≤ c) (h3 : c < m) (h4 : m ≤ p - c) (h5 : p - c' < b) (h6 : c ≤ p) (h : lt' d[p - c]! d[c]! = false) : lt' d[p - c']! d[c']! = false := by
 rcases Nat.eq_or_lt_of_le h2 with rfl | h2
 ·exact h
 ·exact hO.ntrans _ _ _ (hO.ntrans _ _ _ (hs2 (p - c) (p - c') h4 (by omega) h5) h) (hs1 c' c h1 h2 h3)
theorem part_true (hO : Sort.SWO lt') (hs1 : Sort.SortedIn lt' a m d) (hs2 : Sort.SortedIn lt' m b d) (p c c' : Nat) (h1 : a ≤ c) (h2 : c ≤ c') (h3 : c' < m) (h4 : m ≤ p - c') (h5 : p - c < b) (h6 : c' ≤ p) (h : lt' d[p - c]! d[c]! = true) : lt' d[p - c']! d[c']! = true := by
 cases hc : lt' d[p - c']! d[c']! with
 | true => rfl
 | false => rw [part_false hO hs1 hs2 p c' c h1 h2 h3 h4 h5 h6 hc] at h; cases h
/-- Behind the rotation all of the lower part is no more than all of the upper part. -/
theorem part_cross (hO : Sort.SWO lt') (hs1 : Sort.SortedIn lt' a m d) (hs2 : Sort.SortedIn lt' m b d) (hmid : mid = (a + b) / 2) (ham : a < m) (hmb : m < b) (hs0 : s ≤ m) (hsa : a ≤ s) (hsm : s ≤ mid) (he : e = mid + m - s) (heb : e ≤ b)
  (hlo : ∀ c, a ≤ c → mid + m - b ≤ c → c < s → lt' d[mid + m - 1 - c]! d[c]! = false) (hhi : ∀ c, s ≤ c → c < m → c < mid → lt' d[mid + m - 1 - c]! d[c]! = true) (hx : ∀ t, d1[t]! = rotv d s m e t) :
  ∀ i j, a ≤ i → i < mid → mid ≤ j → j < b → lt' d1[j]! d1[i]! = false := by
 intro i j h1 h2 h3 h4
 subst he
 rw [hx, hx]
 unfold rotv
 by_cases hi : i < s
 ·rw [if_neg (by omega : ¬ (s ≤ i ∧ i < s + (mid + m - s - m))), if_neg (by omega : ¬ (s + (mid + m - s - m) ≤ i ∧ i < mid + m - s))]
  rw [if_neg (by omega : ¬ (s ≤ j ∧ j < s + (mid + m - s - m)))]
  by_cases hj : j < mid + m - s
  ·rw [if_pos (by omega)]
   exact hs1 _ _ (by omega) (by omega) (by omega)
  ·rw [if_neg (by omega)]
   have hc := hlo (s - 1) (by omega) (by omega) (by omega)
   have hc2 : lt' d[j]! d[s - 1]! = false := behind_ge hO hs2 (k := mid + m - 1 - (s - 1)) (by omega) hc j (by omega) (by omega)
   exact ahead_ge hO hs1 (by omega) hc2 i (by omega) (by omega)
 ·rw [if_pos (by omega : s ≤ i ∧ i < s + (mid + m - s - m))]
  rw [if_neg (by omega : ¬ (s ≤ j ∧ j < s + (mid + m - s - m)))]
  by_cases hj : j < mid + m - s
  ·rw [if_pos (by omega)]
   have hc := hhi s (by omega) (by omega) (by omega)
   have hc2 : lt' d[i + (m - s)]! d[s]! = true := ahead_lt hO hs2 (k := mid + m - 1 - s) (by omega) (by omega) hc _ (by omega) (by omega)
   exact hO.asymm (behind_lt hO hs1 (by omega) hc2 _ (by omega) (by omega))
  ·rw [if_neg (by omega)]
   exact hs2 _ _ (by omega) (by omega) (by omega)
/-- The four pieces behind the rotation are each in order. -/
theorem part_pieces (hs1 : Sort.SortedIn lt' a m d) (hs2 : Sort.SortedIn lt' m b d) (hs0 : s ≤ m) (hsa : a ≤ s) (hsm : s ≤ mid) (he : e = mid + m - s) (heb : e ≤ b) (hx : ∀ t, d1[t]! = rotv d s m e t) :
  Sort.SortedIn lt' a s d1 ∧ Sort.SortedIn lt' s mid d1 ∧ Sort.SortedIn lt' mid e d1 ∧ Sort.SortedIn lt' e b d1 := by
 subst he
 refine ⟨fun i j h1 h2 h3 => ?_, fun i j h1 h2 h3 => ?_, fun i j h1 h2 h3 => ?_, fun i j h1 h2 h3 => ?_⟩ <;> (rw [hx, hx]; unfold rotv)
 ·rw [if_neg (by omega), if_neg (by omega), if_neg (by omega), if_neg (by omega)]
  exact hs1 _ _ (by omega) (by omega) (by omega)
 ·rw [if_pos (by omega), if_pos (by omega)]
  exact hs2 _ _ (by omega) (by omega) (by omega)
 ·rw [if_neg (by omega), if_pos (by omega), if_neg (by omega), if_pos (by omega)]
  exact hs1 _ _ (by omega) (by omega) (by omega)
 ·rw [if_neg (by omega), if_neg (by omega), if_neg (by omega), if_neg (by omega)]
  exact hs2 _ _ (by omega) (by omega) (by omega)
/-- Two ranges in order, the lower one no more than the upper one. -/
theorem glue_two (h1 : Sort.SortedIn lt' a mid d) (h2 : Sort.SortedIn lt' mid b d) (hc : ∀ i j, a ≤ i → i < mid → mid ≤ j → j < b → lt' d[j]! d[i]! = false) : Sort.SortedIn lt' a b d := by
 intro i j hi hij hj
 rcases Nat.lt_or_ge j mid with h | h
 ·exact h1 i j hi hij h
 ·rcases Nat.lt_or_ge i mid with h3 | h3
  ·exact hc i j hi h3 h hj
  ·exact h2 i j h3 hij hj
theorem cross_turn (hab : mid ≤ d.size) (hb : b ≤ d.size) (hc : ∀ i j, a ≤ i → i < mid → mid ≤ j → j < b → lt' d[j]! d[i]! = false) (hp : Sort.PermIn a mid d x) (hq : Sort.PermIn mid b x y) : ∀ i j, a ≤ i → i < mid → mid ≤ j → j < b → lt' y[j]! y[i]! = false := by
 intro i j h1 h2 h3 h4
 have hx : ∀ i j, a ≤ i → i < mid → mid ≤ j → j < b → lt' x[j]! x[i]! = false := fun i j h1 h2 h3 h4 => by
  rw [hp.2.1 j (.inr h3)]
  exact Sort.permIn_all d x a mid (fun u => lt' d[j]! u = false) hab hp (fun k hk hk2 => hc k j hk hk2 h3 h4) i h1 h2
 rw [hq.2.1 i (.inl h2)]
 exact Sort.permIn_all x y mid b (fun u => lt' u x[i]! = false) (by rw [hp.1]; exact hb) hq (fun k hk hk2 => hx i k h1 h2 hk hk2) j h3 h4
end
end Go.Proofs.YtfccnoccfhgcbaaGreatDoor
namespace Go.Proofs.YtfccnoccfhgcbaaGreatDoor
open Go

section
variable {α : Type} [Inhabited α] {lt lt' : α → α → Bool} {d dk x y : Array α} {a b i j m n k t e B q : Nat}
/-- Each two, the later one and the earlier one: both orders agree on whether the later one is less. -/
def Agree (lt lt' : α → α → Bool) (n : Nat) (d : Array α) : Prop := ∀ i j, i < j → j < n → lt d[j]! d[i]! = lt' d[j]! d[i]!
theorem Agree.turn (hH : ∀ u v, lt u v = true → lt' u v = true) (h : Agree lt lt' n d) (hn : n ≤ d.size) (hb : b ≤ n) (hp : Sort.PermIn a b d x) (hs : Sort.SortedIn lt' a b x) : Agree lt lt' n x := by
 intro i j hij hj
 by_cases hi1 : a ≤ i ∧ i < b
 ·by_cases hj1 : j < b
  ·have h1 := hs i j hi1.1 hij hj1
   rw [h1]
   cases hc : lt x[j]! x[i]! with
   | false => rfl
   | true => rw [hH _ _ hc] at h1; cases h1
  ·rw [hp.2.1 j (.inr (by omega))]
   exact Sort.permIn_all d x a b (fun u => lt d[j]! u = lt' d[j]! u) (by omega) hp (fun k hk hk2 => h k j (by omega) hj) i hi1.1 hi1.2
 ·rw [hp.2.1 i (by omega)]
  by_cases hj1 : a ≤ j ∧ j < b
  ·exact Sort.permIn_all d x a b (fun u => lt u d[i]! = lt' u d[i]!) (by omega) hp (fun k hk hk2 => h i k (by omega) (by omega)) j hj1.1 hj1.2
  ·rw [hp.2.1 j (by omega)]
   exact h i j hij hj
theorem ins_inner_agree : ∀ (j : Nat) (d : Array α), j < d.size → (∀ p, a ≤ p → p < j → lt d[j]! d[p]! = lt' d[j]! d[p]!) → Sort.insInner lt a j d = Sort.insInner lt' a j d := by
 intro j
 induction j with
 | zero => intro d _ _; rw [Sort.insInner, Sort.insInner]
 | succ j ih =>
  intro d hj h
  rw [Sort.insInner, Sort.insInner]
  by_cases ha : a < j + 1
  ·rw [← h j (by omega) (by omega)]
   have hrec := ih (Sort.swp d (j + 1) j) (by rw [Sort.size_swp]; omega) (fun p hp1 hp2 => by
    rw [Sort.swp_get d hj (by omega : j < d.size) j, if_pos rfl, Sort.swp_get d hj (by omega : j < d.size) p, if_neg (by omega), if_neg (by omega)]
    exact h p hp1 (by omega))
   rw [hrec]
  ·simp [ha]
theorem ins_inner_perm : ∀ (j i : Nat) (d : Array α), a ≤ j → j ≤ i → i < d.size → Sort.PermIn a (i + 1) d (Sort.insInner lt a j d) := by
 intro j
 induction j with
 | zero => intro i d _ _ _; rw [Sort.insInner]; exact Sort.permIn_refl _ _ _
 | succ j ih =>
  intro i d h1 h2 h3
  rw [Sort.insInner]
  split
  ·rename_i hc
   simp only [Bool.and_eq_true, decide_eq_true_eq] at hc
   exact Sort.permIn_trans _ _ _ _ _ (Sort.swp_permIn d a (i + 1) (j + 1) j (by omega) (by omega) (by omega) (by omega) (by omega)) (ih i _ (by omega) (by omega) (by rw [Sort.size_swp]; exact h3))
  ·exact Sort.permIn_refl _ _ _
theorem out_go (h : i < b) : Sort.insOuter lt a b i d = Sort.insOuter lt a b (i + 1) (Sort.insInner lt a i d) := by
 conv => lhs; rw [Sort.insOuter, if_pos h]
theorem out_stop (h : ¬ i < b) : Sort.insOuter lt a b i d = d := by rw [Sort.insOuter, if_neg h]
theorem ins_outer_agree : ∀ (k i : Nat) (d : Array α), b - i ≤ k → a ≤ i → b ≤ d.size → (∀ p q, a ≤ p → p < q → i ≤ q → q < b → lt d[q]! d[p]! = lt' d[q]! d[p]!) → Sort.insOuter lt a b i d = Sort.insOuter lt' a b i d := by
 intro k
 induction k with
 | zero =>
  intro i d h1 _ _ _
  rw [out_stop (by omega), out_stop (by omega)]
 | succ k ih =>
  intro i d h1 h2 h3 h
  by_cases hi : i < b
  ·rw [out_go hi, out_go hi, ins_inner_agree i d (by omega) (fun p hp hp2 => h p i hp hp2 (Nat.le_refl _) hi)]
   have hp := ins_inner_perm (lt := lt') (a := a) i i d h2 (Nat.le_refl _) (by omega)
   refine ih (i + 1) _ (by omega) (by omega) (by rw [hp.1]; exact h3) (fun p q hp1 hpq hq1 hq2 => ?_)
   rw [hp.2.1 q (.inr (by omega))]
   by_cases hpi : p < i + 1
   ·exact Sort.permIn_all d _ a (i + 1) (fun u => lt d[q]! u = lt' d[q]! u) (by omega) hp (fun t ht ht2 => h t q ht (by omega) (by omega) hq2) p hp1 hpi
   ·rw [hp.2.1 p (.inr (by omega))]
    exact h p q hp1 hpq (by omega) hq2
  ·rw [out_stop hi, out_stop hi]
theorem ins_agree (h : Agree lt lt' n d) (hb : b ≤ n) (hn : n ≤ d.size) : Sort.insertionSort lt d a b = Sort.insertionSort lt' d a b :=
 ins_outer_agree (b - (a + 1)) (a + 1) d (Nat.le_refl _) (by omega) (by omega) (fun p q _ h2 _ h4 => h p q h2 (by omega))
/-- Within [lo, hi) each block of 'B' is in order. -/
def Blocks (lt' : α → α → Bool) (B lo hi : Nat) (d : Array α) : Prop := ∀ q i j, lo ≤ i → B * q ≤ i → i < j → j < B * (q + 1) → j < hi → lt' d[j]! d[i]! = false
theorem Blocks.range (h : Blocks lt' B a n d) (ha : B * q = a) (hb : b ≤ a + B) (hbn : b ≤ n) : Sort.SortedIn lt' a b d := fun i j hi hij hj => h q i j hi (by omega) hij (by rw [Nat.mul_add]; omega) (by omega)
/-- One block more. -/
theorem Blocks.more (h : Blocks lt' B 0 a d) (ha : B * q = a) (hb : b ≤ a + B) (hp : Sort.PermIn a b d x) (hs : Sort.SortedIn lt' a b x) : Blocks lt' B 0 b x := by
 intro r i j h0 h1 h2 h3 h4
 by_cases hj : j < a
 ·rw [hp.2.1 j (.inl hj), hp.2.1 i (.inl (by omega))]
  exact h r i j h0 h1 h2 h3 hj
 ·have hq1 : q ≤ r := by
   have : B * q < B * (r + 1) := by omega
   have := Nat.lt_of_mul_lt_mul_left this
   omega
  have h5 := Nat.mul_le_mul_left B hq1
  exact hs i j (by omega) h2 h4
theorem Blocks.rest (h : Blocks lt' B a n d) (hb : a ≤ b) (hp : Sort.PermIn a b d x) : Blocks lt' B b n x := by
 intro r i j h0 h1 h2 h3 h4
 rw [hp.2.1 j (.inr (by omega)), hp.2.1 i (.inr (by omega))]
 exact h r i j (by omega) h1 h2 h3 h4
theorem Blocks.whole (h : Blocks lt' B 0 n d) (hn : n ≤ B) : Sort.SortedIn lt' 0 n d := fun i j hi hij hj => h 0 i j hi (by omega) hij (by omega) hj
/-- What is left behind the last pair is one block. -/
theorem Blocks.last (h1 : Blocks lt' (2 * B) 0 a d) (h2 : Blocks lt' B a n d) (ha : 2 * B * q = a) (hn : n ≤ a + B) : Blocks lt' (2 * B) 0 n d := by
 refine h1.more ha (b := n) (by omega) (Sort.permIn_refl _ _ _) ?_
 exact h2.range (q := 2 * q) (by rw [← ha, ← Nat.mul_assoc, Nat.mul_comm B 2]) hn (Nat.le_refl _)
end
end Go.Proofs.YtfccnoccfhgcbaaGreatDoor
namespace Go.Proofs.YtfccnoccfhgcbaaGreatDoor
open Go

section
variable {α : Type} [Inhabited α] {lt lt' : α → α → Bool} {d d1 d2 : Array α} {a b m e s mid : Nat}
theorem part_agree (hX : ∀ i j, a ≤ i → i < m → m ≤ j → j < b → lt d[j]! d[i]! = lt' d[j]! d[i]!) (hs0 : s ≤ m) (hsa : a ≤ s) (hsm : s ≤ mid) (he : e = mid + m - s) (heb : e ≤ b) (hx : ∀ t, d1[t]! = rotv d s m e t) :
  (∀ i j, a ≤ i → i < s → s ≤ j → j < mid → lt d1[j]! d1[i]! = lt' d1[j]! d1[i]!) ∧ (∀ i j, mid ≤ i → i < e → e ≤ j → j < b → lt d1[j]! d1[i]! = lt' d1[j]! d1[i]!) := by
 subst he
 refine ⟨fun i j h1 h2 h3 h4 => ?_, fun i j h1 h2 h3 h4 => ?_⟩ <;> (rw [hx, hx]; unfold rotv)
 ·rw [if_pos (by omega : s ≤ j ∧ j < s + (mid + m - s - m)), if_neg (by omega), if_neg (by omega)]
  exact hX _ _ (by omega) (by omega) (by omega) (by omega)
 ·rw [if_neg (by omega : ¬ (s ≤ j ∧ j < s + (mid + m - s - m))), if_neg (by omega), if_neg (by omega), if_pos (by omega)]
  exact hX _ _ (by omega) (by omega) (by omega) (by omega)
theorem swpv_zero (d : Array α) (a b t : Nat) : d[t]! = swpv d a b 0 t := by
 unfold swpv
 rw [if_neg (by omega), if_neg (by omega)]
end
theorem two_blocks (B q : Nat) : B * (2 * q) = 2 * B * q := by rw [← Nat.mul_assoc, Nat.mul_comm B 2]
theorem two_blocks1 (B q : Nat) : B * (2 * q + 1) = 2 * B * q + B := by rw [Nat.mul_add, two_blocks, Nat.mul_one]
end Go.Proofs.YtfccnoccfhgcbaaGreatDoor
namespace Go.Proofs.YtfccnoccfhgcbaaGreatDoor
open Go Go.RowKit
theorem K174 : callTy Tryz.prog 174 := by unfold callTy; kernel_rfl
theorem c174 (w : World) (A : Option Addr) (cap n : Nat) (d : Array SN) (g : Nat) (cmp : SN → SN → Int) (hg : callTy Tryz.prog g) (hcmp : ∀ x y, Pu Tryz.prog g [.agg (SN.enc x).toArray, .agg (SN.enc y).toArray] (.int .i64 (cmp x y))) (hd : d.size = n) (hn : n ≤ 1000000) (a b m : Nat) (hab : a + m ≤ b) (hb : b + m ≤ n) (hS : St w (fpOf [.row 64 4 A n cap (flat SN.enc d.toList)]) [.row 64 4 A n cap (flat SN.enc d.toList)] w) : Calls Tryz.prog 174 [.slice A n cap, .int .i64 (a : Int), .int .i64 (b : Int), .int .i64 (m : Int), .func (.func g) #[] #[]].toArray w (RtE fun v w' => ∃ x : Array SN, v = (fun _ => .tuple #[]) x ∧ (fun x => x.size = n ∧ Sort.PermIn a (b + m) d x ∧ ∀ t, x[t]! = swpv d a b m t) x ∧ St w (fpOf [.row 64 4 A n cap (flat SN.enc d.toList)]) ((fun x => [.row 64 4 A n cap (flat SN.enc x.toList)]) x) w') := by
 refine enter Tryz.func174 rfl Tryz.ntmps174 rfl hS ?_
 refine c_seq ?_
 have hA0 : 0 < n → plainA A := fun h => ((row_know (List.mem_cons_self ..) w hS).2.2.2 h).1
 refine c_reg ?_
 refine sq (rd_assign rfl) rfl ?_
 refine s_end ?_
 refine f_then ?_
 refine c_block ?_
 refine c_keep (L' := [(0, _), (1, _), (2, _), (3, _), (10, _)]) (by repeat constructor) ?_
 refine c_for (α := Nat × Array SN) (fun ⟨i, dk⟩ => i ≤ m ∧ dk.size = n ∧ Sort.PermIn a (b + m) d dk ∧ ∀ t, dk[t]! = swpv d a b i t) (fun ⟨i, dk⟩ => [.row 64 4 A n cap (flat SN.enc dk.toList)]) [] (fun ⟨i, dk⟩ => [(10, .int .i64 (i : Int))]) [(0, _), (1, _), (2, _), (3, _)] (fun ⟨i, dk⟩ => m - i) ((0, d)) (⟨Nat.zero_le _, hd, Sort.permIn_refl _ _ _, swpv_zero d a b⟩) (by repeat constructor) (fun _ h => h) ?_
 rintro ⟨i, dk⟩ ⟨hi, hdk, hp, hv⟩
 refine c_seq ?_
 refine c_seq ?_
 refine c_reg ?_
 refine sq (rd_move rfl) rfl ?_
 refine sq (rd_move rfl) rfl ?_
 refine sq (rd_lss rfl rfl) rfl ?_
 refine s_end ?_
 refine f_then ?_
 refine c_if rfl (fun h13 => ?_) (fun h13 => ?_)
 ·have him : i < m := by omega
  refine c_skip ?_
  refine f_then ?_
  refine c_seq ?_
  refine c_block ?_
  refine c_regd [] (.q 0 (.q 1 (.q 2 (.q 3 (.q 4 (.q 5 (.q 6 (.q 7 (.q 8 (.q 9 (.q 10 (.q 11 (.q 12 (.q 14 (.q 15 (.q 16 (.q 17 (.q 18 (.alt 13 (.alt 19 (.q 20 (.alt 21 (.q 22 (.alt 23 .done .stop)) .stop)) .stop) (.alt 19 (.alt 13 (.q 20 (.alt 21 (.q 22 (.alt 23 .done .stop)) .stop)) .stop) .stop)))))))))))))))))))) (by kernel_rfl) (by kernel_rfl) (by kernel_rfl) (by kernel_rfl) (fun _ h => h.sb) ?_
  refine dq rfl (rd_move rfl) rfl ?_
  refine dq rfl (rd_move rfl) rfl ?_
  refine dq rfl (rd_move rfl) rfl ?_
  refine dq rfl (rd_addn (a) (i) rfl rfl rfl rfl (by omega)) rfl ?_
  refine dq rfl (rd_move rfl) rfl ?_
  refine dq rfl (rd_move rfl) rfl ?_
  refine dq rfl (rd_move rfl) rfl ?_
  refine dq rfl (rd_addn (b) (i) rfl rfl rfl rfl (by omega)) rfl ?_
  refine dq rfl (rd_move rfl) rfl ?_
  refine dq rfl (rd_move rfl) rfl ?_
  refine dq rfl (rd_move rfl) rfl ?_
  refine dq rfl (rd_addn (b) (i) rfl rfl rfl rfl (by omega)) rfl ?_
  refine dq rfl (rd_index S62 rfl rfl hA0 (by omega) (by omega)) rfl ?_
  refine dq rfl (rd_move rfl) rfl ?_
  refine dq rfl (rd_move rfl) rfl ?_
  refine dq rfl (rd_move rfl) rfl ?_
  refine dq rfl (rd_addn (a) (i) rfl rfl rfl rfl (by omega)) rfl ?_
  refine dq rfl (rd_index S62 rfl rfl hA0 (by omega) (by omega)) rfl ?_
  refine de rfl rfl (ef_quiet (rd_ldsr A64 (by first | exact .head _) rfl (arr_part (f := SN.enc) SN.enc_len (i := (b + i)) (by first | omega | (simp only [swp_size, Array.size_setIfInBounds]; omega)))) rfl) (fun _ h => h.sb) ?_ ?_
  ·refine de rfl rfl (ef_quiet (rd_ldsr A64 (by first | exact .head _) rfl (arr_part (f := SN.enc) SN.enc_len (i := (a + i)) (by first | omega | (simp only [swp_size, Array.size_setIfInBounds]; omega)))) rfl) (fun _ h => h.sb) ?_ d_stop
   refine dq rfl (rd_index S62 rfl rfl hA0 (by omega) (by omega)) rfl ?_
   refine de rfl rfl (ef_storea SN.enc ((a + i)) Sz64 rfl rfl rfl SN.enc_len SN.enc_cells (by decide) (by omega) (by first | omega | (simp only [swp_size, Array.size_setIfInBounds]; omega))) (fun _ h => h.sb) ?_ d_stop
   refine dq rfl (rd_index S62 rfl rfl hA0 (by omega) (by omega)) rfl ?_
   refine de rfl rfl (ef_storea SN.enc ((b + i)) Sz64 rfl rfl rfl SN.enc_len SN.enc_cells (by decide) (by omega) (by first | omega | (simp only [swp_size, Array.size_setIfInBounds]; omega))) (fun _ h => h.sb) ?_ d_stop
   refine d_end ?_
   refine f_blk ?_
   refine f_then ?_
   refine c_reg ?_
   refine sq (rd_move rfl) rfl ?_
   refine sq (rd_addn (i) (1) rfl rfl rfl rfl (by omega)) rfl ?_
   refine sq (rd_assign rfl) rfl ?_
   refine s_end ?_
   refine f_again ((i + 1, Sort.swp dk (a + i) (b + i))) (⟨by omega, by simpa using hdk, Sort.permIn_trans _ _ _ _ _ hp (Sort.swp_permIn _ _ _ _ _ (by omega) (by omega) (by omega) (by omega) (by omega)), swpv_step hv (by omega) (by omega) (by omega)⟩) (by show m - (i + 1) < m - i; omega) (by repeat constructor) (fun _ h => h.sb)
  refine de rfl rfl (ef_quiet (rd_ldsr A64 (by first | exact .head _) rfl (arr_part (f := SN.enc) SN.enc_len (i := (a + i)) (by first | omega | (simp only [swp_size, Array.size_setIfInBounds]; omega)))) rfl) (fun _ h => h.sb) ?_ ?_
  ·refine de rfl rfl (ef_quiet (rd_ldsr A64 (by first | exact .head _) rfl (arr_part (f := SN.enc) SN.enc_len (i := (b + i)) (by first | omega | (simp only [swp_size, Array.size_setIfInBounds]; omega)))) rfl) (fun _ h => h.sb) ?_ d_stop
   refine dq rfl (rd_index S62 rfl rfl hA0 (by omega) (by omega)) rfl ?_
   refine de rfl rfl (ef_storea SN.enc ((a + i)) Sz64 rfl rfl rfl SN.enc_len SN.enc_cells (by decide) (by omega) (by first | omega | (simp only [swp_size, Array.size_setIfInBounds]; omega))) (fun _ h => h.sb) ?_ d_stop
   refine dq rfl (rd_index S62 rfl rfl hA0 (by omega) (by omega)) rfl ?_
   refine de rfl rfl (ef_storea SN.enc ((b + i)) Sz64 rfl rfl rfl SN.enc_len SN.enc_cells (by decide) (by omega) (by first | omega | (simp only [swp_size, Array.size_setIfInBounds]; omega))) (fun _ h => h.sb) ?_ d_stop
   refine d_end ?_
   refine f_blk ?_
   refine f_then ?_
   refine c_reg ?_
   refine sq (rd_move rfl) rfl ?_
   refine sq (rd_addn (i) (1) rfl rfl rfl rfl (by omega)) rfl ?_
   refine sq (rd_assign rfl) rfl ?_
   refine s_end ?_
   refine f_again ((i + 1, Sort.swp dk (a + i) (b + i))) (⟨by omega, by simpa using hdk, Sort.permIn_trans _ _ _ _ _ hp (Sort.swp_permIn _ _ _ _ _ (by omega) (by omega) (by omega) (by omega) (by omega)), swpv_step hv (by omega) (by omega) (by omega)⟩) (by show m - (i + 1) < m - i; omega) (by repeat constructor) (fun _ h => h.sb)
  exact d_stop
 ·have him : i = m := by omega
  subst him
  refine c_exit ?_
  refine f_then_x ?_
  refine f_then_x ?_
  refine f_blk_x ?_
  refine f_end rfl .nil ?_
  exact fun w' hS => ⟨_, rfl, dk, rfl, ⟨hdk, hp, hv⟩, hS⟩

theorem c155 (w : World) (A : Option Addr) (cap n : Nat) (d : Array SN) (g : Nat) (cmp : SN → SN → Int) (hg : callTy Tryz.prog g) (hcmp : ∀ x y, Pu Tryz.prog g [.agg (SN.enc x).toArray, .agg (SN.enc y).toArray] (.int .i64 (cmp x y))) (hd : d.size = n) (hn : n ≤ 1000000) (a m b : Nat) (ham : a < m) (hmb : m < b) (hb : b ≤ n) (hS : St w (fpOf [.row 64 4 A n cap (flat SN.enc d.toList)]) [.row 64 4 A n cap (flat SN.enc d.toList)] w) : Calls Tryz.prog 155 [.slice A n cap, .int .i64 (a : Int), .int .i64 (m : Int), .int .i64 (b : Int), .func (.func g) #[] #[]].toArray w (RtE fun v w' => ∃ x : Array SN, v = (fun _ => .tuple #[]) x ∧ (fun x => x.size = n ∧ Sort.PermIn a b d x ∧ ∀ t, x[t]! = rotv d a m b t) x ∧ St w (fpOf [.row 64 4 A n cap (flat SN.enc d.toList)]) ((fun x => [.row 64 4 A n cap (flat SN.enc x.toList)]) x) w') := by
 refine enter Tryz.func155 rfl Tryz.ntmps155 rfl hS ?_
 refine c_seq ?_
 have hA0 : 0 < n → plainA A := fun h => ((row_know (List.mem_cons_self ..) w hS).2.2.2 h).1
 refine c_reg ?_
 refine sq (rd_move rfl) rfl ?_
 refine sq (rd_move rfl) rfl ?_
 refine sq (rd_subn (m) (a) rfl rfl rfl rfl (by omega) (by omega)) rfl ?_
 refine sq (rd_assign rfl) rfl ?_
 refine s_end ?_
 refine f_then ?_
 refine c_seq ?_
 refine c_reg ?_
 refine sq (rd_move rfl) rfl ?_
 refine sq (rd_move rfl) rfl ?_
 refine sq (rd_subn (b) (m) rfl rfl rfl rfl (by omega) (by omega)) rfl ?_
 refine sq (rd_assign rfl) rfl ?_
 refine s_end ?_
 refine f_then ?_
 refine c_seq ?_
 refine c_block ?_
 refine c_keep (L' := [(0, _), (2, _), (4, _), (10, _), (11, _)]) (by repeat constructor) ?_
 refine c_for (α := Nat × Nat × Array SN) (fun ⟨i, j, dk⟩ => 1 ≤ i ∧ i ≤ m - a ∧ 1 ≤ j ∧ j ≤ b - m ∧ dk.size = n ∧ Sort.PermIn a b d dk ∧ ∀ t, rotv dk (m - i) m (m + j) t = rotv d a m b t) (fun ⟨i, j, dk⟩ => [.row 64 4 A n cap (flat SN.enc dk.toList)]) [] (fun ⟨i, j, dk⟩ => [(10, .int .i64 (i : Int)), (11, .int .i64 (j : Int))]) [(0, _), (2, _), (4, _)] (fun ⟨i, j, dk⟩ => i + j) ((m - a, b - m, d)) (⟨by omega, by omega, by omega, by omega, hd, Sort.permIn_refl _ _ _, fun t => by rw [show m - (m - a) = a from by omega, show m + (b - m) = b from by omega]⟩) (by repeat constructor) (fun _ h => h) ?_
 rintro ⟨i, j, dk⟩ ⟨hi1, hi2, hj1, hj2, hdk, hp, hv⟩
 refine c_seq ?_
 refine c_seq ?_
 refine c_reg ?_
 refine sq (rd_move rfl) rfl ?_
 refine sq (rd_move rfl) rfl ?_
 refine sq (rd_neq rfl rfl) rfl ?_
 refine s_end ?_
 refine f_then ?_
 refine c_if rfl (fun h20 => ?_) (fun h20 => ?_)
 ·refine c_skip ?_
  refine f_then ?_
  refine c_block ?_
  refine c_seq ?_
  refine c_reg ?_
  refine sq (rd_move rfl) rfl ?_
  refine sq (rd_move rfl) rfl ?_
  refine sq (rd_gtr rfl rfl) rfl ?_
  refine s_end ?_
  refine f_then ?_
  refine c_if rfl (fun h23 => ?_) (fun h23 => ?_)
  ·refine c_seq ?_
   refine c_reg ?_
   refine sq (rd_move rfl) rfl ?_
   refine sq (rd_move rfl) rfl ?_
   refine sq (rd_move rfl) rfl ?_
   refine sq (rd_subn (m) (i) rfl rfl rfl rfl (by omega) (by omega)) rfl ?_
   refine sq (rd_move rfl) rfl ?_
   refine sq (rd_move rfl) rfl ?_
   refine sq (rd_move rfl) rfl ?_
   refine sx (ef_call rfl rfl K174 (fun _ e => by cases e; rfl) [.row _ _ A n cap _] _ (.refl _) _ _ _ (fun w hS => by exact c174 w A cap n dk g cmp hg hcmp hdk hn  (m - i) m j (by omega) (by omega) hS.own)) rfl ?_
   rintro x1 ⟨hx1, hx2, hx3⟩
   refine s_end ?_
   refine f_then ?_
   refine c_reg ?_
   refine sq (rd_move rfl) rfl ?_
   refine sq (rd_move rfl) rfl ?_
   refine sq (rd_subn (i) (j) rfl rfl rfl rfl (by omega) (by omega)) rfl ?_
   refine sq (rd_assign rfl) rfl ?_
   refine s_end ?_
   refine f_blk ?_
   refine f_again ((i - j, j, x1)) (⟨by omega, by omega, by omega, by omega, hx1, Sort.permIn_trans _ _ _ _ _ hp (Sort.permIn_mono _ _ (m - i) (m + j) _ _ (by omega) (by omega) (by omega) hx2), fun t => (rot_one (by omega) (by omega) (by omega) hx3 t).trans (hv t)⟩) (by show i - j + j < i + j; omega) (by repeat constructor) (fun _ h => h.sb)
  ·refine c_seq ?_
   refine c_reg ?_
   refine sq (rd_move rfl) rfl ?_
   refine sq (rd_move rfl) rfl ?_
   refine sq (rd_move rfl) rfl ?_
   refine sq (rd_subn (m) (i) rfl rfl rfl rfl (by omega) (by omega)) rfl ?_
   refine sq (rd_move rfl) rfl ?_
   refine sq (rd_move rfl) rfl ?_
   refine sq (rd_addn (m) (j) rfl rfl rfl rfl (by omega)) rfl ?_
   refine sq (rd_move rfl) rfl ?_
   refine sq (rd_subn ((m + j)) (i) rfl rfl rfl rfl (by omega) (by omega)) rfl ?_
   refine sq (rd_move rfl) rfl ?_
   refine sq (rd_move rfl) rfl ?_
   refine sx (ef_call rfl rfl K174 (fun _ e => by cases e; rfl) [.row _ _ A n cap _] _ (.refl _) _ _ _ (fun w hS => by exact c174 w A cap n dk g cmp hg hcmp hdk hn  (m - i) (m + j - i) i (by omega) (by omega) hS.own)) rfl ?_
   rintro x1 ⟨hx1, hx2, hx3⟩
   refine s_end ?_
   refine f_then ?_
   refine c_reg ?_
   refine sq (rd_move rfl) rfl ?_
   refine sq (rd_move rfl) rfl ?_
   refine sq (rd_subn (j) (i) rfl rfl rfl rfl (by omega) (by omega)) rfl ?_
   refine sq (rd_assign rfl) rfl ?_
   refine s_end ?_
   refine f_blk ?_
   refine f_again ((i, j - i, x1)) (⟨by omega, by omega, by omega, by omega, hx1, Sort.permIn_trans _ _ _ _ _ hp (Sort.permIn_mono _ _ (m - i) (m + j - i + i) _ _ (by omega) (by omega) (by omega) hx2), fun t => (rot_two (by omega) (by omega) (by omega) hx3 t).trans (hv t)⟩) (by show i + (j - i) < i + j; omega) (by repeat constructor) (fun _ h => h.sb)
 ·have hij : i = j := by omega
  subst hij
  refine c_exit ?_
  refine f_then_x ?_
  refine f_then_x ?_
  refine f_blk_x ?_
  refine f_then ?_
  refine c_reg ?_
  refine sq (rd_move rfl) rfl ?_
  refine sq (rd_move rfl) rfl ?_
  refine sq (rd_move rfl) rfl ?_
  refine sq (rd_subn (m) (i) rfl rfl rfl rfl (by omega) (by omega)) rfl ?_
  refine sq (rd_move rfl) rfl ?_
  refine sq (rd_move rfl) rfl ?_
  refine sq (rd_move rfl) rfl ?_
  refine sx (ef_call rfl rfl K174 (fun _ e => by cases e; rfl) [.row _ _ A n cap _] _ (.refl _) _ _ _ (fun w hS => by exact c174 w A cap n dk g cmp hg hcmp hdk hn  (m - i) m i (by omega) (by omega) hS.own)) rfl ?_
  rintro x1 ⟨hx1, hx2, hx3⟩
  refine s_end ?_
  refine f_end rfl .nil ?_
  exact fun w' hS => ⟨_, rfl, x1, rfl, ⟨hx1, Sort.permIn_trans _ _ _ _ _ hp (Sort.permIn_mono _ _ (m - i) (m + i) _ _ (by omega) (by omega) (by omega) hx2), fun t => (rot_end (by omega) (by omega) hx3 t).trans (hv t)⟩, hS⟩

end Go.Proofs.YtfccnoccfhgcbaaGreatDoor
