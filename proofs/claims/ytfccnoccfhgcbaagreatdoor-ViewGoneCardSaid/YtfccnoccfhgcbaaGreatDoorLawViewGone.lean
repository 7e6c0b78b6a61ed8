/- The law ViewGone: it answers true, whatever the input; no conditions beyond those of the statement. -/
import Derived.Test.YtfccnoccfhgcbaaGreatDoorPkE
import Derived.Test.YtfccnoccfhgcbaaGreatDoorProg
import Derived.Test.YtfccnoccfhgcbaaGreatDoorCards
import Derived.Test.YtfccnoccfhgcbaaGreatDoorTie
set_option linter.unusedVariables false
set_option linter.unusedSimpArgs false
set_option maxRecDepth 20000
set_option maxHeartbeats 400000
namespace Go.Proofs.YtfccnoccfhgcbaaGreatDoor
open Go Go.RowKit

theorem int_ext : ∀ {l r : List Int}, l.Pairwise (· < ·) → r.Pairwise (· < ·) → (∀ y, y ∈ l ↔ y ∈ r) → l = r
 | [], [], _, _, _ => rfl
 | [], y :: r, _, _, h => absurd ((h y).2 (List.mem_cons_self ..)) (by simp)
 | x :: l, [], _, _, h => absurd ((h x).1 (List.mem_cons_self ..)) (by simp)
 | x :: l, y :: r, h1, h2, h => by
  have k1 := List.pairwise_cons.1 h1
  have k2 := List.pairwise_cons.1 h2
  have e : x = y := by
   rcases List.mem_cons.1 ((h x).1 (List.mem_cons_self ..)) with e | hx
   ·exact e
   ·rcases List.mem_cons.1 ((h y).2 (List.mem_cons_self ..)) with e | hy
    ·exact e.symm
    ·have := k2.1 x hx
     have := k1.1 y hy
     omega
  subst e
  congr 1
  refine int_ext k1.2 k2.2 fun z => ⟨fun hz => ?_, fun hz => ?_⟩
  ·rcases List.mem_cons.1 ((h z).1 (List.mem_cons_of_mem _ hz)) with e | h9
   ·subst e; have := k1.1 z hz; omega
   ·exact h9
  ·rcases List.mem_cons.1 ((h z).2 (List.mem_cons_of_mem _ hz)) with e | h9
   ·subst e; have := k2.1 z hz; omega
   ·exact h9
theorem rise_ids {rs : List RW} (h : Rise rs) : (rs.map (·.1)).Pairwise (· < ·) := List.pairwise_map.2 h
theorem idsL_left {rs : List RW} (h : Rise rs) : idsL rs [] = rs.map (·.1) := int_ext (idsL_ok rs []).1 (rise_ids h) fun y => by
 rw [(idsL_ok rs []).2, List.mem_map]
 simp
theorem idsL_right {rs : List RW} (h : Rise rs) : idsL [] rs = rs.map (·.1) := int_ext (idsL_ok [] rs).1 (rise_ids h) fun y => by
 rw [(idsL_ok [] rs).2, List.mem_map]
 simp
theorem has_mem {rs : List RW} {id : Int} (h : id ∈ rs.map (·.1)) : hasR rs id = true := by
 obtain ⟨r, hr, he⟩ := List.mem_map.1 h
 obtain ⟨s, hs⟩ := lk_in hr he
 rw [hasR_lk, hs]
 rfl
theorem gone_len {nf : Nat} {fl : Int} {rs : List RW} (h : Rise rs) : (writeB nf fl rs []).length = 33 * rs.length + 1 := by
 unfold writeB
 rw [idsL_left h, List.length_append]
 have key : ∀ l : List Int, (∀ id ∈ l, id ∈ rs.map (·.1)) → (entsB nf fl rs [] l).length = 33 * l.length := by
  intro l
  induction l with
  | nil => intro _; rfl
  | cons id l ih =>
   intro hl
   have h1 := has_mem (hl id (List.mem_cons_self ..))
   rw [entsB_cons, List.length_append, ih fun i hi => hl i (List.mem_cons_of_mem _ hi)]
   unfold entB
   rw [if_neg (by rw [h1]; intro h; cases h.1)]
   have h2 : hasR [] id = false := rfl
   rw [h2]
   simp [sbits_len]
   omega
 rw [key _ fun _ h => h]
 simp
theorem fields_ge (fl : Int) (was is : List Int) (k : Nat) : k ≤ (fieldsB fl was is k).length := by
 induction k with
 | zero => exact Nat.zero_le _
 | succ k ih =>
  rw [fieldsB_succ, List.length_append]
  unfold fieldB
  simp only [List.length_cons]
  omega
theorem new_len {nf : Nat} {fl : Int} {rs : List RW} (h : Rise rs) : (33 + nf) * rs.length + 1 ≤ (writeB nf fl [] rs).length := by
 unfold writeB
 rw [idsL_right h, List.length_append]
 have key : ∀ l : List Int, (∀ id ∈ l, id ∈ rs.map (·.1)) → (33 + nf) * l.length ≤ (entsB nf fl [] rs l).length := by
  intro l
  induction l with
  | nil => intro _; exact Nat.zero_le _
  | cons id l ih =>
   intro hl
   have h1 := has_mem (hl id (List.mem_cons_self ..))
   have h3 := ih fun i hi => hl i (List.mem_cons_of_mem _ hi)
   have h4 := fields_ge fl (fndR nf [] id) (fndR nf rs id) nf
   rw [entsB_cons, List.length_append, List.length_cons, Nat.mul_add]
   have h5 : 33 + nf ≤ (entB nf fl [] rs id).length := by
    unfold entB
    rw [if_neg (by rw [h1]; intro h; cases h.1), h1]
    simp [sbits_len]
    omega
   omega
 have := key _ fun _ h => h
 rw [List.length_map] at this
 simp
 omega
theorem deltaL_gone {ps : List PL} {ss : List SH} (h : rightS ps ss = true) : (deltaL ps ss [] []).length = (33 * (ps.length + ss.length) + 9) / 8 := by
 rw [deltaL_yes h (by decide), pack_len]
 unfold deltaB
 rw [List.length_append]
 have a1 := gone_len (nf := 14) (fl := 6) (right_pl h).rise
 have a2 := gone_len (nf := 10) (fl := 9) (right_sh h).rise
 simp only [List.map_nil, List.length_map] at *
 omega
theorem deltaL_new {ps : List PL} {ss : List SH} (h : rightS ps ss = true) : (2 + 47 * ps.length + 43 * ss.length + 7) / 8 ≤ (deltaL [] [] ps ss).length := by
 rw [deltaL_yes (by decide) h, pack_len]
 unfold deltaB
 rw [List.length_append]
 have a1 := new_len (nf := 14) (fl := 6) (right_pl h).rise
 have a2 := new_len (nf := 10) (fl := 9) (right_sh h).rise
 simp only [List.map_nil, List.length_map] at *
 omega
end Go.Proofs.YtfccnoccfhgcbaaGreatDoor
namespace Go.Proofs.YtfccnoccfhgcbaaGreatDoor
open Go Go.RowKit
theorem K14 : callTy Tryz.prog 14 := by unfold callTy; kernel_rfl
theorem K15 : callTy Tryz.prog 15 := by unfold callTy; kernel_rfl
theorem right0 : rightS [] [] = true := by decide

theorem c12 (w : World) (hG : Gl w none') (A1 B1 : Option Addr) (n1 m1 c1 d1 : Nat) (ps1 : List PL) (ss1 : List SH) (h1 : Sl w none' A1 n1 15 (flat PL.enc ps1)) (k1 : Sl w none' B1 m1 11 (flat SH.enc ss1)) (hc1 : n1 ≤ c1) (hd1 : m1 ≤ d1) (hS : St w (fpOf []) [] w) : Calls Tryz.prog 12 [.agg #[.slice A1 n1 c1, .slice B1 m1 d1]].toArray w (RtE fun v w' => ∃ x : Unit, v = (fun _ => .bool true) x ∧ (fun _ => True) x ∧ St w (fpOf []) ((fun _ => []) x) w') := by
 refine enter Tryz.func12 rfl Tryz.ntmps12 rfl hS ?_
 refine c_seq ?_
 refine c_reg ?_
 refine sx (ef_box rfl rfl rfl) rfl ?_
 rintro b1 hb1
 refine sq (rd_assign rfl) rfl ?_
 refine s_end ?_
 refine f_then ?_
 refine c_seq ?_
 refine c_reg ?_
 refine sx (ef_call rfl rfl K14 (fun _ e => by cases e; rfl) [] _ (.refl _) _ _ _ (fun w hS => by exact c14 w (hG.hand (Ec := []) hS) hS.own)) rfl ?_
 rintro _ _
 refine sq (rd_assign rfl) rfl ?_
 refine s_end ?_
 refine f_then ?_
 refine c_seq ?_
 refine c_reg ?_
 refine sq (rd_ldsb A25 rfl (by first | exact .head _) (by first | exact GetR.all _ | repeat constructor)) rfl ?_
 refine sx (ef_call rfl rfl K15 (fun _ e => by cases e; rfl) [] _ (.refl _) _ _ _ (fun w hS => by exact c15 w A1 B1 n1 m1 c1 d1 ps1 ss1 (h1.hand hS (by decide)) (k1.hand hS (by decide)) hc1 hd1 hS.own)) rfl ?_
 rintro ⟨X1, x1, Y1, y1⟩ _
 refine se (ef_stores A25 rfl rfl rfl (by repeat constructor) (by first | exact SetR.all rfl | repeat constructor) rfl) rfl ?_
 refine s_end ?_
 refine f_then ?_
 refine c_seq ?_
 refine c_seq ?_
 refine c_reg ?_
 refine sq (rd_ldsb A25 rfl (by repeat constructor) (by first | exact GetR.all _ | repeat constructor)) rfl ?_
 refine se (ef_pw rfl rfl K20 rfl (fun w hS => by exact c20 w X1 Y1 (min n1 12) (min m1 70) x1 y1 (ps1.take 12) (ss1.take 70) (hG.hand (Ec := []) hS) (Sl.ofRow' hS (by repeat constructor)) (Sl.ofRow' hS (by repeat constructor)) (by first | decide | (simp only [List.length_take]; omega) | omega) (by first | decide | (simp only [List.length_take]; omega) | omega))) rfl ?_
 refine sq ((by first | exact rd_notd rfl | exact rd_not rfl)) rfl ?_
 refine s_end ?_
 refine f_then ?_
 refine c_cond rfl (fun h17 => ?_) (fun h17 => ?_)
 ·refine c_seq ?_
  refine c_reg ?_
  refine sq (rd_move rfl) rfl ?_
  refine sq (rd_assign rfl) rfl ?_
  refine s_end ?_
  refine f_then ?_
  refine c_ret ?_
  refine f_then_r ?_
  refine f_ret rfl (.tmp rfl .nil) ?_
  refine fun w' hS => ⟨_, rfl, (), ?_, trivial, hS.sub (List.nil_sublist _)⟩
  simp
 ·have hr1 : rightS (ps1.take 12) (ss1.take 70) = true := by simpa using h17
  have q1 : (ps1.take 12).length = min n1 12 := by have := h1.len; rw [flat_len PL.enc_len] at this; rw [List.length_take]; omega
  have q2 : (ss1.take 70).length = min m1 70 := by have := k1.len; rw [flat_len SH.enc_len] at this; rw [List.length_take]; omega
  have z1 := deltaL_gone hr1
  have z2 := deltaL_new hr1
  rw [q1, q2] at z1 z2
  refine c_skip ?_
  refine f_then ?_
  refine c_seq ?_
  refine c_reg ?_
  refine sq (rd_ldsb A25 rfl (by repeat constructor) (by first | exact GetR.all _ | repeat constructor)) rfl ?_
  refine sq (rd_build St25 rfl (by repeat constructor)) rfl ?_
  refine sx (ef_call rfl rfl K23 (fun _ e => by cases e; rfl) [] _ (.refl _) _ _ _ (fun w hS => by exact c23 w X1 Y1 none none (min n1 12) (min m1 70) 0 0 x1 y1 0 0 (ps1.take 12) [] (ss1.take 70) [] (hG.hand (Ec := []) hS) (Sl.ofRow' hS (by repeat constructor)) (Sl.ofRow' hS (by repeat constructor)) (Sl.nil _ _ _ _) (Sl.nil _ _ _ _) (by first | decide | (simp only [List.length_take]; omega) | omega) (by first | decide | (simp only [List.length_take]; omega) | omega) (by first | decide | (simp only [List.length_take]; omega) | omega) (by first | decide | (simp only [List.length_take]; omega) | omega) hS.own)) rfl ?_
  rintro ⟨DA1, dc1⟩ _
  refine sq (rd_assign rfl) rfl ?_
  refine s_end ?_
  refine f_then ?_
  refine c_seq ?_
  refine c_reg ?_
  refine sq (rd_build St25 rfl (by repeat constructor)) rfl ?_
  refine sq (rd_ldsb A25 rfl (by repeat constructor) (by first | exact GetR.all _ | repeat constructor)) rfl ?_
  refine sx (ef_call rfl rfl K23 (fun _ e => by cases e; rfl) [] _ (.refl _) _ _ _ (fun w hS => by exact c23 w none none X1 Y1 0 0 (min n1 12) (min m1 70) 0 0 x1 y1 [] (ps1.take 12) [] (ss1.take 70) (hG.hand (Ec := []) hS) (Sl.nil _ _ _ _) (Sl.nil _ _ _ _) (Sl.ofRow' hS (by repeat constructor)) (Sl.ofRow' hS (by repeat constructor)) (by first | decide | (simp only [List.length_take]; omega) | omega) (by first | decide | (simp only [List.length_take]; omega) | omega) (by first | decide | (simp only [List.length_take]; omega) | omega) (by first | decide | (simp only [List.length_take]; omega) | omega) hS.own)) rfl ?_
  rintro ⟨DA2, dc2⟩ _
  refine sq (rd_assign rfl) rfl ?_
  refine s_end ?_
  refine f_then ?_
  refine c_seq ?_
  refine c_reg ?_
  refine sq (rd_ldsb A25 rfl (by repeat constructor) (by first | exact GetR.all _ | repeat constructor)) rfl ?_
  refine sq (rd_move rfl) rfl ?_
  refine sx (ef_call rfl rfl K25 (fun _ e => by cases e; rfl) [] _ (.refl _) _ _ _ (fun w hS => by exact c25 w X1 Y1 DA1 (min n1 12) (min m1 70) _ x1 y1 dc1 (ps1.take 12) (ss1.take 70) (deltaL (ps1.take 12) (ss1.take 70) [] []) (hG.hand (Ec := []) hS) (Sl.ofRow' hS (by repeat constructor)) (Sl.ofRow' hS (by repeat constructor)) (Sl.ofRow' hS (by repeat constructor)) deltaL_lt (by first | decide | (simp only [List.length_take]; omega) | omega) (by first | decide | (simp only [List.length_take]; omega) | omega) (by have := deltaL_le (ps1.take 12) [] (ss1.take 70) []; omega) hS.own)) rfl ?_
  rintro ⟨qs1, ts1, er1, PB1, pd1, QB1, qd1⟩ ha1
  obtain ⟨rfl, rfl, rfl⟩ := apply_delta hr1 right0 ha1
  refine sq (rd_move rfl) rfl ?_
  refine sq (rd_extract rfl rfl) rfl ?_
  refine sq (rd_extract rfl rfl) rfl ?_
  refine sx (ef_alloc Z25 rfl) rfl ?_
  rintro b6 hb6
  refine se (ef_stores A25 rfl rfl rfl (by repeat constructor) (by first | exact SetR.all rfl | repeat constructor) rfl) rfl ?_
  refine sq (rd_assign rfl) rfl ?_
  refine s_end ?_
  refine f_then ?_
  refine c_seq ?_
  refine c_reg ?_
  refine sq (rd_build St25 rfl (by repeat constructor)) rfl ?_
  refine sq (rd_move rfl) rfl ?_
  refine sx (ef_call rfl rfl K25 (fun _ e => by cases e; rfl) [] _ (.refl _) _ _ _ (fun w hS => by exact c25 w none none DA2 0 0 _ 0 0 dc2 [] [] (deltaL [] [] (ps1.take 12) (ss1.take 70)) (hG.hand (Ec := []) hS) (Sl.nil _ _ _ _) (Sl.nil _ _ _ _) (Sl.ofRow' hS (by repeat constructor)) deltaL_lt (by first | decide | (simp only [List.length_take]; omega) | omega) (by first | decide | (simp only [List.length_take]; omega) | omega) (by have := deltaL_le [] (ps1.take 12) [] (ss1.take 70); omega) hS.own)) rfl ?_
  rintro ⟨qs2, ts2, er2, PB2, pd2, QB2, qd2⟩ ha2
  obtain ⟨rfl, rfl, rfl⟩ := apply_delta right0 hr1 ha2
  refine sq (rd_move rfl) rfl ?_
  refine sq (rd_extract rfl rfl) rfl ?_
  refine sq (rd_extract rfl rfl) rfl ?_
  refine sx (ef_alloc Z25 rfl) rfl ?_
  rintro b8 hb8
  refine se (ef_stores A25 rfl rfl rfl (by repeat constructor) (by first | exact SetR.all rfl | repeat constructor) rfl) rfl ?_
  refine sq (rd_assign rfl) rfl ?_
  refine s_end ?_
  refine f_then ?_
  refine c_seq ?_
  refine c_reg ?_
  refine sq (rd_field F25_0 rfl) rfl ?_
  refine sq (rd_ldb C22 rfl (by repeat constructor) rfl) rfl ?_
  refine sq (rd_len S22 rfl rfl) rfl ?_
  refine sq (rd_field F25_1 rfl) rfl ?_
  refine sq (rd_ldb C23 rfl (by repeat constructor) rfl) rfl ?_
  refine sq (rd_len S23 rfl rfl) rfl ?_
  refine sq (rd_add rfl rfl (by first | exact wrap_i64 (by omega) | exact rfl)) rfl ?_
  refine sq (rd_assign rfl) rfl ?_
  refine s_end ?_
  refine f_then ?_
  refine c_seq ?_
  refine c_reg ?_
  refine sq (rd_field F25_0 rfl) rfl ?_
  refine sq (rd_ldb C22 rfl (by repeat constructor) rfl) rfl ?_
  refine sq (rd_len S22 rfl rfl) rfl ?_
  refine sq (rd_mul rfl rfl (by first | exact wrap_i64 (by omega) | exact rfl)) rfl ?_
  refine sq (rd_add rfl rfl (by first | exact wrap_i64 (by omega) | exact rfl)) rfl ?_
  refine sq (rd_field F25_1 rfl) rfl ?_
  refine sq (rd_ldb C23 rfl (by repeat constructor) rfl) rfl ?_
  refine sq (rd_len S23 rfl rfl) rfl ?_
  refine sq (rd_mul rfl rfl (by first | exact wrap_i64 (by omega) | exact rfl)) rfl ?_
  refine sq (rd_add rfl rfl (by first | exact wrap_i64 (by omega) | exact rfl)) rfl ?_
  refine sq (rd_assign rfl) rfl ?_
  refine s_end ?_
  refine f_then ?_
  refine c_seq ?_
  refine c_reg ?_
  refine sq (rd_move rfl) rfl ?_
  refine sq (rd_move rfl) rfl ?_
  refine s_split (d := 55) rfl (fun g55 => ?_) (fun g55 => ?_)
  ·try have g55p := of_decide_eq_true g55
   refine sg1 (fun a hA => wanted_yes hA rfl rfl rfl g55) (rd_move rfl) rfl ?_
   refine sg1 (fun a hA => wanted_yes hA rfl rfl rfl g55) (rd_len S37 rfl rfl) rfl ?_
   refine sg1 (fun a hA => wanted_yes hA rfl rfl rfl g55) (rd_move rfl) rfl ?_
   refine sg1 (fun a hA => wanted_yes hA rfl rfl rfl g55) (rd_mul rfl rfl (by first | exact wrap_i64 (by omega) | exact rfl)) rfl ?_
   refine sg1 (fun a hA => wanted_yes hA rfl rfl rfl g55) (rd_add rfl rfl (by first | exact wrap_i64 (by omega) | exact rfl)) rfl ?_
   refine sg1 (fun a hA => wanted_yes hA rfl rfl rfl g55) (rd_quo rfl rfl (by omega) (by first | exact quo_i64 (by omega) (by omega) (by omega) | exact rfl)) rfl ?_
   refine sg1 (fun a hA => wanted_yes hA rfl rfl rfl g55) (rd_eql rfl rfl) rfl ?_
   refine sq (rd_pick_tt rfl g55 rfl) rfl ?_
   refine sq (rd_move rfl) rfl ?_
   refine s_split (d := 64) rfl (fun g64 => ?_) (fun g64 => ?_)
   ·try have g64p := of_decide_eq_true g64
    refine sg1 (fun a hA => wanted_yes hA rfl rfl rfl g64) (rd_move rfl) rfl ?_
    refine sg1 (fun a hA => wanted_yes hA rfl rfl rfl g64) (rd_len S37 rfl rfl) rfl ?_
    refine sg1 (fun a hA => wanted_yes hA rfl rfl rfl g64) (rd_move rfl) rfl ?_
    refine sg1 (fun a hA => wanted_yes hA rfl rfl rfl g64) (rd_add rfl rfl (by first | exact wrap_i64 (by omega) | exact rfl)) rfl ?_
    refine sg1 (fun a hA => wanted_yes hA rfl rfl rfl g64) (rd_quo rfl rfl (by omega) (by first | exact quo_i64 (by omega) (by omega) (by omega) | exact rfl)) rfl ?_
    refine sg1 (fun a hA => wanted_yes hA rfl rfl rfl g64) (rd_geq rfl rfl) rfl ?_
    refine sq (rd_pick_tt rfl g64 rfl) rfl ?_
    refine sq (rd_move rfl) rfl ?_
    refine s_split (d := 72) rfl (fun g72 => ?_) (fun g72 => ?_)
    ·try have g72p := of_decide_eq_true g72
     refine sg1 (fun a hA => wanted_yes hA rfl rfl rfl g72) (rd_move rfl) rfl ?_
     refine sg1 (fun a hA => wanted_yes hA rfl rfl rfl g72) (rd_eql rfl rfl) rfl ?_
     refine sq (rd_pick_tt rfl g72 rfl) rfl ?_
     refine sq (rd_move rfl) rfl ?_
     refine s_split (d := 76) rfl (fun g76 => ?_) (fun g76 => ?_)
     ·try have g76p := of_decide_eq_true g76
      refine sg1 (fun a hA => wanted_yes hA rfl rfl rfl g76) (rd_move rfl) rfl ?_
      refine sg1 (fun a hA => wanted_yes hA rfl rfl rfl g76) (rd_eql rfl rfl) rfl ?_
      refine sq (rd_pick_tt rfl g76 rfl) rfl ?_
      refine sq (rd_move rfl) rfl ?_
      refine s_split (d := 80) rfl (fun g80 => ?_) (fun g80 => ?_)
      ·try have g80p := of_decide_eq_true g80
       refine sg1 (fun a hA => wanted_yes hA rfl rfl rfl g80) (rd_ldsb A25 rfl (by repeat constructor) (by first | exact GetR.all _ | repeat constructor)) rfl ?_
       refine sg1 (fun a hA => wanted_yes hA rfl rfl rfl g80) (rd_build St25 rfl (by repeat constructor)) rfl ?_
       refine seg (fun a hA => wanted_yes hA rfl rfl rfl g80) (ef_pw rfl rfl K22 rfl (fun w hS => by exact c22 w PB1 QB1 none none _ _ 0 0 pd1 qd1 0 0 [] [] [] [] (Sl.ofRow' hS (by repeat constructor)) (Sl.ofRow' hS (by repeat constructor)) (Sl.nil _ _ _ _) (Sl.nil _ _ _ _))) ?_
       refine sq (rd_pick_tt rfl g80 rfl) rfl ?_
       refine sq (rd_move rfl) rfl ?_
       refine s_split (d := 85) rfl (fun g85 => ?_) (fun g85 => ?_)
       ·try have g85p := of_decide_eq_true g85
        refine sg1 (fun a hA => wanted_yes hA rfl rfl rfl g85) (rd_ldsb A25 rfl (by repeat constructor) (by first | exact GetR.all _ | repeat constructor)) rfl ?_
        refine sg1 (fun a hA => wanted_yes hA rfl rfl rfl g85) (rd_ldsb A25 rfl (by repeat constructor) (by first | exact GetR.all _ | repeat constructor)) rfl ?_
        refine seg (fun a hA => wanted_yes hA rfl rfl rfl g85) (ef_pw rfl rfl K22 rfl (fun w hS => by exact c22 w PB2 QB2 X1 Y1 _ _ (min n1 12) (min m1 70) pd2 qd2 x1 y1 (ps1.take 12) (ps1.take 12) (ss1.take 70) (ss1.take 70) (Sl.ofRow' hS (by repeat constructor)) (Sl.ofRow' hS (by repeat constructor)) (Sl.ofRow' hS (by repeat constructor)) (Sl.ofRow' hS (by repeat constructor)))) ?_
        refine sq (rd_pick_tt rfl g85 rfl) rfl ?_
        refine sq (rd_assign rfl) rfl ?_
        refine s_end ?_
        refine f_then ?_
        refine c_ret ?_
        refine f_ret rfl (.tmp rfl .nil) ?_
        refine fun w' hS => ⟨_, rfl, (), ?_, trivial, hS.sub (List.nil_sublist _)⟩
        simp
       ·exact absurd g85 (by simp)
      ·exact absurd g80 (by simp)
     ·exact absurd g76 (by simp)
    ·exact absurd (of_decide_eq_false g72) (by omega)
   ·exact absurd (of_decide_eq_false g64) (by omega)
  ·exact absurd g55 (by simp)

end Go.Proofs.YtfccnoccfhgcbaaGreatDoor
namespace Go.Proofs.YtfccnoccfhgcbaaGreatDoor.viewGone
open Go Go.RowKit Go.ChangeShapes Go.WideShapes
theorem below {W W' : World} (h : St W none' [] W') : Below W.heap.size W W' := ⟨h.os, h.tape, h.output, h.size, fun k hk => h.base k hk (none'_no k)⟩
set_option maxRecDepth 100000 in
theorem lifted (os : Os) (started : os.Started) (H : Type) (enc : TypeId × Value → H) :
  ReturnsInHanded {} Tryz.checked os 12 .any (fun w args => (Rows.viewGoneSpec.pre enc Tryz.prog Tryz.f12 [] false w args ∧ laidMetH Tryz.prog laid2 w) ∧ sizedMet enc Tryz.prog Tryz.f12 (OpenSpec.ofChange Rows.viewGoneSpec) false w args)
   (Rows.viewGoneSpec.post enc Tryz.prog Tryz.f12 false true false false) := by
 refine returnsInHanded_of_change_and (C := Tryz.checked) (X := fun w _ => laidMetH Tryz.prog laid2 w) (fun _ _ _ hh h => h.of_heap hh) own started (by kernel_rfl) Tryz.func12
  (ChangeSpec.witness_shaped (enc := enc) (C := Tryz.checked) (os := os) (X := fun w _ => laidMetH Tryz.prog laid2 w) false (World.doorLaid Tryz.prog 400 os) #[.agg #[.slice none 0 0, .slice none 0 0]] 8 rfl (World.shaped_of_RefB (by kernel_rfl) (by kernel_rfl)) (by kernel_rfl) (by kernel_rfl) (by kernel_rfl) (door_met os _)) ?_
 intro W base args ds gs before hval0 hW _ _ hL _
 have hval : ∀ (j : Nat) t v, Tryz.f12.params[j]? = some t → args[j]? = some v → Value.okWide Tryz.prog W .any base t v := hval0
 have hW' := hW
 obtain ⟨p, q, hA0, hV, rfl, hfz, hnd⟩ := hW
 have hA : DataW.TrodAll enc Tryz.prog W 0 (fun _ => true) true Tryz.f12.params.toList args.toList ds p := hA0
 rw [Tryz.params12] at hA hval
 obtain ⟨v0, vs0, d0, ds0, p0, q0, hargs, rfl, rfl, t0, r0⟩ := trodAll_cons hA
 obtain ⟨rfl, rfl, rfl⟩ := trodAll_nil r0
 obtain rfl : args = #[v0] := by cases args; simp_all
 obtain ⟨rfl, rfl⟩ := trodVars_none hV
 have hG := gl_of_laid hL
 have kk0 := t0
 have lt0 : ∀ x ∈ p0, x.block < W.heap.size := by obtain ⟨m, hm⟩ := kk0; exact DataW.trod_lt m _ _ _ hm
 obtain ⟨A0, B0, n0, m0, c0, e0, ps0, ss0, rfl, h0, k0, hc0, he0, ok0, os0⟩ := rd_state t0 (okWide_struct Tryz.underlying25 (hval 0 25 v0 rfl rfl))
 refine Calls.mono (c12 W hG A0 B0 n0 m0 c0 e0 ps0 ss0 h0 k0 hc0 he0 (St.start W _)) fun e W' h => ?_
 obtain ⟨v, rfl, x, rfl, _, hS⟩ := h
 have bel := below hS
 exact ⟨_, rfl, _, _, _, [], _, [], hW', trodAll_mk1 (shut_bool Tryz.underlying4 _), (trodAll_cons_mk (Below.trod laidOut (by kernel_rfl) (of_decide_eq_true (by kernel_rfl)) kk0 bel lt0) trodAll_mk0), rfl, bel.frame _, fun h => by cases h⟩
theorem over : Rows.ViewGoneSaid :=
 OpenClaim.holds_of_wide 12 Tryz.f12 rfl rfl rfl rfl rfl rfl rfl ⟨rfl, rfl, rfl, rfl, rfl⟩ rfl rfl rfl rfl rfl (by kernel_rfl) Tryz.func12 (by kernel_rfl)
  (of_decide_eq_true (by kernel_rfl)) (by unfold Func.isWrapper; first | (rw [if_pos (by decide +kernel)]; kernel_rfl) | (rw [if_neg (by decide +kernel)]; exact ⟨rfl, rfl⟩))
  (fun os started H enc _ => lifted os started H enc)
end Go.Proofs.YtfccnoccfhgcbaaGreatDoor.viewGone
namespace Go.Proofs.YtfccnoccfhgcbaaGreatDoor
/-- The card. -/
theorem viewGone_card : Rows.ViewGoneCardSaid :=
 Claim7.holds_tied_plain_at .later [] [.wider, .wider] true (true, "4eaa47956d02c688950758280d0594a06d21b47fca31964564c4137525720bfd") false
  viewGone.over (fun _ h => by cases h) (by kernel_rfl) (fun _ h => by cases h) viewGone_row_tie rfl ⟨rfl, rfl⟩ (by kernel_rfl) rfl
  (fun f fn hf hfn => by
   obtain rfl : f = 12 := Option.some.inj ((show Tryz.prog.funcNamed "embrasure/embrasurelaw18.ViewGone" = some 12 by kernel_rfl).symm.trans hf) |>.symm
   obtain rfl : fn = Tryz.f12 := (Option.some.inj (Tryz.func12.symm.trans hfn)).symm
   exact ⟨by kernel_rfl, fun j t ht => by
    rw [Tryz.params12] at ht
    have hm : t ∈ [25] := by simpa using Array.mem_of_getElem? ht
    have hall : ([25].all fun u => !Tryz.prog.wantsStandIn u) = true := by kernel_rfl
    exact (show Tryz.prog.wantsStandIn t = false by simpa using List.all_eq_true.1 hall t hm)⟩)
  (by kernel_rfl)
#print axioms viewGone_card
end Go.Proofs.YtfccnoccfhgcbaaGreatDoor
