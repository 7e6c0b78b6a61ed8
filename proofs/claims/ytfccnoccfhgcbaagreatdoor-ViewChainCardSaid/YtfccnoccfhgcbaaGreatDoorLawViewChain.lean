/- The law ViewChain: it answers true, whatever the input; no conditions beyond those of the statement. -/
import Derived.Test.YtfccnoccfhgcbaaGreatDoorPkE
import Derived.Test.YtfccnoccfhgcbaaGreatDoorProg
import Derived.Test.YtfccnoccfhgcbaaGreatDoorCards
import Derived.Test.YtfccnoccfhgcbaaGreatDoorTie
set_option linter.unusedVariables false
set_option linter.unusedSimpArgs false
set_option maxRecDepth 20000
set_option maxHeartbeats 400000
namespace Go.Proofs.YtfccnoccfhgcbaaGreatDoor
open Go Go.RowKit
theorem K14 : callTy Tryz.prog 14 := by unfold callTy; kernel_rfl
theorem K15 : callTy Tryz.prog 15 := by unfold callTy; kernel_rfl
theorem c9 (w : World) (hG : Gl w none') (A1 B1 : Option Addr) (n1 m1 c1 d1 : Nat) (ps1 : List PL) (ss1 : List SH) (h1 : Sl w none' A1 n1 15 (flat PL.enc ps1)) (k1 : Sl w none' B1 m1 11 (flat SH.enc ss1)) (hc1 : n1 ≤ c1) (hd1 : m1 ≤ d1) (A2 B2 : Option Addr) (n2 m2 c2 d2 : Nat) (ps2 : List PL) (ss2 : List SH) (h2 : Sl w none' A2 n2 15 (flat PL.enc ps2)) (k2 : Sl w none' B2 m2 11 (flat SH.enc ss2)) (hc2 : n2 ≤ c2) (hd2 : m2 ≤ d2) (A3 B3 : Option Addr) (n3 m3 c3 d3 : Nat) (ps3 : List PL) (ss3 : List SH) (h3 : Sl w none' A3 n3 15 (flat PL.enc ps3)) (k3 : Sl w none' B3 m3 11 (flat SH.enc ss3)) (hc3 : n3 ≤ c3) (hd3 : m3 ≤ d3) (hS : St w (fpOf []) [] w) : Calls Tryz.prog 9 [.agg #[.slice A1 n1 c1, .slice B1 m1 d1], .agg #[.slice A2 n2 c2, .slice B2 m2 d2], .agg #[.slice A3 n3 c3, .slice B3 m3 d3]].toArray w (RtE fun v w' => ∃ x : Unit, v = (fun _ => .bool true) x ∧ (fun _ => True) x ∧ St w (fpOf []) ((fun _ => []) x) w') := by
 refine enter Tryz.func9 rfl Tryz.ntmps9 rfl hS ?_
 refine c_seq ?_
 refine c_reg ?_
 refine sx (ef_box rfl rfl rfl) rfl ?_
 rintro b3 hb3
 refine sx (ef_box rfl rfl rfl) rfl ?_
 rintro b4 hb4
 refine sx (ef_box rfl rfl rfl) rfl ?_
 rintro b5 hb5
 refine sq (rd_assign rfl) rfl ?_
 refine s_end ?_
 refine f_then ?_
 refine c_seq ?_
 refine c_reg ?_
 refine sx (ef_call rfl rfl K14 (fun _ e => by cases e; rfl) [] _ (.refl _) _ _ _ (fun w hS => by exact c14 w (hG.hand (Ec := []) hS) hS.own)) rfl ?_
 rintro _ _
 refine sq (rd_assign rfl) rfl ?_
 refine s_end ?_
 refine f_then ?_
 refine c_seq ?_
 refine c_reg ?_
 refine sq (rd_ldsb A25 rfl (by repeat constructor) (by first | exact GetR.all _ | repeat constructor)) rfl ?_
 refine sx (ef_call rfl rfl K15 (fun _ e => by cases e; rfl) [] _ (.refl _) _ _ _ (fun w hS => by exact c15 w A1 B1 n1 m1 c1 d1 ps1 ss1 (h1.hand hS (by decide)) (k1.hand hS (by decide)) hc1 hd1 hS.own)) rfl ?_
 rintro ⟨X1, x1, Y1, y1⟩ _
 refine se (ef_stores A25 rfl rfl rfl (by repeat constructor) (by first | exact SetR.all rfl | repeat constructor) rfl) rfl ?_
 refine s_end ?_
 refine f_then ?_
 refine c_seq ?_
 refine c_reg ?_
 refine sq (rd_ldsb A25 rfl (by repeat constructor) (by first | exact GetR.all _ | repeat constructor)) rfl ?_
 refine sx (ef_call rfl rfl K15 (fun _ e => by cases e; rfl) [] _ (.refl _) _ _ _ (fun w hS => by exact c15 w A2 B2 n2 m2 c2 d2 ps2 ss2 (h2.hand hS (by decide)) (k2.hand hS (by decide)) hc2 hd2 hS.own)) rfl ?_
 rintro ⟨X2, x2, Y2, y2⟩ _
 refine se (ef_stores A25 rfl rfl rfl (by repeat constructor) (by first | exact SetR.all rfl | repeat constructor) rfl) rfl ?_
 refine s_end ?_
 refine f_then ?_
 refine c_seq ?_
 refine c_reg ?_
 refine sq (rd_ldsb A25 rfl (by repeat constructor) (by first | exact GetR.all _ | repeat constructor)) rfl ?_
 refine sx (ef_call rfl rfl K15 (fun _ e => by cases e; rfl) [] _ (.refl _) _ _ _ (fun w hS => by exact c15 w A3 B3 n3 m3 c3 d3 ps3 ss3 (h3.hand hS (by decide)) (k3.hand hS (by decide)) hc3 hd3 hS.own)) rfl ?_
 rintro ⟨X3, x3, Y3, y3⟩ _
 refine se (ef_stores A25 rfl rfl rfl (by repeat constructor) (by first | exact SetR.all rfl | repeat constructor) rfl) rfl ?_
 refine s_end ?_
 refine f_then ?_
 refine c_seq ?_
 refine c_seq ?_
 refine c_reg ?_
 refine sq (rd_ldsb A25 rfl (by repeat constructor) (by first | exact GetR.all _ | repeat constructor)) rfl ?_
 refine se (ef_pw rfl rfl K20 rfl (fun w hS => by exact c20 w X1 Y1 (min n1 12) (min m1 70) x1 y1 (ps1.take 12) (ss1.take 70) (hG.hand (Ec := []) hS) (Sl.ofRow' hS (by repeat constructor)) (Sl.ofRow' hS (by repeat constructor)) (by first | decide | (simp only [List.length_take]; omega) | omega) (by first | decide | (simp only [List.length_take]; omega) | omega))) rfl ?_
 refine sq ((by first | exact rd_notd rfl | exact rd_not rfl)) rfl ?_
 refine sq (rd_move rfl) rfl ?_
 refine s_split (d := 24) rfl (fun g24 => ?_) (fun g24 => ?_)
 ·try have g24p := of_decide_eq_true g24
  refine sg0 (fun a hA => wanted_no hA rfl rfl rfl g24 rfl) rfl ?_
  refine sg0 (fun a hA => wanted_no hA rfl rfl rfl g24 rfl) rfl ?_
  refine sg0 (fun a hA => wanted_no hA rfl rfl rfl g24 rfl) rfl ?_
  refine sq (rd_pick_tt rfl g24 rfl) rfl ?_
  refine sq (rd_move rfl) rfl ?_
  refine sg0 (fun a hA => wanted_no hA rfl rfl rfl (Eq.refl _) rfl) rfl ?_
  refine sg0 (fun a hA => wanted_no hA rfl rfl rfl (Eq.refl _) rfl) rfl ?_
  refine sg0 (fun a hA => wanted_no hA rfl rfl rfl (Eq.refl _) rfl) rfl ?_
  refine sq (rd_pick_t rfl rfl) rfl ?_
  refine s_end ?_
  refine f_then ?_
  refine c_lit_t rfl ?_
  refine c_seq ?_
  refine c_reg ?_
  refine sq (rd_move rfl) rfl ?_
  refine sq (rd_assign rfl) rfl ?_
  refine s_end ?_
  refine f_then ?_
  refine c_ret ?_
  refine f_then_r ?_
  refine f_ret rfl (.tmp rfl .nil) ?_
  refine fun w' hS => ⟨_, rfl, (), ?_, trivial, hS.sub (List.nil_sublist _)⟩
  simp
 ·have hr1 : rightS (ps1.take 12) (ss1.take 70) = true := by simpa using g24
  try have g24p := of_decide_eq_false g24
  refine sg1 (fun a hA => wanted_yes hA rfl rfl rfl g24) (rd_ldsb A25 rfl (by repeat constructor) (by first | exact GetR.all _ | repeat constructor)) rfl ?_
  refine seg (fun a hA => wanted_yes hA rfl rfl rfl g24) (ef_pw rfl rfl K20 rfl (fun w hS => by exact c20 w X2 Y2 (min n2 12) (min m2 70) x2 y2 (ps2.take 12) (ss2.take 70) (hG.hand (Ec := []) hS) (Sl.ofRow' hS (by repeat constructor)) (Sl.ofRow' hS (by repeat constructor)) (by first | decide | (simp only [List.length_take]; omega) | omega) (by first | decide | (simp only [List.length_take]; omega) | omega))) ?_
  refine sg1 (fun a hA => wanted_yes hA rfl rfl rfl g24) ((by first | exact rd_notd rfl | exact rd_not rfl)) rfl ?_
  refine sq (rd_pick_ff rfl g24 rfl) rfl ?_
  refine sq (rd_move rfl) rfl ?_
  refine s_split (d := 29) rfl (fun g29 => ?_) (fun g29 => ?_)
  ·try have g29p := of_decide_eq_true g29
   refine sg0 (fun a hA => wanted_no hA rfl rfl rfl g29 rfl) rfl ?_
   refine sg0 (fun a hA => wanted_no hA rfl rfl rfl g29 rfl) rfl ?_
   refine sg0 (fun a hA => wanted_no hA rfl rfl rfl g29 rfl) rfl ?_
   refine sq (rd_pick_tt rfl g29 rfl) rfl ?_
   refine s_end ?_
   refine f_then ?_
   refine c_lit_t rfl ?_
   refine c_seq ?_
   refine c_reg ?_
   refine sq (rd_move rfl) rfl ?_
   refine sq (rd_assign rfl) rfl ?_
   refine s_end ?_
   refine f_then ?_
   refine c_ret ?_
   refine f_then_r ?_
   refine f_ret rfl (.tmp rfl .nil) ?_
   refine fun w' hS => ⟨_, rfl, (), ?_, trivial, hS.sub (List.nil_sublist _)⟩
   simp
  ·have hr2 : rightS (ps2.take 12) (ss2.take 70) = true := by simpa using g29
   try have g29p := of_decide_eq_false g29
   refine sg1 (fun a hA => wanted_yes hA rfl rfl rfl g29) (rd_ldsb A25 rfl (by repeat constructor) (by first | exact GetR.all _ | repeat constructor)) rfl ?_
   refine seg (fun a hA => wanted_yes hA rfl rfl rfl g29) (ef_pw rfl rfl K20 rfl (fun w hS => by exact c20 w X3 Y3 (min n3 12) (min m3 70) x3 y3 (ps3.take 12) (ss3.take 70) (hG.hand (Ec := []) hS) (Sl.ofRow' hS (by repeat constructor)) (Sl.ofRow' hS (by repeat constructor)) (by first | decide | (simp only [List.length_take]; omega) | omega) (by first | decide | (simp only [List.length_take]; omega) | omega))) ?_
   refine sg1 (fun a hA => wanted_yes hA rfl rfl rfl g29) ((by first | exact rd_notd rfl | exact rd_not rfl)) rfl ?_
   refine sq (rd_pick_ff rfl g29 rfl) rfl ?_
   refine s_end ?_
   refine f_then ?_
   refine c_cond rfl (fun h33 => ?_) (fun h33 => ?_)
   ·refine c_seq ?_
    refine c_reg ?_
    refine sq (rd_move rfl) rfl ?_
    refine sq (rd_assign rfl) rfl ?_
    refine s_end ?_
    refine f_then ?_
    refine c_ret ?_
    refine f_then_r ?_
    refine f_ret rfl (.tmp rfl .nil) ?_
    refine fun w' hS => ⟨_, rfl, (), ?_, trivial, hS.sub (List.nil_sublist _)⟩
    simp
   ·have hr3 : rightS (ps3.take 12) (ss3.take 70) = true := by simpa using h33
    refine c_skip ?_
    refine f_then ?_
    refine c_meet2 (α := Nat × Option Addr × Nat × Option Addr × Nat) (fun ⟨b8, PB1, pd1, QB1, qd1⟩ => True) (fun ⟨b8, PB1, pd1, QB1, qd1⟩ => [.blk b8 [.slice PB1 ((ps2.take 12)).length pd1, .slice QB1 ((ss2.take 70)).length qd1] 25, .row 51 15 PB1 ((ps2.take 12)).length pd1 (flat PL.enc ((ps2.take 12))), .row 54 11 QB1 ((ss2.take 70)).length qd1 (flat SH.enc ((ss2.take 70)))]) [.row _ _ X3 _ x3 _, .row _ _ Y3 _ y3 _, .row _ _ X2 _ x2 _, .row _ _ Y2 _ y2 _, .row _ _ X1 _ x1 _, .row _ _ Y1 _ y1 _, .blk b5 _ _, .blk b4 _ _, .blk b3 _ _] (fun ⟨b8, PB1, pd1, QB1, qd1⟩ => [(8, .pointer (some ⟨b8, 0, none⟩)), (9, .int .i64 0)]) [(3, _), (4, _), (5, _), (6, _), (7, _)] (by repeat constructor) [] (fun _ h => h) ?_ ?_
    ·refine c_regd [.row _ _ X3 _ x3 _, .row _ _ Y3 _ y3 _, .row _ _ X2 _ x2 _, .row _ _ Y2 _ y2 _, .row _ _ X1 _ x1 _, .row _ _ Y1 _ y1 _, .blk b5 _ _, .blk b4 _ _, .blk b3 _ _] (.q 0 (.q 1 (.q 2 (.alt 3 (.alt 4 (.q 5 (.q 6 (.q 7 (.alt 8 (.alt 9 (.q 10 .done) .stop) .stop)))) (.alt 8 (.alt 4 (.q 5 (.q 6 (.q 7 (.alt 9 (.q 10 .done) .stop)))) .stop) .stop)) (.alt 8 (.alt 3 (.alt 4 (.q 5 (.q 6 (.q 7 (.alt 9 (.q 10 .done) .stop)))) .stop) .stop) .stop))))) (by kernel_rfl) (by kernel_rfl) (by kernel_rfl) (by kernel_rfl) (fun _ h => h.sb) ?_
     refine dq rfl (rd_ldsb A25 rfl (by repeat constructor) (by first | exact GetR.all _ | repeat constructor)) rfl ?_
     refine dq rfl (rd_ldsb A25 rfl (by repeat constructor) (by first | exact GetR.all _ | repeat constructor)) rfl ?_
     refine dq rfl (rd_ldsb A25 rfl (by repeat constructor) (by first | exact GetR.all _ | repeat constructor)) rfl ?_
     refine dx rfl rfl (ef_call rfl rfl K23 (fun _ e => by cases e; rfl) [] _ (.refl _) _ _ _ (fun w hS => by exact c23 w X1 Y1 X2 Y2 (min n1 12) (min m1 70) (min n2 12) (min m2 70) x1 y1 x2 y2 (ps1.take 12) (ps2.take 12) (ss1.take 70) (ss2.take 70) (hG.hand (Ec := []) hS) (Sl.ofRow' hS (by repeat constructor)) (Sl.ofRow' hS (by repeat constructor)) (Sl.ofRow' hS (by repeat constructor)) (Sl.ofRow' hS (by repeat constructor)) (by first | decide | (simp only [List.length_take]; omega) | omega) (by first | decide | (simp only [List.length_take]; omega) | omega) (by first | decide | (simp only [List.length_take]; omega) | omega) (by first | decide | (simp only [List.length_take]; omega) | omega) hS.own)) (fun _ _ _ h => h.sb) ?_ ?_
     ·rintro ⟨DA1, dc1⟩ _
      refine dx rfl rfl (ef_call rfl rfl K25 (fun _ e => by cases e; rfl) [] _ (.refl _) _ _ _ (fun w hS => by exact c25 w X1 Y1 DA1 (min n1 12) (min m1 70) _ x1 y1 dc1 (ps1.take 12) (ss1.take 70) (deltaL (ps1.take 12) (ss1.take 70) (ps2.take 12) (ss2.take 70)) (hG.hand (Ec := []) hS) (Sl.ofRow' hS (by repeat constructor)) (Sl.ofRow' hS (by repeat constructor)) (Sl.ofRow' hS (by repeat constructor)) deltaL_lt (by first | decide | (simp only [List.length_take]; omega) | omega) (by first | decide | (simp only [List.length_take]; omega) | omega) (by have := deltaL_le (ps1.take 12) (ps2.take 12) (ss1.take 70) (ss2.take 70); omega) hS.own)) (fun _ _ _ h => h.sb) ?_ ?_
      ·rintro ⟨qs1, ts1, er1, PB1, pd1, QB1, qd1⟩ ha1
       obtain ⟨rfl, rfl, rfl⟩ := apply_delta hr1 hr2 ha1
       refine dq rfl (rd_move rfl) rfl ?_
       refine dq rfl (rd_extract rfl rfl) rfl ?_
       refine dq rfl (rd_extract rfl rfl) rfl ?_
       refine dx rfl rfl (ef_alloc Z25 rfl) (fun _ _ _ h => h.sb) ?_ d_stop
       rintro b8 hb8
       refine de rfl rfl (ef_stores A25 rfl rfl rfl (by repeat constructor) (by first | exact SetR.all rfl | repeat constructor) rfl) (fun _ h => h.sb) ?_ d_stop
       refine dq rfl (rd_assign rfl) rfl ?_
       refine d_end ?_
       refine f_front (.blk b3 _ _) (by repeat constructor) ?_
       refine f_front (.blk b4 _ _) (by repeat constructor) ?_
       refine f_front (.blk b5 _ _) (by repeat constructor) ?_
       refine f_front (.row _ _ Y1 _ y1 _) (by repeat constructor) ?_
       refine f_front (.row _ _ X1 _ x1 _) (by repeat constructor) ?_
       refine f_front (.row _ _ Y2 _ y2 _) (by repeat constructor) ?_
       refine f_front (.row _ _ X2 _ x2 _) (by repeat constructor) ?_
       refine f_front (.row _ _ Y3 _ y3 _) (by repeat constructor) ?_
       refine f_front (.row _ _ X3 _ x3 _) (by repeat constructor) ?_
       refine f_front (.row _ _ QB1 _ qd1 _) (by repeat constructor) ?_
       refine f_front (.row _ _ PB1 _ pd1 _) (by repeat constructor) ?_
       refine f_front (.blk b8 _ _) (by repeat constructor) ?_
       refine f_cut ((b8, PB1, pd1, QB1, qd1)) (trivial) (by repeat constructor) (fun _ h => h.sb)
      refine dx rfl rfl (ef_alloc Z25 rfl) (fun _ _ _ h => h.sb) ?_ ?_
      ·rintro b8_1 hb8_1
       refine dx rfl rfl (ef_call rfl rfl K25 (fun _ e => by cases e; rfl) [] _ (.refl _) _ _ _ (fun w hS => by exact c25 w X1 Y1 DA1 (min n1 12) (min m1 70) _ x1 y1 dc1 (ps1.take 12) (ss1.take 70) (deltaL (ps1.take 12) (ss1.take 70) (ps2.take 12) (ss2.take 70)) (hG.hand (Ec := []) hS) (Sl.ofRow' hS (by repeat constructor)) (Sl.ofRow' hS (by repeat constructor)) (Sl.ofRow' hS (by repeat constructor)) deltaL_lt (by first | decide | (simp only [List.length_take]; omega) | omega) (by first | decide | (simp only [List.length_take]; omega) | omega) (by have := deltaL_le (ps1.take 12) (ps2.take 12) (ss1.take 70) (ss2.take 70); omega) hS.own)) (fun _ _ _ h => h.sb) ?_ d_stop
       rintro ⟨qs1, ts1, er1, PB1, pd1, QB1, qd1⟩ ha1
       obtain ⟨rfl, rfl, rfl⟩ := apply_delta hr1 hr2 ha1
       refine dq rfl (rd_move rfl) rfl ?_
       refine dq rfl (rd_extract rfl rfl) rfl ?_
       refine dq rfl (rd_extract rfl rfl) rfl ?_
       refine de rfl rfl (ef_stores A25 rfl rfl rfl (by repeat constructor) (by first | exact SetR.all rfl | repeat constructor) rfl) (fun _ h => h.sb) ?_ d_stop
       refine dq rfl (rd_assign rfl) rfl ?_
       refine d_end ?_
       refine f_front (.blk b3 _ _) (by repeat constructor) ?_
       refine f_front (.blk b4 _ _) (by repeat constructor) ?_
       refine f_front (.blk b5 _ _) (by repeat constructor) ?_
       refine f_front (.row _ _ Y1 _ y1 _) (by repeat constructor) ?_
       refine f_front (.row _ _ X1 _ x1 _) (by repeat constructor) ?_
       refine f_front (.row _ _ Y2 _ y2 _) (by repeat constructor) ?_
       refine f_front (.row _ _ X2 _ x2 _) (by repeat constructor) ?_
       refine f_front (.row _ _ Y3 _ y3 _) (by repeat constructor) ?_
       refine f_front (.row _ _ X3 _ x3 _) (by repeat constructor) ?_
       refine f_front (.row _ _ QB1 _ qd1 _) (by repeat constructor) ?_
       refine f_front (.row _ _ PB1 _ pd1 _) (by repeat constructor) ?_
       refine f_front (.blk b8_1 _ _) (by repeat constructor) ?_
       refine f_cut ((b8_1, PB1, pd1, QB1, qd1)) (trivial) (by repeat constructor) (fun _ h => h.sb)
      exact d_stop
     refine dx rfl rfl (ef_alloc Z25 rfl) (fun _ _ _ h => h.sb) ?_ ?_
     ·rintro b8_2 hb8_2
      refine dx rfl rfl (ef_call rfl rfl K23 (fun _ e => by cases e; rfl) [] _ (.refl _) _ _ _ (fun w hS => by exact c23 w X1 Y1 X2 Y2 (min n1 12) (min m1 70) (min n2 12) (min m2 70) x1 y1 x2 y2 (ps1.take 12) (ps2.take 12) (ss1.take 70) (ss2.take 70) (hG.hand (Ec := []) hS) (Sl.ofRow' hS (by repeat constructor)) (Sl.ofRow' hS (by repeat constructor)) (Sl.ofRow' hS (by repeat constructor)) (Sl.ofRow' hS (by repeat constructor)) (by first | decide | (simp only [List.length_take]; omega) | omega) (by first | decide | (simp only [List.length_take]; omega) | omega) (by first | decide | (simp only [List.length_take]; omega) | omega) (by first | decide | (simp only [List.length_take]; omega) | omega) hS.own)) (fun _ _ _ h => h.sb) ?_ d_stop
      rintro ⟨DA1, dc1⟩ _
      refine dx rfl rfl (ef_call rfl rfl K25 (fun _ e => by cases e; rfl) [] _ (.refl _) _ _ _ (fun w hS => by exact c25 w X1 Y1 DA1 (min n1 12) (min m1 70) _ x1 y1 dc1 (ps1.take 12) (ss1.take 70) (deltaL (ps1.take 12) (ss1.take 70) (ps2.take 12) (ss2.take 70)) (hG.hand (Ec := []) hS) (Sl.ofRow' hS (by repeat constructor)) (Sl.ofRow' hS (by repeat constructor)) (Sl.ofRow' hS (by repeat constructor)) deltaL_lt (by first | decide | (simp only [List.length_take]; omega) | omega) (by first | decide | (simp only [List.length_take]; omega) | omega) (by have := deltaL_le (ps1.take 12) (ps2.take 12) (ss1.take 70) (ss2.take 70); omega) hS.own)) (fun _ _ _ h => h.sb) ?_ d_stop
      rintro ⟨qs1, ts1, er1, PB1, pd1, QB1, qd1⟩ ha1
      obtain ⟨rfl, rfl, rfl⟩ := apply_delta hr1 hr2 ha1
      refine dq rfl (rd_move rfl) rfl ?_
      refine dq rfl (rd_extract rfl rfl) rfl ?_
      refine dq rfl (rd_extract rfl rfl) rfl ?_
      refine de rfl rfl (ef_stores A25 rfl rfl rfl (by repeat constructor) (by first | exact SetR.all rfl | repeat constructor) rfl) (fun _ h => h.sb) ?_ d_stop
      refine dq rfl (rd_assign rfl) rfl ?_
      refine d_end ?_
      refine f_front (.blk b3 _ _) (by repeat constructor) ?_
      refine f_front (.blk b4 _ _) (by repeat constructor) ?_
      refine f_front (.blk b5 _ _) (by repeat constructor) ?_
      refine f_front (.row _ _ Y1 _ y1 _) (by repeat constructor) ?_
      refine f_front (.row _ _ X1 _ x1 _) (by repeat constructor) ?_
      refine f_front (.row _ _ Y2 _ y2 _) (by repeat constructor) ?_
      refine f_front (.row _ _ X2 _ x2 _) (by repeat constructor) ?_
      refine f_front (.row _ _ Y3 _ y3 _) (by repeat constructor) ?_
      refine f_front (.row _ _ X3 _ x3 _) (by repeat constructor) ?_
      refine f_front (.row _ _ QB1 _ qd1 _) (by repeat constructor) ?_
      refine f_front (.row _ _ PB1 _ pd1 _) (by repeat constructor) ?_
      refine f_front (.blk b8_2 _ _) (by repeat constructor) ?_
      refine f_cut ((b8_2, PB1, pd1, QB1, qd1)) (trivial) (by repeat constructor) (fun _ h => h.sb)
     exact d_stop
    ·rintro ⟨b8, PB1, pd1, QB1, qd1⟩ _
     refine c_meet2 (α := Nat × Option Addr × Nat × Option Addr × Nat) (fun ⟨b10, PB2, pd2, QB2, qd2⟩ => True) (fun ⟨b10, PB2, pd2, QB2, qd2⟩ => [.blk b10 [.slice PB2 ((ps3.take 12)).length pd2, .slice QB2 ((ss3.take 70)).length qd2] 25, .row 51 15 PB2 ((ps3.take 12)).length pd2 (flat PL.enc ((ps3.take 12))), .row 54 11 QB2 ((ss3.take 70)).length qd2 (flat SH.enc ((ss3.take 70)))]) [.blk b8 _ _, .row _ _ PB1 _ pd1 _, .row _ _ QB1 _ qd1 _, .row _ _ X3 _ x3 _, .row _ _ Y3 _ y3 _, .row _ _ X2 _ x2 _, .row _ _ Y2 _ y2 _, .row _ _ X1 _ x1 _, .row _ _ Y1 _ y1 _, .blk b5 _ _, .blk b4 _ _, .blk b3 _ _] (fun ⟨b10, PB2, pd2, QB2, qd2⟩ => [(10, .pointer (some ⟨b10, 0, none⟩)), (11, .int .i64 0)]) [(9, _), (3, _), (5, _), (6, _), (7, _)] (by repeat constructor) [] (fun _ h => h) ?_ ?_
     ·refine c_regd [.blk b8 _ _, .row _ _ PB1 _ pd1 _, .row _ _ QB1 _ qd1 _, .row _ _ X3 _ x3 _, .row _ _ Y3 _ y3 _, .row _ _ X2 _ x2 _, .row _ _ Y2 _ y2 _, .row _ _ X1 _ x1 _, .row _ _ Y1 _ y1 _, .blk b5 _ _, .blk b4 _ _, .blk b3 _ _] (.q 0 (.q 1 (.q 2 (.alt 3 (.alt 4 (.q 5 (.q 6 (.q 7 (.alt 8 (.alt 9 (.q 10 .done) .stop) .stop)))) (.alt 8 (.alt 4 (.q 5 (.q 6 (.q 7 (.alt 9 (.q 10 .done) .stop)))) .stop) .stop)) (.alt 8 (.alt 3 (.alt 4 (.q 5 (.q 6 (.q 7 (.alt 9 (.q 10 .done) .stop)))) .stop) .stop) .stop))))) (by kernel_rfl) (by kernel_rfl) (by kernel_rfl) (by kernel_rfl) (fun _ h => h.sb) ?_
      refine dq rfl (rd_ldsb A25 rfl (by repeat constructor) (by first | exact GetR.all _ | repeat constructor)) rfl ?_
      refine dq rfl (rd_ldsb A25 rfl (by repeat constructor) (by first | exact GetR.all _ | repeat constructor)) rfl ?_
      refine dq rfl (rd_ldsb A25 rfl (by repeat constructor) (by first | exact GetR.all _ | repeat constructor)) rfl ?_
      refine dx rfl rfl (ef_call rfl rfl K23 (fun _ e => by cases e; rfl) [] _ (.refl _) _ _ _ (fun w hS => by exact c23 w X2 Y2 X3 Y3 (min n2 12) (min m2 70) (min n3 12) (min m3 70) x2 y2 x3 y3 (ps2.take 12) (ps3.take 12) (ss2.take 70) (ss3.take 70) (hG.hand (Ec := []) hS) (Sl.ofRow' hS (by repeat constructor)) (Sl.ofRow' hS (by repeat constructor)) (Sl.ofRow' hS (by repeat constructor)) (Sl.ofRow' hS (by repeat constructor)) (by first | decide | (simp only [List.length_take]; omega) | omega) (by first | decide | (simp only [List.length_take]; omega) | omega) (by first | decide | (simp only [List.length_take]; omega) | omega) (by first | decide | (simp only [List.length_take]; omega) | omega) hS.own)) (fun _ _ _ h => h.sb) ?_ ?_
      ·rintro ⟨DA2, dc2⟩ _
       refine dx rfl rfl (ef_call rfl rfl K25 (fun _ e => by cases e; rfl) [] _ (.refl _) _ _ _ (fun w hS => by exact c25 w PB1 QB1 DA2 _ _ _ pd1 qd1 dc2 (ps2.take 12) (ss2.take 70) (deltaL (ps2.take 12) (ss2.take 70) (ps3.take 12) (ss3.take 70)) (hG.hand (Ec := []) hS) (Sl.ofRow' hS (by repeat constructor)) (Sl.ofRow' hS (by repeat constructor)) (Sl.ofRow' hS (by repeat constructor)) deltaL_lt (by first | decide | (simp only [List.length_take]; omega) | omega) (by first | decide | (simp only [List.length_take]; omega) | omega) (by have := deltaL_le (ps2.take 12) (ps3.take 12) (ss2.take 70) (ss3.take 70); omega) hS.own)) (fun _ _ _ h => h.sb) ?_ ?_
       ·rintro ⟨qs2, ts2, er2, PB2, pd2, QB2, qd2⟩ ha2
        obtain ⟨rfl, rfl, rfl⟩ := apply_delta hr2 hr3 ha2
        refine dq rfl (rd_move rfl) rfl ?_
        refine dq rfl (rd_extract rfl rfl) rfl ?_
        refine dq rfl (rd_extract rfl rfl) rfl ?_
        refine dx rfl rfl (ef_alloc Z25 rfl) (fun _ _ _ h => h.sb) ?_ d_stop
        rintro b10 hb10
        refine de rfl rfl (ef_stores A25 rfl rfl rfl (by repeat constructor) (by first | exact SetR.all rfl | repeat constructor) rfl) (fun _ h => h.sb) ?_ d_stop
        refine dq rfl (rd_assign rfl) rfl ?_
        refine d_end ?_
        refine f_front (.blk b3 _ _) (by repeat constructor) ?_
        refine f_front (.blk b4 _ _) (by repeat constructor) ?_
        refine f_front (.blk b5 _ _) (by repeat constructor) ?_
        refine f_front (.row _ _ Y1 _ y1 _) (by repeat constructor) ?_
        refine f_front (.row _ _ X1 _ x1 _) (by repeat constructor) ?_
        refine f_front (.row _ _ Y2 _ y2 _) (by repeat constructor) ?_
        refine f_front (.row _ _ X2 _ x2 _) (by repeat constructor) ?_
        refine f_front (.row _ _ Y3 _ y3 _) (by repeat constructor) ?_
        refine f_front (.row _ _ X3 _ x3 _) (by repeat constructor) ?_
        refine f_front (.row _ _ QB1 _ qd1 _) (by repeat constructor) ?_
        refine f_front (.row _ _ PB1 _ pd1 _) (by repeat constructor) ?_
        refine f_front (.blk b8 _ _) (by repeat constructor) ?_
        refine f_front (.row _ _ QB2 _ qd2 _) (by repeat constructor) ?_
        refine f_front (.row _ _ PB2 _ pd2 _) (by repeat constructor) ?_
        refine f_front (.blk b10 _ _) (by repeat constructor) ?_
        refine f_cut ((b10, PB2, pd2, QB2, qd2)) (trivial) (by repeat constructor) (fun _ h => h.sb)
       refine dx rfl rfl (ef_alloc Z25 rfl) (fun _ _ _ h => h.sb) ?_ ?_
       ·rintro b10_1 hb10_1
        refine dx rfl rfl (ef_call rfl rfl K25 (fun _ e => by cases e; rfl) [] _ (.refl _) _ _ _ (fun w hS => by exact c25 w PB1 QB1 DA2 _ _ _ pd1 qd1 dc2 (ps2.take 12) (ss2.take 70) (deltaL (ps2.take 12) (ss2.take 70) (ps3.take 12) (ss3.take 70)) (hG.hand (Ec := []) hS) (Sl.ofRow' hS (by repeat constructor)) (Sl.ofRow' hS (by repeat constructor)) (Sl.ofRow' hS (by repeat constructor)) deltaL_lt (by first | decide | (simp only [List.length_take]; omega) | omega) (by first | decide | (simp only [List.length_take]; omega) | omega) (by have := deltaL_le (ps2.take 12) (ps3.take 12) (ss2.take 70) (ss3.take 70); omega) hS.own)) (fun _ _ _ h => h.sb) ?_ d_stop
        rintro ⟨qs2, ts2, er2, PB2, pd2, QB2, qd2⟩ ha2
        obtain ⟨rfl, rfl, rfl⟩ := apply_delta hr2 hr3 ha2
        refine dq rfl (rd_move rfl) rfl ?_
        refine dq rfl (rd_extract rfl rfl) rfl ?_
        refine dq rfl (rd_extract rfl rfl) rfl ?_
        refine de rfl rfl (ef_stores A25 rfl rfl rfl (by repeat constructor) (by first | exact SetR.all rfl | repeat constructor) rfl) (fun _ h => h.sb) ?_ d_stop
        refine dq rfl (rd_assign rfl) rfl ?_
        refine d_end ?_
        refine f_front (.blk b3 _ _) (by repeat constructor) ?_
        refine f_front (.blk b4 _ _) (by repeat constructor) ?_
        refine f_front (.blk b5 _ _) (by repeat constructor) ?_
        refine f_front (.row _ _ Y1 _ y1 _) (by repeat constructor) ?_
        refine f_front (.row _ _ X1 _ x1 _) (by repeat constructor) ?_
        refine f_front (.row _ _ Y2 _ y2 _) (by repeat constructor) ?_
        refine f_front (.row _ _ X2 _ x2 _) (by repeat constructor) ?_
        refine f_front (.row _ _ Y3 _ y3 _) (by repeat constructor) ?_
        refine f_front (.row _ _ X3 _ x3 _) (by repeat constructor) ?_
        refine f_front (.row _ _ QB1 _ qd1 _) (by repeat constructor) ?_
        refine f_front (.row _ _ PB1 _ pd1 _) (by repeat constructor) ?_
        refine f_front (.blk b8 _ _) (by repeat constructor) ?_
        refine f_front (.row _ _ QB2 _ qd2 _) (by repeat constructor) ?_
        refine f_front (.row _ _ PB2 _ pd2 _) (by repeat constructor) ?_
        refine f_front (.blk b10_1 _ _) (by repeat constructor) ?_
        refine f_cut ((b10_1, PB2, pd2, QB2, qd2)) (trivial) (by repeat constructor) (fun _ h => h.sb)
       exact d_stop
      refine dx rfl rfl (ef_alloc Z25 rfl) (fun _ _ _ h => h.sb) ?_ ?_
      ·rintro b10_2 hb10_2
       refine dx rfl rfl (ef_call rfl rfl K23 (fun _ e => by cases e; rfl) [] _ (.refl _) _ _ _ (fun w hS => by exact c23 w X2 Y2 X3 Y3 (min n2 12) (min m2 70) (min n3 12) (min m3 70) x2 y2 x3 y3 (ps2.take 12) (ps3.take 12) (ss2.take 70) (ss3.take 70) (hG.hand (Ec := []) hS) (Sl.ofRow' hS (by repeat constructor)) (Sl.ofRow' hS (by repeat constructor)) (Sl.ofRow' hS (by repeat constructor)) (Sl.ofRow' hS (by repeat constructor)) (by first | decide | (simp only [List.length_take]; omega) | omega) (by first | decide | (simp only [List.length_take]; omega) | omega) (by first | decide | (simp only [List.length_take]; omega) | omega) (by first | decide | (simp only [List.length_take]; omega) | omega) hS.own)) (fun _ _ _ h => h.sb) ?_ d_stop
       rintro ⟨DA2, dc2⟩ _
       refine dx rfl rfl (ef_call rfl rfl K25 (fun _ e => by cases e; rfl) [] _ (.refl _) _ _ _ (fun w hS => by exact c25 w PB1 QB1 DA2 _ _ _ pd1 qd1 dc2 (ps2.take 12) (ss2.take 70) (deltaL (ps2.take 12) (ss2.take 70) (ps3.take 12) (ss3.take 70)) (hG.hand (Ec := []) hS) (Sl.ofRow' hS (by repeat constructor)) (Sl.ofRow' hS (by repeat constructor)) (Sl.ofRow' hS (by repeat constructor)) deltaL_lt (by first | decide | (simp only [List.length_take]; omega) | omega) (by first | decide | (simp only [List.length_take]; omega) | omega) (by have := deltaL_le (ps2.take 12) (ps3.take 12) (ss2.take 70) (ss3.take 70); omega) hS.own)) (fun _ _ _ h => h.sb) ?_ d_stop
       rintro ⟨qs2, ts2, er2, PB2, pd2, QB2, qd2⟩ ha2
       obtain ⟨rfl, rfl, rfl⟩ := apply_delta hr2 hr3 ha2
       refine dq rfl (rd_move rfl) rfl ?_
       refine dq rfl (rd_extract rfl rfl) rfl ?_
       refine dq rfl (rd_extract rfl rfl) rfl ?_
       refine de rfl rfl (ef_stores A25 rfl rfl rfl (by repeat constructor) (by first | exact SetR.all rfl | repeat constructor) rfl) (fun _ h => h.sb) ?_ d_stop
       refine dq rfl (rd_assign rfl) rfl ?_
       refine d_end ?_
       refine f_front (.blk b3 _ _) (by repeat constructor) ?_
       refine f_front (.blk b4 _ _) (by repeat constructor) ?_
       refine f_front (.blk b5 _ _) (by repeat constructor) ?_
       refine f_front (.row _ _ Y1 _ y1 _) (by repeat constructor) ?_
       refine f_front (.row _ _ X1 _ x1 _) (by repeat constructor) ?_
       refine f_front (.row _ _ Y2 _ y2 _) (by repeat constructor) ?_
       refine f_front (.row _ _ X2 _ x2 _) (by repeat constructor) ?_
       refine f_front (.row _ _ Y3 _ y3 _) (by repeat constructor) ?_
       refine f_front (.row _ _ X3 _ x3 _) (by repeat constructor) ?_
       refine f_front (.row _ _ QB1 _ qd1 _) (by repeat constructor) ?_
       refine f_front (.row _ _ PB1 _ pd1 _) (by repeat constructor) ?_
       refine f_front (.blk b8 _ _) (by repeat constructor) ?_
       refine f_front (.row _ _ QB2 _ qd2 _) (by repeat constructor) ?_
       refine f_front (.row _ _ PB2 _ pd2 _) (by repeat constructor) ?_
       refine f_front (.blk b10_2 _ _) (by repeat constructor) ?_
       refine f_cut ((b10_2, PB2, pd2, QB2, qd2)) (trivial) (by repeat constructor) (fun _ h => h.sb)
      exact d_stop
     ·rintro ⟨b10, PB2, pd2, QB2, qd2⟩ _
      refine c_meet2 (α := Nat × Option Addr × Nat × Option Addr × Nat) (fun ⟨b12, PB3, pd3, QB3, qd3⟩ => True) (fun ⟨b12, PB3, pd3, QB3, qd3⟩ => [.blk b12 [.slice PB3 ((ps3.take 12)).length pd3, .slice QB3 ((ss3.take 70)).length qd3] 25, .row 51 15 PB3 ((ps3.take 12)).length pd3 (flat PL.enc ((ps3.take 12))), .row 54 11 QB3 ((ss3.take 70)).length qd3 (flat SH.enc ((ss3.take 70)))]) [.blk b10 _ _, .row _ _ PB2 _ pd2 _, .row _ _ QB2 _ qd2 _, .blk b8 _ _, .row _ _ PB1 _ pd1 _, .row _ _ QB1 _ qd1 _, .row _ _ X3 _ x3 _, .row _ _ Y3 _ y3 _, .row _ _ X2 _ x2 _, .row _ _ Y2 _ y2 _, .row _ _ X1 _ x1 _, .row _ _ Y1 _ y1 _, .blk b5 _ _, .blk b4 _ _, .blk b3 _ _] (fun ⟨b12, PB3, pd3, QB3, qd3⟩ => [(12, .pointer (some ⟨b12, 0, none⟩)), (13, .int .i64 0)]) [(10, _), (11, _), (9, _), (5, _), (6, _), (7, _)] (by repeat constructor) [] (fun _ h => h) ?_ ?_
      ·refine c_regd [.blk b10 _ _, .row _ _ PB2 _ pd2 _, .row _ _ QB2 _ qd2 _, .blk b8 _ _, .row _ _ PB1 _ pd1 _, .row _ _ QB1 _ qd1 _, .row _ _ X3 _ x3 _, .row _ _ Y3 _ y3 _, .row _ _ X2 _ x2 _, .row _ _ Y2 _ y2 _, .row _ _ X1 _ x1 _, .row _ _ Y1 _ y1 _, .blk b5 _ _, .blk b4 _ _, .blk b3 _ _] (.q 0 (.q 1 (.q 2 (.alt 3 (.alt 4 (.q 5 (.q 6 (.q 7 (.alt 8 (.alt 9 (.q 10 .done) .stop) .stop)))) (.alt 8 (.alt 4 (.q 5 (.q 6 (.q 7 (.alt 9 (.q 10 .done) .stop)))) .stop) .stop)) (.alt 8 (.alt 3 (.alt 4 (.q 5 (.q 6 (.q 7 (.alt 9 (.q 10 .done) .stop)))) .stop) .stop) .stop))))) (by kernel_rfl) (by kernel_rfl) (by kernel_rfl) (by kernel_rfl) (fun _ h => h.sb) ?_
       refine dq rfl (rd_ldsb A25 rfl (by repeat constructor) (by first | exact GetR.all _ | repeat constructor)) rfl ?_
       refine dq rfl (rd_ldsb A25 rfl (by repeat constructor) (by first | exact GetR.all _ | repeat constructor)) rfl ?_
       refine dq rfl (rd_ldsb A25 rfl (by repeat constructor) (by first | exact GetR.all _ | repeat constructor)) rfl ?_
       refine dx rfl rfl (ef_call rfl rfl K23 (fun _ e => by cases e; rfl) [] _ (.refl _) _ _ _ (fun w hS => by exact c23 w X1 Y1 X3 Y3 (min n1 12) (min m1 70) (min n3 12) (min m3 70) x1 y1 x3 y3 (ps1.take 12) (ps3.take 12) (ss1.take 70) (ss3.take 70) (hG.hand (Ec := []) hS) (Sl.ofRow' hS (by repeat constructor)) (Sl.ofRow' hS (by repeat constructor)) (Sl.ofRow' hS (by repeat constructor)) (Sl.ofRow' hS (by repeat constructor)) (by first | decide | (simp only [List.length_take]; omega) | omega) (by first | decide | (simp only [List.length_take]; omega) | omega) (by first | decide | (simp only [List.length_take]; omega) | omega) (by first | decide | (simp only [List.length_take]; omega) | omega) hS.own)) (fun _ _ _ h => h.sb) ?_ ?_
       ·rintro ⟨DA3, dc3⟩ _
        refine dx rfl rfl (ef_call rfl rfl K25 (fun _ e => by cases e; rfl) [] _ (.refl _) _ _ _ (fun w hS => by exact c25 w X1 Y1 DA3 (min n1 12) (min m1 70) _ x1 y1 dc3 (ps1.take 12) (ss1.take 70) (deltaL (ps1.take 12) (ss1.take 70) (ps3.take 12) (ss3.take 70)) (hG.hand (Ec := []) hS) (Sl.ofRow' hS (by repeat constructor)) (Sl.ofRow' hS (by repeat constructor)) (Sl.ofRow' hS (by repeat constructor)) deltaL_lt (by first | decide | (simp only [List.length_take]; omega) | omega) (by first | decide | (simp only [List.length_take]; omega) | omega) (by have := deltaL_le (ps1.take 12) (ps3.take 12) (ss1.take 70) (ss3.take 70); omega) hS.own)) (fun _ _ _ h => h.sb) ?_ ?_
        ·rintro ⟨qs3, ts3, er3, PB3, pd3, QB3, qd3⟩ ha3
         obtain ⟨rfl, rfl, rfl⟩ := apply_delta hr1 hr3 ha3
         refine dq rfl (rd_move rfl) rfl ?_
         refine dq rfl (rd_extract rfl rfl) rfl ?_
         refine dq rfl (rd_extract rfl rfl) rfl ?_
         refine dx rfl rfl (ef_alloc Z25 rfl) (fun _ _ _ h => h.sb) ?_ d_stop
         rintro b12 hb12
         refine de rfl rfl (ef_stores A25 rfl rfl rfl (by repeat constructor) (by first | exact SetR.all rfl | repeat constructor) rfl) (fun _ h => h.sb) ?_ d_stop
         refine dq rfl (rd_assign rfl) rfl ?_
         refine d_end ?_
         refine f_front (.blk b3 _ _) (by repeat constructor) ?_
         refine f_front (.blk b4 _ _) (by repeat constructor) ?_
         refine f_front (.blk b5 _ _) (by repeat constructor) ?_
         refine f_front (.row _ _ Y1 _ y1 _) (by repeat constructor) ?_
         refine f_front (.row _ _ X1 _ x1 _) (by repeat constructor) ?_
         refine f_front (.row _ _ Y2 _ y2 _) (by repeat constructor) ?_
         refine f_front (.row _ _ X2 _ x2 _) (by repeat constructor) ?_
         refine f_front (.row _ _ Y3 _ y3 _) (by repeat constructor) ?_
         refine f_front (.row _ _ X3 _ x3 _) (by repeat constructor) ?_
         refine f_front (.row _ _ QB1 _ qd1 _) (by repeat constructor) ?_
         refine f_front (.row _ _ PB1 _ pd1 _) (by repeat constructor) ?_
         refine f_front (.blk b8 _ _) (by repeat constructor) ?_
         refine f_front (.row _ _ QB2 _ qd2 _) (by repeat constructor) ?_
         refine f_front (.row _ _ PB2 _ pd2 _) (by repeat constructor) ?_
         refine f_front (.blk b10 _ _) (by repeat constructor) ?_
         refine f_front (.row _ _ QB3 _ qd3 _) (by repeat constructor) ?_
         refine f_front (.row _ _ PB3 _ pd3 _) (by repeat constructor) ?_
         refine f_front (.blk b12 _ _) (by repeat constructor) ?_
         refine f_cut ((b12, PB3, pd3, QB3, qd3)) (trivial) (by repeat constructor) (fun _ h => h.sb)
        refine dx rfl rfl (ef_alloc Z25 rfl) (fun _ _ _ h => h.sb) ?_ ?_
        ·rintro b12_1 hb12_1
         refine dx rfl rfl (ef_call rfl rfl K25 (fun _ e => by cases e; rfl) [] _ (.refl _) _ _ _ (fun w hS => by exact c25 w X1 Y1 DA3 (min n1 12) (min m1 70) _ x1 y1 dc3 (ps1.take 12) (ss1.take 70) (deltaL (ps1.take 12) (ss1.take 70) (ps3.take 12) (ss3.take 70)) (hG.hand (Ec := []) hS) (Sl.ofRow' hS (by repeat constructor)) (Sl.ofRow' hS (by repeat constructor)) (Sl.ofRow' hS (by repeat constructor)) deltaL_lt (by first | decide | (simp only [List.length_take]; omega) | omega) (by first | decide | (simp only [List.length_take]; omega) | omega) (by have := deltaL_le (ps1.take 12) (ps3.take 12) (ss1.take 70) (ss3.take 70); omega) hS.own)) (fun _ _ _ h => h.sb) ?_ d_stop
         rintro ⟨qs3, ts3, er3, PB3, pd3, QB3, qd3⟩ ha3
         obtain ⟨rfl, rfl, rfl⟩ := apply_delta hr1 hr3 ha3
         refine dq rfl (rd_move rfl) rfl ?_
         refine dq rfl (rd_extract rfl rfl) rfl ?_
         refine dq rfl (rd_extract rfl rfl) rfl ?_
         refine de rfl rfl (ef_stores A25 rfl rfl rfl (by repeat constructor) (by first | exact SetR.all rfl | repeat constructor) rfl) (fun _ h => h.sb) ?_ d_stop
         refine dq rfl (rd_assign rfl) rfl ?_
         refine d_end ?_
         refine f_front (.blk b3 _ _) (by repeat constructor) ?_
         refine f_front (.blk b4 _ _) (by repeat constructor) ?_
         refine f_front (.blk b5 _ _) (by repeat constructor) ?_
         refine f_front (.row _ _ Y1 _ y1 _) (by repeat constructor) ?_
         refine f_front (.row _ _ X1 _ x1 _) (by repeat constructor) ?_
         refine f_front (.row _ _ Y2 _ y2 _) (by repeat constructor) ?_
         refine f_front (.row _ _ X2 _ x2 _) (by repeat constructor) ?_
         refine f_front (.row _ _ Y3 _ y3 _) (by repeat constructor) ?_
         refine f_front (.row _ _ X3 _ x3 _) (by repeat constructor) ?_
         refine f_front (.row _ _ QB1 _ qd1 _) (by repeat constructor) ?_
         refine f_front (.row _ _ PB1 _ pd1 _) (by repeat constructor) ?_
         refine f_front (.blk b8 _ _) (by repeat constructor) ?_
         refine f_front (.row _ _ QB2 _ qd2 _) (by repeat constructor) ?_
         refine f_front (.row _ _ PB2 _ pd2 _) (by repeat constructor) ?_
         refine f_front (.blk b10 _ _) (by repeat constructor) ?_
         refine f_front (.row _ _ QB3 _ qd3 _) (by repeat constructor) ?_
         refine f_front (.row _ _ PB3 _ pd3 _) (by repeat constructor) ?_
         refine f_front (.blk b12_1 _ _) (by repeat constructor) ?_
         refine f_cut ((b12_1, PB3, pd3, QB3, qd3)) (trivial) (by repeat constructor) (fun _ h => h.sb)
        exact d_stop
       refine dx rfl rfl (ef_alloc Z25 rfl) (fun _ _ _ h => h.sb) ?_ ?_
       ·rintro b12_2 hb12_2
        refine dx rfl rfl (ef_call rfl rfl K23 (fun _ e => by cases e; rfl) [] _ (.refl _) _ _ _ (fun w hS => by exact c23 w X1 Y1 X3 Y3 (min n1 12) (min m1 70) (min n3 12) (min m3 70) x1 y1 x3 y3 (ps1.take 12) (ps3.take 12) (ss1.take 70) (ss3.take 70) (hG.hand (Ec := []) hS) (Sl.ofRow' hS (by repeat constructor)) (Sl.ofRow' hS (by repeat constructor)) (Sl.ofRow' hS (by repeat constructor)) (Sl.ofRow' hS (by repeat constructor)) (by first | decide | (simp only [List.length_take]; omega) | omega) (by first | decide | (simp only [List.length_take]; omega) | omega) (by first | decide | (simp only [List.length_take]; omega) | omega) (by first | decide | (simp only [List.length_take]; omega) | omega) hS.own)) (fun _ _ _ h => h.sb) ?_ d_stop
        rintro ⟨DA3, dc3⟩ _
        refine dx rfl rfl (ef_call rfl rfl K25 (fun _ e => by cases e; rfl) [] _ (.refl _) _ _ _ (fun w hS => by exact c25 w X1 Y1 DA3 (min n1 12) (min m1 70) _ x1 y1 dc3 (ps1.take 12) (ss1.take 70) (deltaL (ps1.take 12) (ss1.take 70) (ps3.take 12) (ss3.take 70)) (hG.hand (Ec := []) hS) (Sl.ofRow' hS (by repeat constructor)) (Sl.ofRow' hS (by repeat constructor)) (Sl.ofRow' hS (by repeat constructor)) deltaL_lt (by first | decide | (simp only [List.length_take]; omega) | omega) (by first | decide | (simp only [List.length_take]; omega) | omega) (by have := deltaL_le (ps1.take 12) (ps3.take 12) (ss1.take 70) (ss3.take 70); omega) hS.own)) (fun _ _ _ h => h.sb) ?_ d_stop
        rintro ⟨qs3, ts3, er3, PB3, pd3, QB3, qd3⟩ ha3
        obtain ⟨rfl, rfl, rfl⟩ := apply_delta hr1 hr3 ha3
        refine dq rfl (rd_move rfl) rfl ?_
        refine dq rfl (rd_extract rfl rfl) rfl ?_
        refine dq rfl (rd_extract rfl rfl) rfl ?_
        refine de rfl rfl (ef_stores A25 rfl rfl rfl (by repeat constructor) (by first | exact SetR.all rfl | repeat constructor) rfl) (fun _ h => h.sb) ?_ d_stop
        refine dq rfl (rd_assign rfl) rfl ?_
        refine d_end ?_
        refine f_front (.blk b3 _ _) (by repeat constructor) ?_
        refine f_front (.blk b4 _ _) (by repeat constructor) ?_
        refine f_front (.blk b5 _ _) (by repeat constructor) ?_
        refine f_front (.row _ _ Y1 _ y1 _) (by repeat constructor) ?_
        refine f_front (.row _ _ X1 _ x1 _) (by repeat constructor) ?_
        refine f_front (.row _ _ Y2 _ y2 _) (by repeat constructor) ?_
        refine f_front (.row _ _ X2 _ x2 _) (by repeat constructor) ?_
        refine f_front (.row _ _ Y3 _ y3 _) (by repeat constructor) ?_
        refine f_front (.row _ _ X3 _ x3 _) (by repeat constructor) ?_
        refine f_front (.row _ _ QB1 _ qd1 _) (by repeat constructor) ?_
        refine f_front (.row _ _ PB1 _ pd1 _) (by repeat constructor) ?_
        refine f_front (.blk b8 _ _) (by repeat constructor) ?_
        refine f_front (.row _ _ QB2 _ qd2 _) (by repeat constructor) ?_
        refine f_front (.row _ _ PB2 _ pd2 _) (by repeat constructor) ?_
        refine f_front (.blk b10 _ _) (by repeat constructor) ?_
        refine f_front (.row _ _ QB3 _ qd3 _) (by repeat constructor) ?_
        refine f_front (.row _ _ PB3 _ pd3 _) (by repeat constructor) ?_
        refine f_front (.blk b12_2 _ _) (by repeat constructor) ?_
        refine f_cut ((b12_2, PB3, pd3, QB3, qd3)) (trivial) (by repeat constructor) (fun _ h => h.sb)
       exact d_stop
      ·rintro ⟨b12, PB3, pd3, QB3, qd3⟩ _
       refine c_seq ?_
       refine c_reg ?_
       refine sq (rd_move rfl) rfl ?_
       refine sq (rd_move rfl) rfl ?_
       refine s_split (d := 60) rfl (fun g60 => ?_) (fun g60 => ?_)
       ·try have g60p := of_decide_eq_true g60
        refine sg1 (fun a hA => wanted_yes hA rfl rfl rfl g60) (rd_move rfl) rfl ?_
        refine sg1 (fun a hA => wanted_yes hA rfl rfl rfl g60) (rd_eql rfl rfl) rfl ?_
        refine sq (rd_pick_tt rfl g60 rfl) rfl ?_
        refine sq (rd_move rfl) rfl ?_
        refine s_split (d := 64) rfl (fun g64 => ?_) (fun g64 => ?_)
        ·try have g64p := of_decide_eq_true g64
         refine sg1 (fun a hA => wanted_yes hA rfl rfl rfl g64) (rd_move rfl) rfl ?_
         refine sg1 (fun a hA => wanted_yes hA rfl rfl rfl g64) (rd_eql rfl rfl) rfl ?_
         refine sq (rd_pick_tt rfl g64 rfl) rfl ?_
         refine sq (rd_move rfl) rfl ?_
         refine s_split (d := 68) rfl (fun g68 => ?_) (fun g68 => ?_)
         ·try have g68p := of_decide_eq_true g68
          refine sg1 (fun a hA => wanted_yes hA rfl rfl rfl g68) (rd_move rfl) rfl ?_
          refine sg1 (fun a hA => wanted_yes hA rfl rfl rfl g68) (rd_eql rfl rfl) rfl ?_
          refine sq (rd_pick_tt rfl g68 rfl) rfl ?_
          refine sq (rd_move rfl) rfl ?_
          refine s_split (d := 72) rfl (fun g72 => ?_) (fun g72 => ?_)
          ·try have g72p := of_decide_eq_true g72
           refine sg1 (fun a hA => wanted_yes hA rfl rfl rfl g72) (rd_ldsb A25 rfl (by repeat constructor) (by first | exact GetR.all _ | repeat constructor)) rfl ?_
           refine sg1 (fun a hA => wanted_yes hA rfl rfl rfl g72) (rd_ldsb A25 rfl (by repeat constructor) (by first | exact GetR.all _ | repeat constructor)) rfl ?_
           refine seg (fun a hA => wanted_yes hA rfl rfl rfl g72) (ef_pw rfl rfl K22 rfl (fun w hS => by exact c22 w PB2 QB2 X3 Y3 _ _ (min n3 12) (min m3 70) pd2 qd2 x3 y3 (ps3.take 12) (ps3.take 12) (ss3.take 70) (ss3.take 70) (Sl.ofRow' hS (by repeat constructor)) (Sl.ofRow' hS (by repeat constructor)) (Sl.ofRow' hS (by repeat constructor)) (Sl.ofRow' hS (by repeat constructor)))) ?_
           refine sq (rd_pick_tt rfl g72 rfl) rfl ?_
           refine sq (rd_move rfl) rfl ?_
           refine s_split (d := 77) rfl (fun g77 => ?_) (fun g77 => ?_)
           ·try have g77p := of_decide_eq_true g77
            refine sg1 (fun a hA => wanted_yes hA rfl rfl rfl g77) (rd_ldsb A25 rfl (by repeat constructor) (by first | exact GetR.all _ | repeat constructor)) rfl ?_
            refine sg1 (fun a hA => wanted_yes hA rfl rfl rfl g77) (rd_ldsb A25 rfl (by repeat constructor) (by first | exact GetR.all _ | repeat constructor)) rfl ?_
            refine seg (fun a hA => wanted_yes hA rfl rfl rfl g77) (ef_pw rfl rfl K22 rfl (fun w hS => by exact c22 w PB3 QB3 X3 Y3 _ _ (min n3 12) (min m3 70) pd3 qd3 x3 y3 (ps3.take 12) (ps3.take 12) (ss3.take 70) (ss3.take 70) (Sl.ofRow' hS (by repeat constructor)) (Sl.ofRow' hS (by repeat constructor)) (Sl.ofRow' hS (by repeat constructor)) (Sl.ofRow' hS (by repeat constructor)))) ?_
            refine sq (rd_pick_tt rfl g77 rfl) rfl ?_
            refine sq (rd_assign rfl) rfl ?_
            refine s_end ?_
            refine f_then ?_
            refine c_ret ?_
            refine f_ret rfl (.tmp rfl .nil) ?_
            refine fun w' hS => ⟨_, rfl, (), ?_, trivial, hS.sub (List.nil_sublist _)⟩
            simp
           ·exact absurd g77 (by simp)
          ·exact absurd g72 (by simp)
         ·exact absurd g68 (by simp)
        ·exact absurd g64 (by simp)
       ·exact absurd g60 (by simp)

end Go.Proofs.YtfccnoccfhgcbaaGreatDoor
namespace Go.Proofs.YtfccnoccfhgcbaaGreatDoor.viewChain
open Go Go.RowKit Go.ChangeShapes Go.WideShapes
theorem below {W W' : World} (h : St W none' [] W') : Below W.heap.size W W' := ⟨h.os, h.tape, h.output, h.size, fun k hk => h.base k hk (none'_no k)⟩
set_option maxRecDepth 100000 in
theorem lifted (os : Os) (started : os.Started) (H : Type) (enc : TypeId × Value → H) :
  ReturnsInHanded {} Tryz.checked os 9 .any (fun w args => (Rows.viewChainSpec.pre enc Tryz.prog Tryz.f9 [] false w args ∧ laidMetH Tryz.prog laid2 w) ∧ sizedMet enc Tryz.prog Tryz.f9 (OpenSpec.ofChange Rows.viewChainSpec) false w args)
   (Rows.viewChainSpec.post enc Tryz.prog Tryz.f9 false true false false) := by
 refine returnsInHanded_of_change_and (C := Tryz.checked) (X := fun w _ => laidMetH Tryz.prog laid2 w) (fun _ _ _ hh h => h.of_heap hh) own started (by kernel_rfl) Tryz.func9
  (ChangeSpec.witness_shaped (enc := enc) (C := Tryz.checked) (os := os) (X := fun w _ => laidMetH Tryz.prog laid2 w) false (World.doorLaid Tryz.prog 400 os) #[.agg #[.slice none 0 0, .slice none 0 0], .agg #[.slice none 0 0, .slice none 0 0], .agg #[.slice none 0 0, .slice none 0 0]] 8 rfl (World.shaped_of_RefB (by kernel_rfl) (by kernel_rfl)) (by kernel_rfl) (by kernel_rfl) (by kernel_rfl) (door_met os _)) ?_
 intro W base args ds gs before hval0 hW _ _ hL _
 have hval : ∀ (j : Nat) t v, Tryz.f9.params[j]? = some t → args[j]? = some v → Value.okWide Tryz.prog W .any base t v := hval0
 have hW' := hW
 obtain ⟨p, q, hA0, hV, rfl, hfz, hnd⟩ := hW
 have hA : DataW.TrodAll enc Tryz.prog W 0 (fun _ => true) true Tryz.f9.params.toList args.toList ds p := hA0
 rw [Tryz.params9] at hA hval
 obtain ⟨v0, vs0, d0, ds0, p0, q0, hargs, rfl, rfl, t0, r0⟩ := trodAll_cons hA
 obtain ⟨v1, vs1, d1, ds1, p1, q1, rfl, rfl, rfl, t1, r1⟩ := trodAll_cons r0
 obtain ⟨v2, vs2, d2, ds2, p2, q2, rfl, rfl, rfl, t2, r2⟩ := trodAll_cons r1
 obtain ⟨rfl, rfl, rfl⟩ := trodAll_nil r2
 obtain rfl : args = #[v0, v1, v2] := by cases args; simp_all
 obtain ⟨rfl, rfl⟩ := trodVars_none hV
 have hG := gl_of_laid hL
 have kk0 := t0
 have lt0 : ∀ x ∈ p0, x.block < W.heap.size := by obtain ⟨m, hm⟩ := kk0; exact DataW.trod_lt m _ _ _ hm
 obtain ⟨A0, B0, n0, m0, c0, e0, ps0, ss0, rfl, h0, k0, hc0, he0, ok0, os0⟩ := rd_state t0 (okWide_struct Tryz.underlying25 (hval 0 25 v0 rfl rfl))
 have kk1 := t1
 have lt1 : ∀ x ∈ p1, x.block < W.heap.size := by obtain ⟨m, hm⟩ := kk1; exact DataW.trod_lt m _ _ _ hm
 obtain ⟨A1, B1, n1, m1, c1, e1, ps1, ss1, rfl, h1, k1, hc1, he1, ok1, os1⟩ := rd_state t1 (okWide_struct Tryz.underlying25 (hval 1 25 v1 rfl rfl))
 have kk2 := t2
 have lt2 : ∀ x ∈ p2, x.block < W.heap.size := by obtain ⟨m, hm⟩ := kk2; exact DataW.trod_lt m _ _ _ hm
 obtain ⟨A2, B2, n2, m2, c2, e2, ps2, ss2, rfl, h2, k2, hc2, he2, ok2, os2⟩ := rd_state t2 (okWide_struct Tryz.underlying25 (hval 2 25 v2 rfl rfl))
 refine Calls.mono (c9 W hG A0 B0 n0 m0 c0 e0 ps0 ss0 h0 k0 hc0 he0 A1 B1 n1 m1 c1 e1 ps1 ss1 h1 k1 hc1 he1 A2 B2 n2 m2 c2 e2 ps2 ss2 h2 k2 hc2 he2 (St.start W _)) fun e W' h => ?_
 obtain ⟨v, rfl, x, rfl, _, hS⟩ := h
 have bel := below hS
 exact ⟨_, rfl, _, _, _, [], _, [], hW', trodAll_mk1 (shut_bool Tryz.underlying4 _), (trodAll_cons_mk (Below.trod laidOut (by kernel_rfl) (of_decide_eq_true (by kernel_rfl)) kk0 bel lt0) (trodAll_cons_mk (Below.trod laidOut (by kernel_rfl) (of_decide_eq_true (by kernel_rfl)) kk1 bel lt1) (trodAll_cons_mk (Below.trod laidOut (by kernel_rfl) (of_decide_eq_true (by kernel_rfl)) kk2 bel lt2) trodAll_mk0))), rfl, bel.frame _, fun h => by cases h⟩
theorem over : Rows.ViewChainSaid :=
 OpenClaim.holds_of_wide 9 Tryz.f9 rfl rfl rfl rfl rfl rfl rfl ⟨rfl, rfl, rfl, rfl, rfl⟩ rfl rfl rfl rfl rfl (by kernel_rfl) Tryz.func9 (by kernel_rfl)
  (of_decide_eq_true (by kernel_rfl)) (by unfold Func.isWrapper; first | (rw [if_pos (by decide +kernel)]; kernel_rfl) | (rw [if_neg (by decide +kernel)]; exact ⟨rfl, rfl⟩))
  (fun os started H enc _ => lifted os started H enc)
end Go.Proofs.YtfccnoccfhgcbaaGreatDoor.viewChain
namespace Go.Proofs.YtfccnoccfhgcbaaGreatDoor
/-- The card. -/
theorem viewChain_card : Rows.ViewChainCardSaid :=
 Claim7.holds_tied_plain_at .later [] [.wider, .wider] true (true, "4eaa47956d02c688950758280d0594a06d21b47fca31964564c4137525720bfd") false
  viewChain.over (fun _ h => by cases h) (by kernel_rfl) (fun _ h => by cases h) viewChain_row_tie rfl ⟨rfl, rfl⟩ (by kernel_rfl) rfl
  (fun f fn hf hfn => by
   obtain rfl : f = 9 := Option.some.inj ((show Tryz.prog.funcNamed "embrasure/embrasurelaw18.ViewChain" = some 9 by kernel_rfl).symm.trans hf) |>.symm
   obtain rfl : fn = Tryz.f9 := (Option.some.inj (Tryz.func9.symm.trans hfn)).symm
   exact ⟨by kernel_rfl, fun j t ht => by
    rw [Tryz.params9] at ht
    have hm : t ∈ [25, 25, 25] := by simpa using Array.mem_of_getElem? ht
    have hall : ([25, 25, 25].all fun u => !Tryz.prog.wantsStandIn u) = true := by kernel_rfl
    exact (show Tryz.prog.wantsStandIn t = false by simpa using List.all_eq_true.1 hall t hm)⟩)
  (by kernel_rfl)
#print axioms viewChain_card
end Go.Proofs.YtfccnoccfhgcbaaGreatDoor
