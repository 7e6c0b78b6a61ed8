/- The law ViewUnlike: it answers true, whatever the input; no conditions beyond those of the statement. -/
import Derived.Test.YtfccnoccfhgcbaaGreatDoorPkE
import Derived.Laws.BytesArg
import Derived.Laws.Strings
import Derived.Test.YtfccnoccfhgcbaaGreatDoorProg
import Derived.Test.YtfccnoccfhgcbaaGreatDoorCards
import Derived.Test.YtfccnoccfhgcbaaGreatDoorTie
set_option linter.unusedVariables false
set_option linter.unusedSimpArgs false
set_option maxRecDepth 20000
set_option maxHeartbeats 400000
namespace Go.Proofs.YtfccnoccfhgcbaaGreatDoor
open Go Go.RowKit

section
variable {P : Program} {S : World → Prop} {ops : Array Oper} {Q : Exit → Act → World → Prop} {n : Nat} {rest : List Oper} {w0 w : World} {M : Nat → Prop} {E E' : List Ent} {L L' : Slots} {d ty : Nat} {dst : Option Nat} {pos : String} {af : Array Edge} {x y z : Operand} {v u : Value} {t t' e sz bytes m cap c : Nat} {g : Option (Nat × Bool)} {A A2 : Option Addr}

def strB (l : List Nat) : ByteArray := strOfNums (l.map fun x : Nat => (x : Int))
theorem strB_list (l : List Nat) : (strB l).toList = l.map UInt8.ofNat := by
 unfold strB strOfNums
 rw [ByteArray.toList_mk, List.map_map]
 rfl
theorem strB_inj {l r : List Nat} (hl : ∀ x ∈ l, x < 256) (hr : ∀ x ∈ r, x < 256) : ((strB l).toList == (strB r).toList) = decide (l = r) := by
 rw [strB_list, strB_list, Bool.eq_iff_iff, beq_iff_eq, decide_eq_true_iff]
 refine ⟨fun h => ?_, fun h => by rw [h]⟩
 have key : ∀ k : List Nat, (∀ x ∈ k, x < 256) → (k.map UInt8.ofNat).map UInt8.toNat = k := fun k hk => by
  rw [List.map_map]
  refine (List.map_congr_left fun x hx => ?_).trans (List.map_id k)
  have := hk x hx
  simp
  omega
 rw [← key l hl, ← key r hr, h]
/-- Bytes, as1 a string. -/
theorem rd_bstr {l : List Nat} (hs : P.underlying t = some (.slice e)) (he : P.underlying e = some (.int .u8)) (hd : P.underlying t' = some .string) (hx : opv L x = some (.slice A m cap)) (hsl : ∀ w, S w → Sl w none' A m 1 (u8s l)) : Rd P S n L ⟨dst, .convert t t' x, ty, pos, af, g⟩ (.string (strB l)) := fun a w hA hS => by
 have h := hsl w hS
 have hlen : l.length = m := by have := h.len; rw [u8s_len] at this; omega
 simp only [execOp, hA.eval hx]
 cases A with
 | none =>
  have h0 : m = 0 := by
   rcases Nat.eq_zero_or_pos m with h0 | h0
   ·exact h0
   ·have := h.plain h0
    cases this
  subst h0
  have : l = [] := List.length_eq_zero_iff.1 hlen
  subst this
  rw [Sem.run_bind, run_convert_bytes_nil w t e hs he 0 cap t' hd]
  rfl
 | some ad =>
  have hl : (loadCells ad m).run P w = .ok ((l.map fun x : Nat => (x : Int)).map (Value.int .u8)).toArray w := by
   have := run_loadCells_list (P := P) (w := w) ad (u8s l) (fun j v hj => by
    have hjl : j < l.length := by
     have := (List.getElem?_eq_some_iff.1 hj).1
     rwa [u8s_len] at this
    have hp := h.plain (by omega)
    have hc := h.cell j (by omega)
    rw [hj] at hc
    unfold plainA ab ao at hp
    obtain ⟨b, o, s⟩ := ad
    have hs : s = none := by cases hp; rfl
    subst hs
    rw [← hc]
    unfold Addr.add
    split
    ·rename_i h0; subst h0; rfl
    ·rfl)
   rw [u8s_len, hlen] at this
   rw [this]
   congr 2
   unfold u8s
   rw [List.map_map]
   rfl
  have hr : (convert t t' (.slice (some ad) m cap)).run P w = .ok (.string (strB l)) w := by
   rw [run_convert_bytes_string w t t' e _ m cap hs he hd, run_bytesToString w _ m cap _ hl, foldl_push_bytes]
   unfold strB strOfNums
   simp [ByteArray.empty, ByteArray.emptyWithCapacity]
   rfl
  rw [Sem.run_bind, hr]
  rfl
theorem rd_streq {l r : List Nat} (hx : opv L x = some (.string (strB l))) (hy : opv L y = some (.string (strB r))) (hl : ∀ x ∈ l, x < 256) (hr : ∀ x ∈ r, x < 256) : Rd P S n L ⟨dst, .binOp .eql t x y t', ty, pos, af, g⟩ (.bool (decide (l = r))) :=
 rd_bin hx hy fun w => by simp only [Sem.run_bind, eqGuard_str, Result.andThen_ok, binOp_string_eql, strB_inj hl hr, Sem.run_pure]
end
end Go.Proofs.YtfccnoccfhgcbaaGreatDoor
namespace Go.Proofs.YtfccnoccfhgcbaaGreatDoor
open Go Go.RowKit
theorem K14 : callTy Tryz.prog 14 := by unfold callTy; kernel_rfl
theorem K15 : callTy Tryz.prog 15 := by unfold callTy; kernel_rfl
theorem c10 (w : World) (hG : Gl w none') (A1 B1 : Option Addr) (n1 m1 c1 d1 : Nat) (ps1 : List PL) (ss1 : List SH) (h1 : Sl w none' A1 n1 15 (flat PL.enc ps1)) (k1 : Sl w none' B1 m1 11 (flat SH.enc ss1)) (hc1 : n1 ≤ c1) (hd1 : m1 ≤ d1) (A2 B2 : Option Addr) (n2 m2 c2 d2 : Nat) (ps2 : List PL) (ss2 : List SH) (h2 : Sl w none' A2 n2 15 (flat PL.enc ps2)) (k2 : Sl w none' B2 m2 11 (flat SH.enc ss2)) (hc2 : n2 ≤ c2) (hd2 : m2 ≤ d2) (A3 B3 : Option Addr) (n3 m3 c3 d3 : Nat) (ps3 : List PL) (ss3 : List SH) (h3 : Sl w none' A3 n3 15 (flat PL.enc ps3)) (k3 : Sl w none' B3 m3 11 (flat SH.enc ss3)) (hc3 : n3 ≤ c3) (hd3 : m3 ≤ d3) (hS : St w (fpOf []) [] w) : Calls Tryz.prog 10 [.agg #[.slice A1 n1 c1, .slice B1 m1 d1], .agg #[.slice A2 n2 c2, .slice B2 m2 d2], .agg #[.slice A3 n3 c3, .slice B3 m3 d3]].toArray w (RtE fun v w' => ∃ x : Unit, v = (fun _ => .bool true) x ∧ (fun _ => True) x ∧ St w (fpOf []) ((fun _ => []) x) w') := by
 refine enter Tryz.func10 rfl Tryz.ntmps10 rfl hS ?_
 refine c_seq ?_
 refine c_reg ?_
 refine sx (ef_box rfl rfl rfl) rfl ?_
 rintro b3 hb3
 refine sx (ef_box rfl rfl rfl) rfl ?_
 rintro b4 hb4
 refine sx (ef_box rfl rfl rfl) rfl ?_
 rintro b5 hb5
 refine sq (rd_assign rfl) rfl ?_
 refine s_end ?_
 refine f_then ?_
 refine c_seq ?_
 refine c_reg ?_
 refine sx (ef_call rfl rfl K14 (fun _ e => by cases e; rfl) [] _ (.refl _) _ _ _ (fun w hS => by exact c14 w (hG.hand (Ec := []) hS) hS.own)) rfl ?_
 rintro _ _
 refine sq (rd_assign rfl) rfl ?_
 refine s_end ?_
 refine f_then ?_
 refine c_seq ?_
 refine c_reg ?_
 refine sq (rd_ldsb A25 rfl (by repeat constructor) (by first | exact GetR.all _ | repeat constructor)) rfl ?_
 refine sx (ef_call rfl rfl K15 (fun _ e => by cases e; rfl) [] _ (.refl _) _ _ _ (fun w hS => by exact c15 w A1 B1 n1 m1 c1 d1 ps1 ss1 (h1.hand hS (by decide)) (k1.hand hS (by decide)) hc1 hd1 hS.own)) rfl ?_
 rintro ⟨X1, x1, Y1, y1⟩ _
 refine se (ef_stores A25 rfl rfl rfl (by repeat constructor) (by first | exact SetR.all rfl | repeat constructor) rfl) rfl ?_
 refine s_end ?_
 refine f_then ?_
 refine c_seq ?_
 refine c_reg ?_
 refine sq (rd_ldsb A25 rfl (by repeat constructor) (by first | exact GetR.all _ | repeat constructor)) rfl ?_
 refine sx (ef_call rfl rfl K15 (fun _ e => by cases e; rfl) [] _ (.refl _) _ _ _ (fun w hS => by exact c15 w A2 B2 n2 m2 c2 d2 ps2 ss2 (h2.hand hS (by decide)) (k2.hand hS (by decide)) hc2 hd2 hS.own)) rfl ?_
 rintro ⟨X2, x2, Y2, y2⟩ _
 refine se (ef_stores A25 rfl rfl rfl (by repeat constructor) (by first | exact SetR.all rfl | repeat constructor) rfl) rfl ?_
 refine s_end ?_
 refine f_then ?_
 refine c_seq ?_
 refine c_reg ?_
 refine sq (rd_ldsb A25 rfl (by repeat constructor) (by first | exact GetR.all _ | repeat constructor)) rfl ?_
 refine sx (ef_call rfl rfl K15 (fun _ e => by cases e; rfl) [] _ (.refl _) _ _ _ (fun w hS => by exact c15 w A3 B3 n3 m3 c3 d3 ps3 ss3 (h3.hand hS (by decide)) (k3.hand hS (by decide)) hc3 hd3 hS.own)) rfl ?_
 rintro ⟨X3, x3, Y3, y3⟩ _
 refine se (ef_stores A25 rfl rfl rfl (by repeat constructor) (by first | exact SetR.all rfl | repeat constructor) rfl) rfl ?_
 refine s_end ?_
 refine f_then ?_
 refine c_seq ?_
 refine c_seq ?_
 refine c_reg ?_
 refine sq (rd_ldsb A25 rfl (by repeat constructor) (by first | exact GetR.all _ | repeat constructor)) rfl ?_
 refine se (ef_pw rfl rfl K20 rfl (fun w hS => by exact c20 w X1 Y1 (min n1 12) (min m1 70) x1 y1 (ps1.take 12) (ss1.take 70) (hG.hand (Ec := []) hS) (Sl.ofRow' hS (by repeat constructor)) (Sl.ofRow' hS (by repeat constructor)) (by first | decide | (simp only [List.length_take]; omega) | omega) (by first | decide | (simp only [List.length_take]; omega) | omega))) rfl ?_
 refine sq ((by first | exact rd_notd rfl | exact rd_not rfl)) rfl ?_
 refine sq (rd_move rfl) rfl ?_
 refine s_split (d := 18) rfl (fun g18 => ?_) (fun g18 => ?_)
 ·try have g18p := of_decide_eq_true g18
  refine sg0 (fun a hA => wanted_no hA rfl rfl rfl g18 rfl) rfl ?_
  refine sg0 (fun a hA => wanted_no hA rfl rfl rfl g18 rfl) rfl ?_
  refine sg0 (fun a hA => wanted_no hA rfl rfl rfl g18 rfl) rfl ?_
  refine sq (rd_pick_tt rfl g18 rfl) rfl ?_
  refine sq (rd_move rfl) rfl ?_
  refine sg0 (fun a hA => wanted_no hA rfl rfl rfl (Eq.refl _) rfl) rfl ?_
  refine sg0 (fun a hA => wanted_no hA rfl rfl rfl (Eq.refl _) rfl) rfl ?_
  refine sg0 (fun a hA => wanted_no hA rfl rfl rfl (Eq.refl _) rfl) rfl ?_
  refine sq (rd_pick_t rfl rfl) rfl ?_
  refine s_end ?_
  refine f_then ?_
  refine c_lit_t rfl ?_
  refine c_seq ?_
  refine c_reg ?_
  refine sq (rd_move rfl) rfl ?_
  refine sq (rd_assign rfl) rfl ?_
  refine s_end ?_
  refine f_then ?_
  refine c_ret ?_
  refine f_then_r ?_
  refine f_ret rfl (.tmp rfl .nil) ?_
  refine fun w' hS => ⟨_, rfl, (), ?_, trivial, hS.sub (List.nil_sublist _)⟩
  first | (simp; done) | (simp only [resVal_one]; rw [hU]; simp)
 ·have hr1 : rightS (ps1.take 12) (ss1.take 70) = true := by simpa using g18
  try have g18p := of_decide_eq_false g18
  refine sg1 (fun a hA => wanted_yes hA rfl rfl rfl g18) (rd_ldsb A25 rfl (by repeat constructor) (by first | exact GetR.all _ | repeat constructor)) rfl ?_
  refine seg (fun a hA => wanted_yes hA rfl rfl rfl g18) (ef_pw rfl rfl K20 rfl (fun w hS => by exact c20 w X2 Y2 (min n2 12) (min m2 70) x2 y2 (ps2.take 12) (ss2.take 70) (hG.hand (Ec := []) hS) (Sl.ofRow' hS (by repeat constructor)) (Sl.ofRow' hS (by repeat constructor)) (by first | decide | (simp only [List.length_take]; omega) | omega) (by first | decide | (simp only [List.length_take]; omega) | omega))) ?_
  refine sg1 (fun a hA => wanted_yes hA rfl rfl rfl g18) ((by first | exact rd_notd rfl | exact rd_not rfl)) rfl ?_
  refine sq (rd_pick_ff rfl g18 rfl) rfl ?_
  refine sq (rd_move rfl) rfl ?_
  refine s_split (d := 23) rfl (fun g23 => ?_) (fun g23 => ?_)
  ·try have g23p := of_decide_eq_true g23
   refine sg0 (fun a hA => wanted_no hA rfl rfl rfl g23 rfl) rfl ?_
   refine sg0 (fun a hA => wanted_no hA rfl rfl rfl g23 rfl) rfl ?_
   refine sg0 (fun a hA => wanted_no hA rfl rfl rfl g23 rfl) rfl ?_
   refine sq (rd_pick_tt rfl g23 rfl) rfl ?_
   refine s_end ?_
   refine f_then ?_
   refine c_lit_t rfl ?_
   refine c_seq ?_
   refine c_reg ?_
   refine sq (rd_move rfl) rfl ?_
   refine sq (rd_assign rfl) rfl ?_
   refine s_end ?_
   refine f_then ?_
   refine c_ret ?_
   refine f_then_r ?_
   refine f_ret rfl (.tmp rfl .nil) ?_
   refine fun w' hS => ⟨_, rfl, (), ?_, trivial, hS.sub (List.nil_sublist _)⟩
   first | (simp; done) | (simp only [resVal_one]; rw [hU]; simp)
  ·have hr2 : rightS (ps2.take 12) (ss2.take 70) = true := by simpa using g23
   try have g23p := of_decide_eq_false g23
   refine sg1 (fun a hA => wanted_yes hA rfl rfl rfl g23) (rd_ldsb A25 rfl (by repeat constructor) (by first | exact GetR.all _ | repeat constructor)) rfl ?_
   refine seg (fun a hA => wanted_yes hA rfl rfl rfl g23) (ef_pw rfl rfl K20 rfl (fun w hS => by exact c20 w X3 Y3 (min n3 12) (min m3 70) x3 y3 (ps3.take 12) (ss3.take 70) (hG.hand (Ec := []) hS) (Sl.ofRow' hS (by repeat constructor)) (Sl.ofRow' hS (by repeat constructor)) (by first | decide | (simp only [List.length_take]; omega) | omega) (by first | decide | (simp only [List.length_take]; omega) | omega))) ?_
   refine sg1 (fun a hA => wanted_yes hA rfl rfl rfl g23) ((by first | exact rd_notd rfl | exact rd_not rfl)) rfl ?_
   refine sq (rd_pick_ff rfl g23 rfl) rfl ?_
   refine s_end ?_
   refine f_then ?_
   refine c_cond rfl (fun h27 => ?_) (fun h27 => ?_)
   ·refine c_seq ?_
    refine c_reg ?_
    refine sq (rd_move rfl) rfl ?_
    refine sq (rd_assign rfl) rfl ?_
    refine s_end ?_
    refine f_then ?_
    refine c_ret ?_
    refine f_then_r ?_
    refine f_ret rfl (.tmp rfl .nil) ?_
    refine fun w' hS => ⟨_, rfl, (), ?_, trivial, hS.sub (List.nil_sublist _)⟩
    first | (simp; done) | (simp only [resVal_one]; rw [hU]; simp)
   ·have hr3 : rightS (ps3.take 12) (ss3.take 70) = true := by simpa using h27
    have hU : decide (deltaL (ps1.take 12) (ss1.take 70) (ps2.take 12) (ss2.take 70) = deltaL (ps1.take 12) (ss1.take 70) (ps3.take 12) (ss3.take 70)) = (decide (ps2.take 12 = ps3.take 12) && decide (ss2.take 70 = ss3.take 70)) := by
     rw [Bool.eq_iff_iff, Bool.and_eq_true, decide_eq_true_iff, decide_eq_true_iff, decide_eq_true_iff]
     exact ⟨fun h => deltaL_inj hr1 hr2 hr3 h, fun h => by rw [h.1, h.2]⟩
    refine c_skip ?_
    refine f_then ?_
    refine c_seq ?_
    refine c_regd [.row _ _ X3 _ x3 _, .row _ _ Y3 _ y3 _, .row _ _ X2 _ x2 _, .row _ _ Y2 _ y2 _, .row _ _ X1 _ x1 _, .row _ _ Y1 _ y1 _, .blk b5 _ _, .blk b4 _ _, .blk b3 _ _] (.q 0 (.q 1 (.q 2 (.q 3 (.q 6 (.q 7 (.q 11 (.q 12 (.alt 4 (.alt 5 (.alt 8 (.alt 9 (.q 10 (.alt 13 (.q 14 (.q 15 (.q 16 .done))) .stop)) (.alt 13 (.alt 9 (.q 10 (.q 14 (.q 15 (.q 16 .done)))) .stop) .stop)) .stop) (.alt 8 (.alt 5 (.alt 9 (.q 10 (.alt 13 (.q 14 (.q 15 (.q 16 .done))) .stop)) (.alt 13 (.alt 9 (.q 10 (.q 14 (.q 15 (.q 16 .done)))) .stop) .stop)) (.alt 9 (.alt 5 (.q 10 (.alt 13 (.q 14 (.q 15 (.q 16 .done))) .stop)) (.alt 13 (.alt 5 (.q 10 (.q 14 (.q 15 (.q 16 .done)))) .stop) .stop)) (.alt 13 (.alt 5 (.alt 9 (.q 10 (.q 14 (.q 15 (.q 16 .done)))) .stop) (.alt 9 (.alt 5 (.q 10 (.q 14 (.q 15 (.q 16 .done)))) .stop) .stop)) .stop))) .stop)) .stop))))))))) (by kernel_rfl) (by kernel_rfl) (by kernel_rfl) (by kernel_rfl) (fun _ h => h.sb) ?_
    refine dq rfl (rd_move rfl) rfl ?_
    refine dq rfl (rd_move rfl) rfl ?_
    refine d_split (d := 30) rfl (fun g30 => ?_) (fun g30 => ?_)
    ·try have g30p := of_decide_eq_true g30
     refine dq1 rfl (fun a hA => wanted_yes hA rfl rfl rfl g30) (rd_ldsb A25 rfl (by repeat constructor) (by first | exact GetR.all _ | repeat constructor)) rfl ?_
     refine dq1 rfl (fun a hA => wanted_yes hA rfl rfl rfl g30) (rd_ldsb A25 rfl (by repeat constructor) (by first | exact GetR.all _ | repeat constructor)) rfl ?_
     refine dq1 rfl (fun a hA => wanted_yes hA rfl rfl rfl g30) (rd_ldsb A25 rfl (by repeat constructor) (by first | exact GetR.all _ | repeat constructor)) rfl ?_
     refine dq1 rfl (fun a hA => wanted_yes hA rfl rfl rfl g30) (rd_ldsb A25 rfl (by repeat constructor) (by first | exact GetR.all _ | repeat constructor)) rfl ?_
     refine dq1 rfl (fun a hA => wanted_yes hA rfl rfl rfl g30) (rd_ldsb A25 rfl (by repeat constructor) (by first | exact GetR.all _ | repeat constructor)) rfl ?_
     refine dq1 rfl (fun a hA => wanted_yes hA rfl rfl rfl g30) (rd_ldsb A25 rfl (by repeat constructor) (by first | exact GetR.all _ | repeat constructor)) rfl ?_
     refine dxg rfl (fun a hA => wanted_yes hA rfl rfl rfl g30) (ef_call rfl rfl K23 (fun _ e => by cases e; rfl) [] _ (.refl _) _ _ _ (fun w hS => by exact c23 w X1 Y1 X2 Y2 (min n1 12) (min m1 70) (min n2 12) (min m2 70) x1 y1 x2 y2 (ps1.take 12) (ps2.take 12) (ss1.take 70) (ss2.take 70) (hG.hand (Ec := []) hS) (Sl.ofRow' hS (by repeat constructor)) (Sl.ofRow' hS (by repeat constructor)) (Sl.ofRow' hS (by repeat constructor)) (Sl.ofRow' hS (by repeat constructor)) (by first | decide | (simp only [List.length_take]; omega) | omega) (by first | decide | (simp only [List.length_take]; omega) | omega) (by first | decide | (simp only [List.length_take]; omega) | omega) (by first | decide | (simp only [List.length_take]; omega) | omega) hS.own)) (fun _ _ _ h => h.sb) ?_ d_stop
     rintro ⟨DA1, dc1⟩ _
     refine deg rfl (fun a hA => wanted_yes hA rfl rfl rfl g30) (ef_quiet (rd_bstr Tryz.underlying37 Tryz.underlying5 Tryz.underlying9 rfl (fun w hS => ((Sl.ofRow' hS (by repeat constructor)) : Sl w none' _ _ 1 (u8s (deltaL (ps1.take 12) (ss1.take 70) (ps2.take 12) (ss2.take 70)))))) rfl) (fun _ h => h.sb) ?_ ?_
     ·refine dxg rfl (fun a hA => wanted_yes hA rfl rfl rfl g30) (ef_call rfl rfl K23 (fun _ e => by cases e; rfl) [] _ (.refl _) _ _ _ (fun w hS => by exact c23 w X1 Y1 X3 Y3 (min n1 12) (min m1 70) (min n3 12) (min m3 70) x1 y1 x3 y3 (ps1.take 12) (ps3.take 12) (ss1.take 70) (ss3.take 70) (hG.hand (Ec := []) hS) (Sl.ofRow' hS (by repeat constructor)) (Sl.ofRow' hS (by repeat constructor)) (Sl.ofRow' hS (by repeat constructor)) (Sl.ofRow' hS (by repeat constructor)) (by first | decide | (simp only [List.length_take]; omega) | omega) (by first | decide | (simp only [List.length_take]; omega) | omega) (by first | decide | (simp only [List.length_take]; omega) | omega) (by first | decide | (simp only [List.length_take]; omega) | omega) hS.own)) (fun _ _ _ h => h.sb) ?_ d_stop
      rintro ⟨DA2, dc2⟩ _
      refine deg rfl (fun a hA => wanted_yes hA rfl rfl rfl g30) (ef_quiet (rd_bstr Tryz.underlying37 Tryz.underlying5 Tryz.underlying9 rfl (fun w hS => ((Sl.ofRow' hS (by repeat constructor)) : Sl w none' _ _ 1 (u8s (deltaL (ps1.take 12) (ss1.take 70) (ps3.take 12) (ss3.take 70)))))) rfl) (fun _ h => h.sb) ?_ ?_
      ·refine dq1 rfl (fun a hA => wanted_yes hA rfl rfl rfl g30) (rd_streq rfl rfl deltaL_lt deltaL_lt) rfl ?_
       refine deg rfl (fun a hA => wanted_yes hA rfl rfl rfl g30) (ef_pw rfl rfl K22 rfl (fun w hS => by exact c22 w X2 Y2 X3 Y3 (min n2 12) (min m2 70) (min n3 12) (min m3 70) x2 y2 x3 y3 (ps2.take 12) (ps3.take 12) (ss2.take 70) (ss3.take 70) (Sl.ofRow' hS (by repeat constructor)) (Sl.ofRow' hS (by repeat constructor)) (Sl.ofRow' hS (by repeat constructor)) (Sl.ofRow' hS (by repeat constructor)))) (fun _ h => h.sb) ?_ d_stop
       refine dq1 rfl (fun a hA => wanted_yes hA rfl rfl rfl g30) (rd_eqb B4 rfl rfl) rfl ?_
       refine dq rfl (rd_pick_tt rfl g30 rfl) rfl ?_
       refine dq rfl (rd_assign rfl) rfl ?_
       refine d_end ?_
       refine f_then ?_
       refine c_ret ?_
       refine f_ret rfl (.tmp rfl .nil) ?_
       refine fun w' hS => ⟨_, rfl, (), ?_, trivial, hS.sub (List.nil_sublist _)⟩
       first | (simp; done) | (simp only [resVal_one]; rw [hU]; simp)
      refine deg rfl (fun a hA => wanted_yes hA rfl rfl rfl g30) (ef_pw rfl rfl K22 rfl (fun w hS => by exact c22 w X2 Y2 X3 Y3 (min n2 12) (min m2 70) (min n3 12) (min m3 70) x2 y2 x3 y3 (ps2.take 12) (ps3.take 12) (ss2.take 70) (ss3.take 70) (Sl.ofRow' hS (by repeat constructor)) (Sl.ofRow' hS (by repeat constructor)) (Sl.ofRow' hS (by repeat constructor)) (Sl.ofRow' hS (by repeat constructor)))) (fun _ h => h.sb) ?_ ?_
      ·refine deg rfl (fun a hA => wanted_yes hA rfl rfl rfl g30) (ef_quiet (rd_bstr Tryz.underlying37 Tryz.underlying5 Tryz.underlying9 rfl (fun w hS => ((Sl.ofRow' hS (by repeat constructor)) : Sl w none' _ _ 1 (u8s (deltaL (ps1.take 12) (ss1.take 70) (ps3.take 12) (ss3.take 70)))))) rfl) (fun _ h => h.sb) ?_ d_stop
       refine dq1 rfl (fun a hA => wanted_yes hA rfl rfl rfl g30) (rd_streq rfl rfl deltaL_lt deltaL_lt) rfl ?_
       refine dq1 rfl (fun a hA => wanted_yes hA rfl rfl rfl g30) (rd_eqb B4 rfl rfl) rfl ?_
       refine dq rfl (rd_pick_tt rfl g30 rfl) rfl ?_
       refine dq rfl (rd_assign rfl) rfl ?_
       refine d_end ?_
       refine f_then ?_
       refine c_ret ?_
       refine f_ret rfl (.tmp rfl .nil) ?_
       refine fun w' hS => ⟨_, rfl, (), ?_, trivial, hS.sub (List.nil_sublist _)⟩
       first | (simp; done) | (simp only [resVal_one]; rw [hU]; simp)
      exact d_stop
     refine dxg rfl (fun a hA => wanted_yes hA rfl rfl rfl g30) (ef_call rfl rfl K23 (fun _ e => by cases e; rfl) [] _ (.refl _) _ _ _ (fun w hS => by exact c23 w X1 Y1 X3 Y3 (min n1 12) (min m1 70) (min n3 12) (min m3 70) x1 y1 x3 y3 (ps1.take 12) (ps3.take 12) (ss1.take 70) (ss3.take 70) (hG.hand (Ec := []) hS) (Sl.ofRow' hS (by repeat constructor)) (Sl.ofRow' hS (by repeat constructor)) (Sl.ofRow' hS (by repeat constructor)) (Sl.ofRow' hS (by repeat constructor)) (by first | decide | (simp only [List.length_take]; omega) | omega) (by first | decide | (simp only [List.length_take]; omega) | omega) (by first | decide | (simp only [List.length_take]; omega) | omega) (by first | decide | (simp only [List.length_take]; omega) | omega) hS.own)) (fun _ _ _ h => h.sb) ?_ ?_
     ·rintro ⟨DA2, dc2⟩ _
      refine deg rfl (fun a hA => wanted_yes hA rfl rfl rfl g30) (ef_quiet (rd_bstr Tryz.underlying37 Tryz.underlying5 Tryz.underlying9 rfl (fun w hS => ((Sl.ofRow' hS (by repeat constructor)) : Sl w none' _ _ 1 (u8s (deltaL (ps1.take 12) (ss1.take 70) (ps2.take 12) (ss2.take 70)))))) rfl) (fun _ h => h.sb) ?_ ?_
      ·refine deg rfl (fun a hA => wanted_yes hA rfl rfl rfl g30) (ef_quiet (rd_bstr Tryz.underlying37 Tryz.underlying5 Tryz.underlying9 rfl (fun w hS => ((Sl.ofRow' hS (by repeat constructor)) : Sl w none' _ _ 1 (u8s (deltaL (ps1.take 12) (ss1.take 70) (ps3.take 12) (ss3.take 70)))))) rfl) (fun _ h => h.sb) ?_ ?_
       ·refine dq1 rfl (fun a hA => wanted_yes hA rfl rfl rfl g30) (rd_streq rfl rfl deltaL_lt deltaL_lt) rfl ?_
        refine deg rfl (fun a hA => wanted_yes hA rfl rfl rfl g30) (ef_pw rfl rfl K22 rfl (fun w hS => by exact c22 w X2 Y2 X3 Y3 (min n2 12) (min m2 70) (min n3 12) (min m3 70) x2 y2 x3 y3 (ps2.take 12) (ps3.take 12) (ss2.take 70) (ss3.take 70) (Sl.ofRow' hS (by repeat constructor)) (Sl.ofRow' hS (by repeat constructor)) (Sl.ofRow' hS (by repeat constructor)) (Sl.ofRow' hS (by repeat constructor)))) (fun _ h => h.sb) ?_ d_stop
        refine dq1 rfl (fun a hA => wanted_yes hA rfl rfl rfl g30) (rd_eqb B4 rfl rfl) rfl ?_
        refine dq rfl (rd_pick_tt rfl g30 rfl) rfl ?_
        refine dq rfl (rd_assign rfl) rfl ?_
        refine d_end ?_
        refine f_then ?_
        refine c_ret ?_
        refine f_ret rfl (.tmp rfl .nil) ?_
        refine fun w' hS => ⟨_, rfl, (), ?_, trivial, hS.sub (List.nil_sublist _)⟩
        first | (simp; done) | (simp only [resVal_one]; rw [hU]; simp)
       refine deg rfl (fun a hA => wanted_yes hA rfl rfl rfl g30) (ef_pw rfl rfl K22 rfl (fun w hS => by exact c22 w X2 Y2 X3 Y3 (min n2 12) (min m2 70) (min n3 12) (min m3 70) x2 y2 x3 y3 (ps2.take 12) (ps3.take 12) (ss2.take 70) (ss3.take 70) (Sl.ofRow' hS (by repeat constructor)) (Sl.ofRow' hS (by repeat constructor)) (Sl.ofRow' hS (by repeat constructor)) (Sl.ofRow' hS (by repeat constructor)))) (fun _ h => h.sb) ?_ ?_
       ·refine deg rfl (fun a hA => wanted_yes hA rfl rfl rfl g30) (ef_quiet (rd_bstr Tryz.underlying37 Tryz.underlying5 Tryz.underlying9 rfl (fun w hS => ((Sl.ofRow' hS (by repeat constructor)) : Sl w none' _ _ 1 (u8s (deltaL (ps1.take 12) (ss1.take 70) (ps3.take 12) (ss3.take 70)))))) rfl) (fun _ h => h.sb) ?_ d_stop
        refine dq1 rfl (fun a hA => wanted_yes hA rfl rfl rfl g30) (rd_streq rfl rfl deltaL_lt deltaL_lt) rfl ?_
        refine dq1 rfl (fun a hA => wanted_yes hA rfl rfl rfl g30) (rd_eqb B4 rfl rfl) rfl ?_
        refine dq rfl (rd_pick_tt rfl g30 rfl) rfl ?_
        refine dq rfl (rd_assign rfl) rfl ?_
        refine d_end ?_
        refine f_then ?_
        refine c_ret ?_
        refine f_ret rfl (.tmp rfl .nil) ?_
        refine fun w' hS => ⟨_, rfl, (), ?_, trivial, hS.sub (List.nil_sublist _)⟩
        first | (simp; done) | (simp only [resVal_one]; rw [hU]; simp)
       exact d_stop
      refine deg rfl (fun a hA => wanted_yes hA rfl rfl rfl g30) (ef_quiet (rd_bstr Tryz.underlying37 Tryz.underlying5 Tryz.underlying9 rfl (fun w hS => ((Sl.ofRow' hS (by repeat constructor)) : Sl w none' _ _ 1 (u8s (deltaL (ps1.take 12) (ss1.take 70) (ps3.take 12) (ss3.take 70)))))) rfl) (fun _ h => h.sb) ?_ ?_
      ·refine deg rfl (fun a hA => wanted_yes hA rfl rfl rfl g30) (ef_quiet (rd_bstr Tryz.underlying37 Tryz.underlying5 Tryz.underlying9 rfl (fun w hS => ((Sl.ofRow' hS (by repeat constructor)) : Sl w none' _ _ 1 (u8s (deltaL (ps1.take 12) (ss1.take 70) (ps2.take 12) (ss2.take 70)))))) rfl) (fun _ h => h.sb) ?_ ?_
       ·refine dq1 rfl (fun a hA => wanted_yes hA rfl rfl rfl g30) (rd_streq rfl rfl deltaL_lt deltaL_lt) rfl ?_
        refine deg rfl (fun a hA => wanted_yes hA rfl rfl rfl g30) (ef_pw rfl rfl K22 rfl (fun w hS => by exact c22 w X2 Y2 X3 Y3 (min n2 12) (min m2 70) (min n3 12) (min m3 70) x2 y2 x3 y3 (ps2.take 12) (ps3.take 12) (ss2.take 70) (ss3.take 70) (Sl.ofRow' hS (by repeat constructor)) (Sl.ofRow' hS (by repeat constructor)) (Sl.ofRow' hS (by repeat constructor)) (Sl.ofRow' hS (by repeat constructor)))) (fun _ h => h.sb) ?_ d_stop
        refine dq1 rfl (fun a hA => wanted_yes hA rfl rfl rfl g30) (rd_eqb B4 rfl rfl) rfl ?_
        refine dq rfl (rd_pick_tt rfl g30 rfl) rfl ?_
        refine dq rfl (rd_assign rfl) rfl ?_
        refine d_end ?_
        refine f_then ?_
        refine c_ret ?_
        refine f_ret rfl (.tmp rfl .nil) ?_
        refine fun w' hS => ⟨_, rfl, (), ?_, trivial, hS.sub (List.nil_sublist _)⟩
        first | (simp; done) | (simp only [resVal_one]; rw [hU]; simp)
       refine deg rfl (fun a hA => wanted_yes hA rfl rfl rfl g30) (ef_pw rfl rfl K22 rfl (fun w hS => by exact c22 w X2 Y2 X3 Y3 (min n2 12) (min m2 70) (min n3 12) (min m3 70) x2 y2 x3 y3 (ps2.take 12) (ps3.take 12) (ss2.take 70) (ss3.take 70) (Sl.ofRow' hS (by repeat constructor)) (Sl.ofRow' hS (by repeat constructor)) (Sl.ofRow' hS (by repeat constructor)) (Sl.ofRow' hS (by repeat constructor)))) (fun _ h => h.sb) ?_ ?_
       ·refine deg rfl (fun a hA => wanted_yes hA rfl rfl rfl g30) (ef_quiet (rd_bstr Tryz.underlying37 Tryz.underlying5 Tryz.underlying9 rfl (fun w hS => ((Sl.ofRow' hS (by repeat constructor)) : Sl w none' _ _ 1 (u8s (deltaL (ps1.take 12) (ss1.take 70) (ps2.take 12) (ss2.take 70)))))) rfl) (fun _ h => h.sb) ?_ d_stop
        refine dq1 rfl (fun a hA => wanted_yes hA rfl rfl rfl g30) (rd_streq rfl rfl deltaL_lt deltaL_lt) rfl ?_
        refine dq1 rfl (fun a hA => wanted_yes hA rfl rfl rfl g30) (rd_eqb B4 rfl rfl) rfl ?_
        refine dq rfl (rd_pick_tt rfl g30 rfl) rfl ?_
        refine dq rfl (rd_assign rfl) rfl ?_
        refine d_end ?_
        refine f_then ?_
        refine c_ret ?_
        refine f_ret rfl (.tmp rfl .nil) ?_
        refine fun w' hS => ⟨_, rfl, (), ?_, trivial, hS.sub (List.nil_sublist _)⟩
        first | (simp; done) | (simp only [resVal_one]; rw [hU]; simp)
       exact d_stop
      refine deg rfl (fun a hA => wanted_yes hA rfl rfl rfl g30) (ef_pw rfl rfl K22 rfl (fun w hS => by exact c22 w X2 Y2 X3 Y3 (min n2 12) (min m2 70) (min n3 12) (min m3 70) x2 y2 x3 y3 (ps2.take 12) (ps3.take 12) (ss2.take 70) (ss3.take 70) (Sl.ofRow' hS (by repeat constructor)) (Sl.ofRow' hS (by repeat constructor)) (Sl.ofRow' hS (by repeat constructor)) (Sl.ofRow' hS (by repeat constructor)))) (fun _ h => h.sb) ?_ ?_
      ·refine deg rfl (fun a hA => wanted_yes hA rfl rfl rfl g30) (ef_quiet (rd_bstr Tryz.underlying37 Tryz.underlying5 Tryz.underlying9 rfl (fun w hS => ((Sl.ofRow' hS (by repeat constructor)) : Sl w none' _ _ 1 (u8s (deltaL (ps1.take 12) (ss1.take 70) (ps2.take 12) (ss2.take 70)))))) rfl) (fun _ h => h.sb) ?_ ?_
       ·refine deg rfl (fun a hA => wanted_yes hA rfl rfl rfl g30) (ef_quiet (rd_bstr Tryz.underlying37 Tryz.underlying5 Tryz.underlying9 rfl (fun w hS => ((Sl.ofRow' hS (by repeat constructor)) : Sl w none' _ _ 1 (u8s (deltaL (ps1.take 12) (ss1.take 70) (ps3.take 12) (ss3.take 70)))))) rfl) (fun _ h => h.sb) ?_ d_stop
        refine dq1 rfl (fun a hA => wanted_yes hA rfl rfl rfl g30) (rd_streq rfl rfl deltaL_lt deltaL_lt) rfl ?_
        refine dq1 rfl (fun a hA => wanted_yes hA rfl rfl rfl g30) (rd_eqb B4 rfl rfl) rfl ?_
        refine dq rfl (rd_pick_tt rfl g30 rfl) rfl ?_
        refine dq rfl (rd_assign rfl) rfl ?_
        refine d_end ?_
        refine f_then ?_
        refine c_ret ?_
        refine f_ret rfl (.tmp rfl .nil) ?_
        refine fun w' hS => ⟨_, rfl, (), ?_, trivial, hS.sub (List.nil_sublist _)⟩
        first | (simp; done) | (simp only [resVal_one]; rw [hU]; simp)
       refine deg rfl (fun a hA => wanted_yes hA rfl rfl rfl g30) (ef_quiet (rd_bstr Tryz.underlying37 Tryz.underlying5 Tryz.underlying9 rfl (fun w hS => ((Sl.ofRow' hS (by repeat constructor)) : Sl w none' _ _ 1 (u8s (deltaL (ps1.take 12) (ss1.take 70) (ps3.take 12) (ss3.take 70)))))) rfl) (fun _ h => h.sb) ?_ ?_
       ·refine deg rfl (fun a hA => wanted_yes hA rfl rfl rfl g30) (ef_quiet (rd_bstr Tryz.underlying37 Tryz.underlying5 Tryz.underlying9 rfl (fun w hS => ((Sl.ofRow' hS (by repeat constructor)) : Sl w none' _ _ 1 (u8s (deltaL (ps1.take 12) (ss1.take 70) (ps2.take 12) (ss2.take 70)))))) rfl) (fun _ h => h.sb) ?_ d_stop
        refine dq1 rfl (fun a hA => wanted_yes hA rfl rfl rfl g30) (rd_streq rfl rfl deltaL_lt deltaL_lt) rfl ?_
        refine dq1 rfl (fun a hA => wanted_yes hA rfl rfl rfl g30) (rd_eqb B4 rfl rfl) rfl ?_
        refine dq rfl (rd_pick_tt rfl g30 rfl) rfl ?_
        refine dq rfl (rd_assign rfl) rfl ?_
        refine d_end ?_
        refine f_then ?_
        refine c_ret ?_
        refine f_ret rfl (.tmp rfl .nil) ?_
        refine fun w' hS => ⟨_, rfl, (), ?_, trivial, hS.sub (List.nil_sublist _)⟩
        first | (simp; done) | (simp only [resVal_one]; rw [hU]; simp)
       exact d_stop
      exact d_stop
     exact d_stop
    ·exact absurd g30 (by simp)

end Go.Proofs.YtfccnoccfhgcbaaGreatDoor
namespace Go.Proofs.YtfccnoccfhgcbaaGreatDoor.viewUnlike
open Go Go.RowKit Go.ChangeShapes Go.WideShapes
theorem below {W W' : World} (h : St W none' [] W') : Below W.heap.size W W' := ⟨h.os, h.tape, h.output, h.size, fun k hk => h.base k hk (none'_no k)⟩
set_option maxRecDepth 100000 in
theorem lifted (os : Os) (started : os.Started) (H : Type) (enc : TypeId × Value → H) :
  ReturnsInHanded {} Tryz.checked os 10 .any (fun w args => (Rows.viewUnlikeSpec.pre enc Tryz.prog Tryz.f10 [] false w args ∧ laidMetH Tryz.prog laid2 w) ∧ sizedMet enc Tryz.prog Tryz.f10 (OpenSpec.ofChange Rows.viewUnlikeSpec) false w args)
   (Rows.viewUnlikeSpec.post enc Tryz.prog Tryz.f10 false true false false) := by
 refine returnsInHanded_of_change_and (C := Tryz.checked) (X := fun w _ => laidMetH Tryz.prog laid2 w) (fun _ _ _ hh h => h.of_heap hh) own started (by kernel_rfl) Tryz.func10
  (ChangeSpec.witness_shaped (enc := enc) (C := Tryz.checked) (os := os) (X := fun w _ => laidMetH Tryz.prog laid2 w) false (World.doorLaid Tryz.prog 400 os) #[.agg #[.slice none 0 0, .slice none 0 0], .agg #[.slice none 0 0, .slice none 0 0], .agg #[.slice none 0 0, .slice none 0 0]] 8 rfl (World.shaped_of_RefB (by kernel_rfl) (by kernel_rfl)) (by kernel_rfl) (by kernel_rfl) (by kernel_rfl) (door_met os _)) ?_
 intro W base args ds gs before hval0 hW _ _ hL _
 have hval : ∀ (j : Nat) t v, Tryz.f10.params[j]? = some t → args[j]? = some v → Value.okWide Tryz.prog W .any base t v := hval0
 have hW' := hW
 obtain ⟨p, q, hA0, hV, rfl, hfz, hnd⟩ := hW
 have hA : DataW.TrodAll enc Tryz.prog W 0 (fun _ => true) true Tryz.f10.params.toList args.toList ds p := hA0
 rw [Tryz.params10] at hA hval
 obtain ⟨v0, vs0, d0, ds0, p0, q0, hargs, rfl, rfl, t0, r0⟩ := trodAll_cons hA
 obtain ⟨v1, vs1, d1, ds1, p1, q1, rfl, rfl, rfl, t1, r1⟩ := trodAll_cons r0
 obtain ⟨v2, vs2, d2, ds2, p2, q2, rfl, rfl, rfl, t2, r2⟩ := trodAll_cons r1
 obtain ⟨rfl, rfl, rfl⟩ := trodAll_nil r2
 obtain rfl : args = #[v0, v1, v2] := by cases args; simp_all
 obtain ⟨rfl, rfl⟩ := trodVars_none hV
 have hG := gl_of_laid hL
 have kk0 := t0
 have lt0 : ∀ x ∈ p0, x.block < W.heap.size := by obtain ⟨m, hm⟩ := kk0; exact DataW.trod_lt m _ _ _ hm
 obtain ⟨A0, B0, n0, m0, c0, e0, ps0, ss0, rfl, h0, k0, hc0, he0, ok0, os0⟩ := rd_state t0 (okWide_struct Tryz.underlying25 (hval 0 25 v0 rfl rfl))
 have kk1 := t1
 have lt1 : ∀ x ∈ p1, x.block < W.heap.size := by obtain ⟨m, hm⟩ := kk1; exact DataW.trod_lt m _ _ _ hm
 obtain ⟨A1, B1, n1, m1, c1, e1, ps1, ss1, rfl, h1, k1, hc1, he1, ok1, os1⟩ := rd_state t1 (okWide_struct Tryz.underlying25 (hval 1 25 v1 rfl rfl))
 have kk2 := t2
 have lt2 : ∀ x ∈ p2, x.block < W.heap.size := by obtain ⟨m, hm⟩ := kk2; exact DataW.trod_lt m _ _ _ hm
 obtain ⟨A2, B2, n2, m2, c2, e2, ps2, ss2, rfl, h2, k2, hc2, he2, ok2, os2⟩ := rd_state t2 (okWide_struct Tryz.underlying25 (hval 2 25 v2 rfl rfl))
 refine Calls.mono (c10 W hG A0 B0 n0 m0 c0 e0 ps0 ss0 h0 k0 hc0 he0 A1 B1 n1 m1 c1 e1 ps1 ss1 h1 k1 hc1 he1 A2 B2 n2 m2 c2 e2 ps2 ss2 h2 k2 hc2 he2 (St.start W _)) fun e W' h => ?_
 obtain ⟨v, rfl, x, rfl, _, hS⟩ := h
 have bel := below hS
 exact ⟨_, rfl, _, _, _, [], _, [], hW', trodAll_mk1 (shut_bool Tryz.underlying4 _), (trodAll_cons_mk (Below.trod laidOut (by kernel_rfl) (of_decide_eq_true (by kernel_rfl)) kk0 bel lt0) (trodAll_cons_mk (Below.trod laidOut (by kernel_rfl) (of_decide_eq_true (by kernel_rfl)) kk1 bel lt1) (trodAll_cons_mk (Below.trod laidOut (by kernel_rfl) (of_decide_eq_true (by kernel_rfl)) kk2 bel lt2) trodAll_mk0))), rfl, bel.frame _, fun h => by cases h⟩
theorem over : Rows.ViewUnlikeSaid :=
 OpenClaim.holds_of_wide 10 Tryz.f10 rfl rfl rfl rfl rfl rfl rfl ⟨rfl, rfl, rfl, rfl, rfl⟩ rfl rfl rfl rfl rfl (by kernel_rfl) Tryz.func10 (by kernel_rfl)
  (of_decide_eq_true (by kernel_rfl)) (by unfold Func.isWrapper; first | (rw [if_pos (by decide +kernel)]; kernel_rfl) | (rw [if_neg (by decide +kernel)]; exact ⟨rfl, rfl⟩))
  (fun os started H enc _ => lifted os started H enc)
end Go.Proofs.YtfccnoccfhgcbaaGreatDoor.viewUnlike
namespace Go.Proofs.YtfccnoccfhgcbaaGreatDoor
/-- The card. -/
theorem viewUnlike_card : Rows.ViewUnlikeCardSaid :=
 Claim7.holds_tied_plain_at .later [] [.wider, .wider] true (true, "4eaa47956d02c688950758280d0594a06d21b47fca31964564c4137525720bfd") false
  viewUnlike.over (fun _ h => by cases h) (by kernel_rfl) (fun _ h => by cases h) viewUnlike_row_tie rfl ⟨rfl, rfl⟩ (by kernel_rfl) rfl
  (fun f fn hf hfn => by
   obtain rfl : f = 10 := Option.some.inj ((show Tryz.prog.funcNamed "embrasure/embrasurelaw18.ViewUnlike" = some 10 by kernel_rfl).symm.trans hf) |>.symm
   obtain rfl : fn = Tryz.f10 := (Option.some.inj (Tryz.func10.symm.trans hfn)).symm
   exact ⟨by kernel_rfl, fun j t ht => by
    rw [Tryz.params10] at ht
    have hm : t ∈ [25, 25, 25] := by simpa using Array.mem_of_getElem? ht
    have hall : ([25, 25, 25].all fun u => !Tryz.prog.wantsStandIn u) = true := by kernel_rfl
    exact (show Tryz.prog.wantsStandIn t = false by simpa using List.all_eq_true.1 hall t hm)⟩)
  (by kernel_rfl)
#print axioms viewUnlike_card
end Go.Proofs.YtfccnoccfhgcbaaGreatDoor
