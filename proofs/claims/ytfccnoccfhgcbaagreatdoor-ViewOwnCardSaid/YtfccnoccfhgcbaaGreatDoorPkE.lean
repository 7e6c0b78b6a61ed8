/- What the laws on views share: each function of the program that they reach, what it computes; no conditions beyond those that each theorem states. -/
import Derived.Test.YtfccnoccfhgcbaaGreatDoorPkD
import Derived.Test.YtfccnoccfhgcbaaGreatDoorProg
import Derived.Lib.Overlaps
import Derived.Test.YtfccnoccfhgcbaaGreatDoorRows
import Derived.Carry
import Derived.OpenShut
import Derived.Below
import Derived.ProofKit
import Derived.LaidMore
import Derived.MakeChecks
import Derived.Stop.Joined
set_option linter.unusedVariables false
set_option linter.unusedSimpArgs false
set_option maxRecDepth 20000
set_option maxHeartbeats 400000
namespace Go.Proofs.YtfccnoccfhgcbaaGreatDoor
open Go Go.RowKit

/-- The bits of bytes. -/
def unp (l : List Nat) : List Bool := l.flatMap fun x => nbits x 8
theorem unp_len (l : List Nat) : (unp l).length = l.length * 8 := by
 induction l with
 | nil => rfl
 | cons x l ih => simp only [unp, List.flatMap_cons, List.length_append, nbits_len, List.length_cons] at *; omega
theorem unp_get : ∀ (l : List Nat) (i x : Nat), l[i / 8]? = some x → (unp l)[i]? = some (x.testBit (7 - i % 8))
 | [], i, x, h => by simp at h
 | y :: l, i, x, h => by
  simp only [unp, List.flatMap_cons]
  by_cases hi : i < 8
  ·have e : i / 8 = 0 := by omega
   rw [e] at h
   have : y = x := by simpa using h
   subst this
   rw [List.getElem?_append_left (by rw [nbits_len]; exact hi), nbits_get hi]
   congr 2
   omega
  ·have e : i / 8 = (i - 8) / 8 + 1 := by omega
   rw [e] at h
   have := unp_get l (i - 8) x (by simpa using h)
   rw [List.getElem?_append_right (by rw [nbits_len]; omega), nbits_len]
   unfold unp at this
   rw [this]
   congr 2
   omega
/-- The number of bits. -/
def numB (l : List Bool) : Nat := l.foldl (fun n b => 2 * n + b.toNat) 0
theorem numB_snoc (l : List Bool) (b : Bool) : numB (l ++ [b]) = 2 * numB l + b.toNat := by simp [numB]
theorem numB_lt : ∀ (l : List Bool), numB l < 2 ^ l.length := by
 intro l
 generalize hk : l.length = k
 induction k generalizing l with
 | zero => rw [List.length_eq_zero_iff.1 hk]; decide
 | succ k ih =>
  have hne : l ≠ [] := by intro h; rw [h] at hk; cases hk
  obtain ⟨l', b, rfl⟩ : ∃ l' b, l = l' ++ [b] := ⟨l.dropLast, l.getLast hne, (List.dropLast_concat_getLast hne).symm⟩
  have := ih l' (by simp at hk; exact hk)
  rw [numB_snoc, Nat.pow_succ]
  have : b.toNat ≤ 1 := by cases b <;> decide
  omega
/-- Some bits are taken: the number, whether there are so many, and where it goes on. -/
def getB (B : List Bool) (at_ k : Nat) : Nat := if at_ + k ≤ B.length then numB ((B.drop at_).take k) else 0
def okB (B : List Bool) (at_ k : Nat) : Bool := decide (at_ + k ≤ B.length)
def toB (B : List Bool) (at_ k : Nat) : Nat := if at_ + k ≤ B.length then at_ + k else B.length
theorem take_bit {B : List Bool} {a j : Nat} {b : Bool} (h : B[a + j]? = some b) : (B.drop a).take (j + 1) = (B.drop a).take j ++ [b] := by
 rw [List.take_add_one, List.getElem?_drop, h]
 rfl
theorem num_bit {B : List Bool} {a j : Nat} {b : Bool} (h : B[a + j]? = some b) : numB ((B.drop a).take (j + 1)) = 2 * numB ((B.drop a).take j) + b.toNat := by
 rw [take_bit h, numB_snoc]
theorem num_le (B : List Bool) (a j : Nat) : numB ((B.drop a).take j) < 2 ^ j := by
 have h1 := numB_lt ((B.drop a).take j)
 have h2 : ((B.drop a).take j).length ≤ j := List.length_take_le _ _
 exact Nat.lt_of_lt_of_le h1 (Nat.pow_le_pow_right (by decide) h2)
theorem or_u64 (x c : Nat) (hx : x < 2 ^ 64) (hc : c < 2 ^ 64) : bits .or .u64 (x : Int) (c : Int) = ((x ||| c : Nat) : Int) := by
 have h : x ||| c < 2 ^ 64 := Nat.or_lt_two_pow (n := 64) hx hc
 have e : bits .or .u64 (x : Int) (c : Int) = IntKind.u64.wrap ((BitVec.ofInt 64 x ||| BitVec.ofInt 64 c).toNat : Int) := rfl
 have e1 : (BitVec.ofInt 64 (x : Int)).toNat = x := by simp; omega
 have e2 : (BitVec.ofInt 64 (c : Int)).toNat = c := by simp; omega
 rw [e, BitVec.toNat_or, e1, e2]
 exact wrap_u64 (by omega)
/-- One bit more. -/
theorem shift_in {n : Nat} (b : Bool) (h : n < 2 ^ 63) : bits .or .u64 (IntKind.u64.wrap ((n : Int) * 2 ^ (min ((1 : Int)).toNat IntKind.u64.bits))) (b.toNat : Int) = ((2 * n + b.toNat : Nat) : Int) := by
 have hb : b.toNat ≤ 1 := by cases b <;> decide
 have e : (n : Int) * 2 ^ (min ((1 : Int)).toNat IntKind.u64.bits) = ((2 * n : Nat) : Int) := by
  show (n : Int) * 2 ^ 1 = _
  omega
 rw [e, wrap_u64 ⟨by omega, by omega⟩, or_u64 _ _ (by omega) (by omega)]
 have h1 : 2 * n ||| b.toNat = 2 * n + b.toNat := by
  have := Nat.two_pow_add_eq_or_of_lt (i := 1) (b := b.toNat) (by omega) n
  rw [Nat.pow_one] at this
  exact this.symm
 rw [h1]
/-- A byte's bit. -/
theorem byte_bit (x i : Nat) (hx : x < 256) (hi : i < 8) : IntKind.u64.wrap (bits .and .u8 ((x : Int).fdiv (2 ^ (min ((i : Int)).toNat IntKind.u8.bits))) 1) = ((x.testBit i).toNat : Int) := by
 have e : min ((i : Int)).toNat IntKind.u8.bits = i := by
  show min i 8 = i
  omega
 have h0 : (x : Int).fdiv (2 ^ i) = ((x / 2 ^ i : Nat) : Int) := by
  rw [Int.fdiv_eq_ediv_of_nonneg _ (Int.pow_nonneg (by decide))]
  simp
 have hle : x / 2 ^ i ≤ x := Nat.div_le_self _ _
 have h : bits .and .u8 ((x / 2 ^ i : Nat) : Int) ((1 : Nat) : Int) = (((x / 2 ^ i) % 2 : Nat) : Int) := by
  have e0 : bits .and .u8 ((x / 2 ^ i : Nat) : Int) ((1 : Nat) : Int) = IntKind.u8.wrap ((BitVec.ofInt 8 ((x / 2 ^ i : Nat) : Int) &&& BitVec.ofInt 8 ((1 : Nat) : Int)).toNat : Int) := rfl
  have e2 : (BitVec.ofInt 8 ((x / 2 ^ i : Nat) : Int) &&& BitVec.ofInt 8 ((1 : Nat) : Int)).toNat = (x / 2 ^ i) % 2 := by
   rw [BitVec.toNat_and, BitVec.toNat_ofInt, BitVec.toNat_ofInt]
   have a1 : (((1 : Nat) : Int) % ((2 ^ 8 : Nat) : Int)).toNat = 1 := rfl
   have a2 : (((x / 2 ^ i : Nat) : Int) % ((2 ^ 8 : Nat) : Int)).toNat = (x / 2 ^ i) % 2 ^ 8 := by
    rw [← Int.natCast_emod]; rfl
   rw [a1, a2, Nat.and_one_is_mod]
   omega
  rw [e0, e2]
  exact wrap_u8 (by omega)
 rw [e, h0, show (1 : Int) = ((1 : Nat) : Int) from rfl, h, Nat.toNat_testBit]
 exact wrap_u64 (by omega)
/-- A number with a sign. -/
def sgn (k n : Nat) : Int := if n < 2 ^ (k - 1) then (n : Int) else (n : Int) - 2 ^ k
theorem sgn_shift {k n : Nat} (h1 : 1 ≤ k) (h2 : k ≤ 64) (hn : n < 2 ^ k) : (IntKind.i64.wrap (IntKind.u64.wrap ((n : Int) * 2 ^ (min ((64 : Int) - (k : Int)).toNat IntKind.u64.bits)))).fdiv (2 ^ (min ((64 : Int) - (k : Int)).toNat IntKind.i64.bits)) = sgn k n := by
 have e1 : min ((64 : Int) - (k : Int)).toNat IntKind.u64.bits = 64 - k := by
  show min _ 64 = _
  omega
 have e2 : min ((64 : Int) - (k : Int)).toNat IntKind.i64.bits = 64 - k := by
  show min _ 64 = _
  omega
 rw [e1, e2]
 obtain ⟨s, hs⟩ : ∃ s, s = 64 - k := ⟨_, rfl⟩
 rw [← hs]
 have hp : 0 < 2 ^ s := Nat.two_pow_pos s
 have h64 : 2 ^ k * 2 ^ s = 2 ^ 64 := by rw [← Nat.pow_add]; congr 1; omega
 have h63 : 2 ^ (k - 1) * 2 ^ s = 2 ^ 63 := by rw [← Nat.pow_add]; congr 1; omega
 have e3 : (n : Int) * 2 ^ s = ((n * 2 ^ s : Nat) : Int) := by simp
 have hlt : n * 2 ^ s < 2 ^ 64 := by rw [← h64]; exact Nat.mul_lt_mul_of_pos_right hn hp
 have d1 : (2 : Nat) ^ 64 = 18446744073709551616 := rfl
 have d2 : (2 : Nat) ^ 63 = 9223372036854775808 := rfl
 have e4 : ((2 : Int) ^ s) = ((2 ^ s : Nat) : Int) := by simp
 rw [e3, wrap_u64 ⟨by omega, by omega⟩, e4]
 unfold sgn
 by_cases hc : n < 2 ^ (k - 1)
 ·rw [if_pos hc]
  have h3 : n * 2 ^ s < 2 ^ 63 := by rw [← h63]; exact Nat.mul_lt_mul_of_pos_right hc hp
  rw [wrap_i64 ⟨by omega, by omega⟩, Int.fdiv_eq_ediv_of_nonneg _ (by omega), ← Int.natCast_ediv, Nat.mul_div_cancel _ hp]
 ·rw [if_neg hc]
  have h3 : 2 ^ 63 ≤ n * 2 ^ s := by rw [← h63]; exact Nat.mul_le_mul_right _ (by omega)
  have e5 : IntKind.i64.wrap ((n * 2 ^ s : Nat) : Int) = ((n : Int) - 2 ^ k) * ((2 ^ s : Nat) : Int) := by
   have e6 : ((n : Int) - 2 ^ k) * ((2 ^ s : Nat) : Int) = ((n * 2 ^ s : Nat) : Int) - 18446744073709551616 := by
    have h7 : ((2 : Int) ^ k) * ((2 ^ s : Nat) : Int) = 18446744073709551616 := by
     have : ((2 ^ k * 2 ^ s : Nat) : Int) = ((2 ^ 64 : Nat) : Int) := by rw [h64]
     rw [Int.natCast_mul] at this
     rw [show ((2 : Int) ^ k) = ((2 ^ k : Nat) : Int) from by simp, this]
     rfl
    rw [Int.sub_mul, h7, Int.natCast_mul]
   rw [e6, IntKind.wrap_i64]
   omega
  rw [e5, Int.fdiv_eq_ediv_of_nonneg _ (by omega), Int.mul_ediv_cancel _ (by omega)]
/-- Is nothing but a filling left? -/
def restB (B : List Bool) (a : Nat) : Bool := (B.drop a).all (fun b => !b) && decide (B.length < a + 8)
end Go.Proofs.YtfccnoccfhgcbaaGreatDoor
namespace Go.Proofs.YtfccnoccfhgcbaaGreatDoor
open Go Go.RowKit
theorem St153 : structTy Tryz.prog 153 [(0, 1), (1, 1)] [.slice none 0 0, .int .i64 0] := ⟨by unfold zeroTy; kernel_rfl, _, Tryz.underlying153, fun w => by kernel_rfl⟩
theorem F153_0 : fieldTy Tryz.prog 153 0 0 := fieldTy.mk' Tryz.underlying153 rfl (by kernel_rfl) rfl
theorem F153_1 : fieldTy Tryz.prog 153 1 1 := fieldTy.mk' Tryz.underlying153 rfl (by kernel_rfl) rfl
theorem K107 : callTy Tryz.prog 107 := by unfold callTy; kernel_rfl
theorem K106 : callTy Tryz.prog 106 := by unfold callTy; kernel_rfl
theorem K142 : callTy Tryz.prog 142 := by unfold callTy; kernel_rfl
theorem F103_1 : fieldTy Tryz.prog 103 1 1 := fieldTy.mk' Tryz.underlying103 rfl (by kernel_rfl) rfl
theorem C40 : cellTy Tryz.prog 40 := ⟨by kernel_rfl, by kernel_rfl⟩
theorem F103_0 : fieldTy Tryz.prog 103 0 0 := fieldTy.mk' Tryz.underlying103 rfl (by kernel_rfl) rfl
theorem C100 : cellTy Tryz.prog 100 := ⟨by kernel_rfl, by kernel_rfl⟩
theorem K59 : callTy Tryz.prog 59 := by unfold callTy; kernel_rfl
theorem K97 : callTy Tryz.prog 97 := by unfold callTy; kernel_rfl
theorem c53 (w : World) (A : Option Addr) (n cap : Nat) (cs : List Value) (hsl : Sl w none' A n 1 cs) (hcs : cs.all Value.oneCell' = true) (hb : n ≤ 1000000000) (hS : St w (fpOf []) [] w) : Calls Tryz.prog 53 [.slice A n cap].toArray w (RtE fun v w' => ∃ x : Nat × Option Addr × Nat, v = (fun x => .pointer (some ⟨x.1, 0, none⟩)) x ∧ (fun _ => True) x ∧ St w (fpOf []) ((fun x => [.blk x.1 [.slice x.2.1 n x.2.2, .int .i64 ((0 : Nat) : Int)] 153, .row 5 1 x.2.1 n x.2.2 cs]) x) w') := by
 refine enter Tryz.func53 rfl Tryz.ntmps53 rfl hS ?_
 refine c_seq ?_
 refine c_reg ?_
 refine sq (rd_assign rfl) rfl ?_
 refine s_end ?_
 refine f_then ?_
 refine c_seq ?_
 refine c_reg ?_
 refine sq (rd_move rfl) rfl ?_
 refine sx (ef_call rfl rfl K93 (fun _ e => by cases e; rfl) [] _ (.refl _) _ _ _ (fun w hS => by exact c93 w A n cap cs (hsl.hand hS (by decide)) hcs hb hS.own)) rfl ?_
 rintro ⟨A1, c1⟩ _
 refine sq (rd_build St153 rfl (by repeat constructor)) rfl ?_
 refine sx (ef_box rfl rfl rfl) rfl ?_
 rintro b6 hb6
 refine sq (rd_assign rfl) rfl ?_
 refine s_end ?_
 refine f_then ?_
 refine c_ret ?_
 refine f_ret rfl (.tmp rfl .nil) ?_
 exact fun w' hS => ⟨_, rfl, (b6, A1, c1), rfl, trivial, St.sub (E' := [_, _]) hS (by repeat (first | exact .refl _ | apply List.Sublist.cons_cons | apply List.Sublist.cons))⟩

theorem c106 (w : World) (br : Nat) (A : Option Addr) (n cap : Nat) (bytes : List Nat) (i : Nat) (b : Bool) (hl : bytes.length = n) (h256 : ∀ x ∈ bytes, x < 256) (hn : n ≤ 10000000) (h0 : w.cell? ⟨br, 0, none⟩ = some (.slice A n cap)) (hsl : Sl w none' A n 1 (u8s bytes)) (hbit : (unp bytes)[i]? = some b) : Pw Tryz.prog w 106 [.pointer (some ⟨br, 0, none⟩), .int .i64 (i : Int)] (.int .u64 (b.toNat : Int)) := by
 refine Pw.enter Tryz.func106 rfl Tryz.ntmps106 rfl ?_
 refine c_seq ?_
 refine c_reg ?_
 refine sq (rd_assign rfl) rfl ?_
 refine s_end ?_
 refine f_then ?_
 refine c_seq ?_
 have hi : i < n * 8 := by have := (List.getElem?_eq_some_iff.1 hbit).1; rw [unp_len] at this; omega
 obtain ⟨x, hx⟩ : ∃ x, bytes[i / 8]? = some x := ⟨bytes[i / 8]'(by omega), by simp⟩
 have hx256 := h256 x (List.mem_of_getElem? hx)
 have hbx : b = x.testBit (7 - i % 8) := by have h9 := unp_get bytes i x hx; rw [hbit] at h9; exact Option.some.inj h9
 refine c_reg ?_
 refine sq (rd_move rfl) rfl ?_
 refine sq (rd_nil rfl) rfl ?_
 refine sq (rd_field F153_0 rfl) rfl ?_
 refine sq (rd_ldbase C37 rfl rfl h0 (none'_no _)) rfl ?_
 refine sq (rd_move rfl) rfl ?_
 refine sq (rd_quo rfl rfl (by omega) (quon i 8 (by omega) (by omega))) rfl ?_
 refine sq (rd_index S37 rfl rfl hsl.plain (by omega) (by omega)) rfl ?_
 refine sq (rd_ldsl C5 hsl rfl (by simp only [Int.toNat_natCast, Nat.mul_one]; exact u8s_get hx)) rfl ?_
 refine sq (rd_move rfl) rfl ?_
 refine sq (rd_rem rfl rfl (by omega) (by first | exact Int.tmod_eq_emod_of_nonneg (by omega) | exact rfl)) rfl ?_
 refine sq (rd_sub rfl rfl (by first | exact wrap_i64 (by omega) | exact rfl)) rfl ?_
 refine sq (rd_shr rfl rfl (by omega) rfl) rfl ?_
 refine sq (rd_and' rfl rfl rfl) rfl ?_
 refine sq (rd_conv (c := (b.toNat : Int)) ⟨_, I5⟩ I118 rfl (by rw [show (7 - (i : Int) % 8) = ((7 - i % 8 : Nat) : Int) from by omega, hbx]; exact byte_bit x (7 - i % 8) hx256 (by omega))) rfl ?_
 refine sq (rd_assign rfl) rfl ?_
 refine s_end ?_
 refine f_then ?_
 refine c_ret ?_
 refine f_ret rfl (.tmp rfl .nil) ?_
 exact pu_end rfl

theorem c107 (w : World) (br : Nat) (A : Option Addr) (n cap : Nat) (a : Nat) (ha : a ≤ n * 8) (hn : n ≤ 10000000) (h0 : w.cell? ⟨br, 0, none⟩ = some (.slice A n cap)) (h1 : w.cell? ⟨br, 1, none⟩ = some (.int .i64 (a : Int))) : Pw Tryz.prog w 107 [.pointer (some ⟨br, 0, none⟩)] (.int .i64 ((n * 8 - a : Nat) : Int)) := by
 refine Pw.enter Tryz.func107 rfl Tryz.ntmps107 rfl ?_
 refine c_seq ?_
 refine c_reg ?_
 refine sq (rd_assign rfl) rfl ?_
 refine s_end ?_
 refine f_then ?_
 refine c_seq ?_
 refine c_regd [] (.q 0 (.q 1 (.q 2 (.q 3 (.q 4 (.q 5 (.q 6 (.q 7 (.q 8 (.q 9 (.q 10 (.q 11 .done)))))))))))) (by kernel_rfl) (by kernel_rfl) (by kernel_rfl) (by kernel_rfl) (fun _ h => h.sb) ?_
 refine dq rfl (rd_move rfl) rfl ?_
 refine dq rfl (rd_nil rfl) rfl ?_
 refine dq rfl (rd_field F153_0 rfl) rfl ?_
 refine dq rfl (rd_ldbase C37 rfl rfl h0 (none'_no _)) rfl ?_
 refine dq rfl (rd_len S37 rfl rfl) rfl ?_
 refine dq rfl (rd_mul rfl rfl (by first | exact wrap_i64 (by omega) | exact rfl)) rfl ?_
 refine dq rfl (rd_move rfl) rfl ?_
 refine dq rfl (rd_nil rfl) rfl ?_
 refine dq rfl (rd_field F153_1 rfl) rfl ?_
 refine dq rfl (rd_ldbase C3 rfl rfl h1 (none'_no _)) rfl ?_
 refine dq rfl (rd_sub rfl rfl (by first | exact wrap_i64 (by omega) | exact rfl)) rfl ?_
 refine dq rfl (rd_assign rfl) rfl ?_
 refine d_end ?_
 refine f_then ?_
 refine c_ret ?_
 refine f_ret rfl (.tmp rfl .nil) ?_
 exact pu_end (int_eq (by omega))

theorem c142 (w : World) (br : Nat) (A : Option Addr) (n cap : Nat) (bytes : List Nat) (a k : Nat) (hk : k ≤ 64) (ha : a ≤ n * 8) (hl : bytes.length = n) (h256 : ∀ x ∈ bytes, x < 256) (hn : n ≤ 10000000) (hS : St w (fpOf [.blk br [.slice A n cap, .int .i64 ((a : Nat) : Int)] 153, .row 5 1 A n cap (u8s bytes)]) [.blk br [.slice A n cap, .int .i64 ((a : Nat) : Int)] 153, .row 5 1 A n cap (u8s bytes)] w) : Calls Tryz.prog 142 [.pointer (some ⟨br, 0, none⟩), .int .i64 (k : Int)].toArray w (RtE fun v w' => ∃ x : Unit, v = (fun _ => .tuple #[.int .u64 ((getB (unp bytes) a k : Nat) : Int), .bool (okB (unp bytes) a k)]) x ∧ (fun _ => True) x ∧ St w (fpOf [.blk br [.slice A n cap, .int .i64 ((a : Nat) : Int)] 153, .row 5 1 A n cap (u8s bytes)]) ((fun _ => [.blk br [.slice A n cap, .int .i64 ((toB (unp bytes) a k : Nat) : Int)] 153, .row 5 1 A n cap (u8s bytes)]) x) w') := by
 refine enter Tryz.func142 rfl Tryz.ntmps142 rfl hS ?_
 refine c_seq ?_
 refine c_reg ?_
 refine sq (rd_assign rfl) rfl ?_
 refine sq (rd_assign rfl) rfl ?_
 refine s_end ?_
 refine f_then ?_
 refine c_seq ?_
 have hu : (unp bytes).length = n * 8 := by rw [unp_len, hl]
 refine c_reg ?_
 refine sq (rd_move rfl) rfl ?_
 refine se (ef_pure rfl rfl K140 rfl (by exact c140 k hk)) rfl ?_
 refine sq (rd_assign rfl) rfl ?_
 refine s_end ?_
 refine f_then ?_
 refine c_seq ?_
 refine c_seq ?_
 refine c_reg ?_
 refine sq (rd_move rfl) rfl ?_
 refine se (ef_pw rfl rfl K107 rfl (fun w hS => by exact c107 w br A n cap (a) (by omega) hn (hS.cell (b := br) (vs := [.slice A n cap, .int .i64 ((a : Nat) : Int)]) (te := 153) (by repeat constructor) 0) (hS.cell (b := br) (vs := [.slice A n cap, .int .i64 ((a : Nat) : Int)]) (te := 153) (by repeat constructor) 1))) rfl ?_
 refine sq (rd_move rfl) rfl ?_
 refine sq (rd_lss rfl rfl) rfl ?_
 refine s_end ?_
 refine f_then ?_
 refine c_if rfl (fun h11 => ?_) (fun h11 => ?_)
 ·refine c_seq ?_
  refine c_regd [.row 5 _ A n cap _] (.q 0 (.q 1 (.q 2 (.q 4 (.alt 3 (.alt 5 (.q 6 (.q 7 (.q 8 (.alt 9 .done .stop)))) .stop) (.alt 5 (.alt 3 (.q 6 (.q 7 (.q 8 (.alt 9 .done .stop)))) .stop) .stop)))))) (by kernel_rfl) (by kernel_rfl) (by kernel_rfl) (by kernel_rfl) (fun _ h => h.sb) ?_
  refine dq rfl (rd_move rfl) rfl ?_
  refine dq rfl (rd_nil rfl) rfl ?_
  refine dq rfl (rd_field F153_1 rfl) rfl ?_
  refine dq rfl (rd_move rfl) rfl ?_
  refine de rfl rfl (ef_quiet (rd_ldb C3 rfl (by repeat constructor) rfl) rfl) (fun _ h => h.sb) ?_ ?_
  ·refine de rfl rfl (ef_pw rfl rfl K107 rfl (fun w hS => by exact c107 w br A n cap (a) (by omega) hn (hS.cell (b := br) (vs := [.slice A n cap, .int .i64 ((a : Nat) : Int)]) (te := 153) (by repeat constructor) 0) (hS.cell (b := br) (vs := [.slice A n cap, .int .i64 ((a : Nat) : Int)]) (te := 153) (by repeat constructor) 1))) (fun _ h => h.sb) ?_ d_stop
   refine dq rfl (rd_add rfl rfl (by first | exact wrap_i64 (by omega) | exact rfl)) rfl ?_
   refine dq rfl (rd_nil rfl) rfl ?_
   refine dq rfl (rd_field F153_1 rfl) rfl ?_
   refine de rfl rfl (ef_store C3 rfl rfl (by repeat constructor) (by repeat constructor) rfl) (fun _ h => h.sb) ?_ d_stop
   refine d_end ?_
   refine f_then ?_
   refine c_seq ?_
   refine c_reg ?_
   refine sq (rd_assign rfl) rfl ?_
   refine sq (rd_assign rfl) rfl ?_
   refine s_end ?_
   refine f_then ?_
   refine c_ret ?_
   refine f_then_r ?_
   refine f_ret rfl (.tmp rfl (.tmp rfl .nil)) ?_
   have h9 : ¬ a + k ≤ (unp bytes).length := by omega
   exact fun w' hS => ⟨_, rfl, (), by unfold getB okB; rw [if_neg h9, decide_eq_false h9]; rfl, trivial, by unfold toB; rw [if_neg h9, show (((unp bytes).length : Nat) : Int) = (a : Int) + ((n * 8 - a : Nat) : Int) from by omega]; exact St.sub (E' := [_, _]) hS (by repeat (first | exact .refl _ | apply List.Sublist.cons_cons | apply List.Sublist.cons))⟩
  refine de rfl rfl (ef_pw rfl rfl K107 rfl (fun w hS => by exact c107 w br A n cap (a) (by omega) hn (hS.cell (b := br) (vs := [.slice A n cap, .int .i64 ((a : Nat) : Int)]) (te := 153) (by repeat constructor) 0) (hS.cell (b := br) (vs := [.slice A n cap, .int .i64 ((a : Nat) : Int)]) (te := 153) (by repeat constructor) 1))) (fun _ h => h.sb) ?_ ?_
  ·refine de rfl rfl (ef_quiet (rd_ldb C3 rfl (by repeat constructor) rfl) rfl) (fun _ h => h.sb) ?_ d_stop
   refine dq rfl (rd_add rfl rfl (by first | exact wrap_i64 (by omega) | exact rfl)) rfl ?_
   refine dq rfl (rd_nil rfl) rfl ?_
   refine dq rfl (rd_field F153_1 rfl) rfl ?_
   refine de rfl rfl (ef_store C3 rfl rfl (by repeat constructor) (by repeat constructor) rfl) (fun _ h => h.sb) ?_ d_stop
   refine d_end ?_
   refine f_then ?_
   refine c_seq ?_
   refine c_reg ?_
   refine sq (rd_assign rfl) rfl ?_
   refine sq (rd_assign rfl) rfl ?_
   refine s_end ?_
   refine f_then ?_
   refine c_ret ?_
   refine f_then_r ?_
   refine f_ret rfl (.tmp rfl (.tmp rfl .nil)) ?_
   have h9 : ¬ a + k ≤ (unp bytes).length := by omega
   exact fun w' hS => ⟨_, rfl, (), by unfold getB okB; rw [if_neg h9, decide_eq_false h9]; rfl, trivial, by unfold toB; rw [if_neg h9, show (((unp bytes).length : Nat) : Int) = (a : Int) + ((n * 8 - a : Nat) : Int) from by omega]; exact St.sub (E' := [_, _]) hS (by repeat (first | exact .refl _ | apply List.Sublist.cons_cons | apply List.Sublist.cons))⟩
  exact d_stop
 ·refine c_skip ?_
  refine f_then ?_
  refine c_seq ?_
  refine c_seq ?_
  refine c_reg ?_
  refine sq (rd_move rfl) rfl ?_
  refine sq (rd_move rfl) rfl ?_
  refine s_end ?_
  refine f_then ?_
  refine c_block ?_
  refine c_keep (L' := [(0, _), (4, _), (5, _), (21, _), (22, _)]) (by repeat constructor) ?_
  refine c_for (α := Nat) (fun j => j ≤ k) (fun j => [.blk br [.slice A n cap, .int .i64 ((a + j : Nat) : Int)] 153]) [.row 5 _ A n cap _] (fun j => [(22, .int .i64 (j : Int)), (4, .int .u64 ((numB (((unp bytes).drop a).take j) : Nat) : Int))]) [(0, _), (5, _), (21, _)] (fun j => k - j) (0) (Nat.zero_le _) (by repeat constructor) (fun _ h => h.sb) ?_
  rintro j hj
  refine c_seq ?_
  refine c_reg ?_
  refine sq (rd_lss rfl rfl) rfl ?_
  refine s_end ?_
  refine f_then ?_
  refine c_seq ?_
  refine c_if rfl (fun h23 => ?_) (fun h23 => ?_)
  ·have hjk : j < k := by omega
   obtain ⟨b, hbit⟩ : ∃ b, (unp bytes)[a + j]? = some b := ⟨(unp bytes)[a + j]'(by omega), by simp⟩
   refine c_skip ?_
   refine f_then ?_
   refine c_seq ?_
   refine c_block ?_
   refine c_seq ?_
   refine c_reg ?_
   refine sq (rd_move rfl) rfl ?_
   refine sq (rd_shl rfl rfl (by omega) rfl) rfl ?_
   refine sq (rd_move rfl) rfl ?_
   refine sq (rd_move rfl) rfl ?_
   refine sq (rd_nil rfl) rfl ?_
   refine sq (rd_field F153_1 rfl) rfl ?_
   refine sq (rd_ldb C3 rfl (by repeat constructor) rfl) rfl ?_
   refine se (ef_pw rfl rfl K106 rfl (fun w hS => by exact c106 w br A n cap bytes (a + j) b hl h256 hn (hS.cell (b := br) (vs := [.slice A n cap, .int .i64 ((a + j : Nat) : Int)]) (te := 153) (by repeat constructor) 0) (Sl.ofRow' hS (by repeat constructor)) hbit)) rfl ?_
   refine sq (rd_or' rfl rfl (shift_in b (Nat.lt_of_lt_of_le (num_le (unp bytes) a j) (Nat.pow_le_pow_right (by decide) (by omega))))) rfl ?_
   refine sq (rd_assign rfl) rfl ?_
   refine s_end ?_
   refine f_then ?_
   refine c_reg ?_
   refine sq (rd_move rfl) rfl ?_
   refine sq (rd_nil rfl) rfl ?_
   refine sq (rd_field F153_1 rfl) rfl ?_
   refine sq (rd_ldb C3 rfl (by repeat constructor) rfl) rfl ?_
   refine sq (rd_add rfl rfl (by first | exact wrap_i64 (by omega) | exact rfl)) rfl ?_
   refine sq (rd_nil rfl) rfl ?_
   refine sq (rd_field F153_1 rfl) rfl ?_
   refine se (ef_store C3 rfl rfl (by repeat constructor) (by repeat constructor) rfl) rfl ?_
   refine s_end ?_
   refine f_blk ?_
   refine f_then ?_
   refine c_reg ?_
   refine sq (rd_add rfl rfl (by first | exact wrap_i64 (by omega) | exact rfl)) rfl ?_
   refine sq (rd_move rfl) rfl ?_
   refine s_end ?_
   refine f_again (j + 1) (by omega) (by omega) (.cons rfl (.cons (by rw [num_bit hbit]; rfl) (by repeat constructor))) (fun _ h => h.sb)
  ·have hjk : j = k := by omega
   subst hjk
   refine c_exit ?_
   refine f_then_x ?_
   refine f_then_x ?_
   refine f_blk_x ?_
   refine f_then ?_
   refine c_seq ?_
   refine c_reg ?_
   refine sq (rd_move rfl) rfl ?_
   refine sq (rd_assign rfl) rfl ?_
   refine sq (rd_assign rfl) rfl ?_
   refine s_end ?_
   refine f_then ?_
   refine c_ret ?_
   refine f_ret rfl (.tmp rfl (.tmp rfl .nil)) ?_
   have h9 : a + j ≤ (unp bytes).length := by omega
   exact fun w' hS => ⟨_, rfl, (), by unfold getB okB; rw [if_pos h9, decide_eq_true h9]; rfl, trivial, by unfold toB; rw [if_pos h9]; exact St.sub (E' := [_, _]) hS (by repeat (first | exact .refl _ | apply List.Sublist.cons_cons | apply List.Sublist.cons))⟩

theorem getB_lt (B : List Bool) (a k : Nat) : getB B a k < 2 ^ k := by
 unfold getB
 split
 ·exact num_le B a k
 ·exact Nat.two_pow_pos k
theorem toB_le (B : List Bool) (a k : Nat) : toB B a k ≤ B.length := by
 unfold toB
 split <;> omega

theorem c143 (w : World) (br : Nat) (A : Option Addr) (n cap : Nat) (bytes : List Nat) (a k : Nat) (hk1 : 1 ≤ k) (hk : k ≤ 64) (ha : a ≤ n * 8) (hl : bytes.length = n) (h256 : ∀ x ∈ bytes, x < 256) (hn : n ≤ 10000000) (hS : St w (fpOf [.blk br [.slice A n cap, .int .i64 ((a : Nat) : Int)] 153, .row 5 1 A n cap (u8s bytes)]) [.blk br [.slice A n cap, .int .i64 ((a : Nat) : Int)] 153, .row 5 1 A n cap (u8s bytes)] w) : Calls Tryz.prog 143 [.pointer (some ⟨br, 0, none⟩), .int .i64 (k : Int)].toArray w (RtE fun v w' => ∃ x : Unit, v = (fun _ => .tuple #[.int .i64 (sgn k (getB (unp bytes) a k)), .bool (okB (unp bytes) a k)]) x ∧ (fun _ => True) x ∧ St w (fpOf [.blk br [.slice A n cap, .int .i64 ((a : Nat) : Int)] 153, .row 5 1 A n cap (u8s bytes)]) ((fun _ => [.blk br [.slice A n cap, .int .i64 ((toB (unp bytes) a k : Nat) : Int)] 153, .row 5 1 A n cap (u8s bytes)]) x) w') := by
 refine enter Tryz.func143 rfl Tryz.ntmps143 rfl hS ?_
 refine c_seq ?_
 refine c_reg ?_
 refine sq (rd_assign rfl) rfl ?_
 refine sq (rd_assign rfl) rfl ?_
 refine s_end ?_
 refine f_then ?_
 refine c_seq ?_
 refine c_reg ?_
 refine sq (rd_move rfl) rfl ?_
 refine sq (rd_move rfl) rfl ?_
 refine sx (ef_call rfl rfl K142 (fun _ e => by cases e; rfl) [.blk br _ _, .row 5 _ A n cap _] _ (.refl _) _ _ _ (fun w hS => by exact c142 w br A n cap bytes a k hk ha hl h256 hn hS.own)) rfl ?_
 rintro _ _
 refine sq (rd_move rfl) rfl ?_
 refine sq (rd_extract rfl rfl) rfl ?_
 refine sq (rd_extract rfl rfl) rfl ?_
 refine sq (rd_assign rfl) rfl ?_
 refine sq (rd_assign rfl) rfl ?_
 refine s_end ?_
 refine f_then ?_
 refine c_seq ?_
 refine c_reg ?_
 refine sq (rd_move rfl) rfl ?_
 refine se (ef_pure rfl rfl K140 rfl (by exact c140 k hk)) rfl ?_
 refine sq (rd_sub rfl rfl (by first | exact wrap_i64 (by omega) | exact rfl)) rfl ?_
 refine sq (rd_assign rfl) rfl ?_
 refine s_end ?_
 refine f_then ?_
 refine c_seq ?_
 refine c_reg ?_
 refine sq (rd_move rfl) rfl ?_
 refine sq (rd_move rfl) rfl ?_
 refine sq (rd_shl rfl rfl (by omega) rfl) rfl ?_
 refine sq (rd_conv ⟨_, I118⟩ I2 rfl rfl) rfl ?_
 refine sq (rd_move rfl) rfl ?_
 refine sq (rd_shr (c := sgn k (getB (unp bytes) a k)) rfl rfl (by omega) (sgn_shift hk1 hk (getB_lt _ _ _))) rfl ?_
 refine sq (rd_move rfl) rfl ?_
 refine sq (rd_assign rfl) rfl ?_
 refine sq (rd_assign rfl) rfl ?_
 refine s_end ?_
 refine f_then ?_
 refine c_ret ?_
 refine f_ret rfl (.tmp rfl (.tmp rfl .nil)) ?_
 exact fun w' hS => ⟨_, rfl, (), rfl, trivial, St.sub (E' := [_, _]) hS (by repeat (first | exact .refl _ | apply List.Sublist.cons_cons | apply List.Sublist.cons))⟩

theorem c60 (w : World) (br : Nat) (A : Option Addr) (n cap : Nat) (bytes : List Nat) (a : Nat) (ha : a ≤ n * 8) (hl : bytes.length = n) (h256 : ∀ x ∈ bytes, x < 256) (hn : n ≤ 10000000) (h0 : w.cell? ⟨br, 0, none⟩ = some (.slice A n cap)) (h1 : w.cell? ⟨br, 1, none⟩ = some (.int .i64 (a : Int))) (hsl : Sl w none' A n 1 (u8s bytes)) : Pw Tryz.prog w 60 [.pointer (some ⟨br, 0, none⟩)] (.bool (restB (unp bytes) a)) := by
 refine Pw.enter Tryz.func60 rfl Tryz.ntmps60 rfl ?_
 refine c_seq ?_
 refine c_reg ?_
 refine sq (rd_assign rfl) rfl ?_
 refine s_end ?_
 refine f_then ?_
 refine c_seq ?_
 refine c_seq ?_
 have hu : (unp bytes).length = n * 8 := by rw [unp_len, hl]
 refine c_reg ?_
 refine sq (rd_move rfl) rfl ?_
 refine sq (rd_nil rfl) rfl ?_
 refine sq (rd_field F153_1 rfl) rfl ?_
 refine sq (rd_ldbase C3 rfl rfl h1 (none'_no _)) rfl ?_
 refine sq (rd_assign rfl) rfl ?_
 refine s_end ?_
 refine f_then ?_
 refine c_block ?_
 refine c_keep (L' := [(0, _), (2, _), (3, _)]) (by repeat constructor) ?_
 refine c_for (α := Nat) (fun i => a ≤ i ∧ i ≤ n * 8 ∧ ∀ (j : Nat) (b : Bool), a ≤ j → j < i → (unp bytes)[j]? = some b → b = false) (fun i => []) [] (fun i => [(3, .int .i64 (i : Int))]) [(0, _), (2, _)] (fun i => n * 8 - i) (a) (⟨Nat.le_refl _, ha, fun j b h1 h2 => by omega⟩) (by repeat constructor) (fun _ h => h) ?_
 rintro i ⟨hi1, hi2, hno⟩
 refine c_seq ?_
 refine c_seq ?_
 refine c_reg ?_
 refine sq (rd_move rfl) rfl ?_
 refine sq (rd_move rfl) rfl ?_
 refine sq (rd_nil rfl) rfl ?_
 refine sq (rd_field F153_0 rfl) rfl ?_
 refine sq (rd_ldbase C37 rfl rfl h0 (none'_no _)) rfl ?_
 refine sq (rd_len S37 rfl rfl) rfl ?_
 refine sq (rd_mul rfl rfl (by first | exact wrap_i64 (by omega) | exact rfl)) rfl ?_
 refine sq (rd_lss rfl rfl) rfl ?_
 refine s_end ?_
 refine f_then ?_
 refine c_if rfl (fun h15 => ?_) (fun h15 => ?_)
 ·have hin : i < n * 8 := by omega
  obtain ⟨b, hbit⟩ : ∃ b, (unp bytes)[i]? = some b := ⟨(unp bytes)[i]'(by omega), by simp⟩
  refine c_skip ?_
  refine f_then ?_
  refine c_seq ?_
  refine c_block ?_
  refine c_seq ?_
  refine c_reg ?_
  refine sq (rd_move rfl) rfl ?_
  refine sq (rd_move rfl) rfl ?_
  refine se (ef_pw rfl rfl K106 rfl (fun w hS => by exact c106 w br A n cap bytes i b hl h256 hn (hS.base_cell h0 (none'_no _)) (hsl.hand (Ec := []) hS (by decide)) hbit)) rfl ?_
  refine sq (rd_neq rfl rfl) rfl ?_
  refine s_end ?_
  refine f_then ?_
  refine c_if rfl (fun h21 => ?_) (fun h21 => ?_)
  ·refine c_seq ?_
   refine c_reg ?_
   refine sq (rd_assign rfl) rfl ?_
   refine s_end ?_
   refine f_then ?_
   refine c_ret ?_
   refine f_blk_r ?_
   refine f_then_r ?_
   refine f_then_r ?_
   refine f_blk_r ?_
   refine f_then_r ?_
   refine f_ret rfl (.tmp rfl .nil) ?_
   have hbt : b = true := by cases b; simp at h21; rfl
   refine pu_end ?_
   simp only [resVal_one]
   congr 1
   unfold restB
   symm
   rw [Bool.and_eq_false_iff]
   left
   rw [List.all_eq_false]
   exact ⟨true, List.mem_of_getElem? (i := i - a) (by rw [List.getElem?_drop, show a + (i - a) = i from by omega, hbit, hbt]), by simp⟩
  ·have h21 : ¬ b = true := fun h => by subst h; simp at h21
   refine c_skip ?_
   refine f_blk ?_
   refine f_then ?_
   refine c_reg ?_
   refine sq (rd_move rfl) rfl ?_
   refine sq (rd_add rfl rfl (by first | exact wrap_i64 (by omega) | exact rfl)) rfl ?_
   refine sq (rd_assign rfl) rfl ?_
   refine s_end ?_
   refine f_again (i + 1) (⟨by omega, by omega, fun j b' h1 h2 h3 => by rcases Nat.lt_succ_iff_lt_or_eq.1 h2 with h | h; exact hno j b' h1 h h3; subst h; rw [hbit] at h3; injection h3 with h3; subst h3; cases b; rfl; exact absurd rfl h21⟩) (by omega) (by repeat constructor) (fun _ h => h.sb)
 ·have hin : i = n * 8 := by omega
  refine c_exit ?_
  refine f_then_x ?_
  refine f_then_x ?_
  refine f_blk_x ?_
  refine f_then ?_
  refine c_seq ?_
  refine c_reg ?_
  refine sq (rd_move rfl) rfl ?_
  refine se (ef_pw rfl rfl K107 rfl (fun w hS => by exact c107 w br A n cap a ha hn (hS.base_cell h0 (none'_no _)) (hS.base_cell h1 (none'_no _)))) rfl ?_
  refine sq (rd_lss rfl rfl) rfl ?_
  refine sq (rd_assign rfl) rfl ?_
  refine s_end ?_
  refine f_then ?_
  refine c_ret ?_
  refine f_ret rfl (.tmp rfl .nil) ?_
  refine pu_end ?_
  simp only [resVal_one]
  congr 1
  unfold restB
  have h8 : ((unp bytes).drop a).all (fun b => !b) = true := by
   rw [List.all_eq_true]
   intro b hb
   obtain ⟨j, hj⟩ := List.getElem?_of_mem hb
   rw [List.getElem?_drop] at hj
   have h7 := (List.getElem?_eq_some_iff.1 hj).1
   rw [hno (a + j) b (by omega) (by omega) hj]
   rfl
  rw [h8, Bool.true_and, Bool.eq_iff_iff, decide_eq_true_eq, decide_eq_true_eq]
  omega

/-- What is wrong first. -/
def failF (ok : Bool) (e1 e : Int) : Int := if ok = false ∧ e = 0 then e1 else e
def moreV (B : List Bool) (a : Nat) (e : Int) : Bool := decide (getB B a 1 = 1) && decide (failF (okB B a 1) 2 e = 0)

theorem c59 (w : World) (bv br : Nat) (ok : Bool) (e1 e : Int) (hS : St w (fpOf [.blk bv [.pointer (some ⟨br, 0, none⟩), .int .i64 e] 103]) [.blk bv [.pointer (some ⟨br, 0, none⟩), .int .i64 e] 103] w) : Calls Tryz.prog 59 [.pointer (some ⟨bv, 0, none⟩), .bool ok, .int .i64 e1].toArray w (RtE fun v w' => ∃ x : Unit, v = (fun _ => .tuple #[]) x ∧ (fun _ => True) x ∧ St w (fpOf [.blk bv [.pointer (some ⟨br, 0, none⟩), .int .i64 e] 103]) ((fun _ => [.blk bv [.pointer (some ⟨br, 0, none⟩), .int .i64 (failF ok e1 e)] 103]) x) w') := by
 refine enter Tryz.func59 rfl Tryz.ntmps59 rfl hS ?_
 refine c_seq ?_
 refine c_reg ?_
 refine sq (rd_move rfl) rfl ?_
 refine sq ((by first | exact rd_notd rfl | exact rd_not rfl)) rfl ?_
 refine sq (rd_move rfl) rfl ?_
 refine s_split (d := 8) rfl (fun g8 => ?_) (fun g8 => ?_)
 ·try have g8p := of_decide_eq_true g8
  refine sg1 (fun a hA => wanted_yes hA rfl rfl rfl g8) (rd_move rfl) rfl ?_
  refine sg1 (fun a hA => wanted_yes hA rfl rfl rfl g8) (rd_nil rfl) rfl ?_
  refine sg1 (fun a hA => wanted_yes hA rfl rfl rfl g8) (rd_field F103_1 rfl) rfl ?_
  refine sg1 (fun a hA => wanted_yes hA rfl rfl rfl g8) (rd_ldb C40 rfl (by first | exact .head _) rfl) rfl ?_
  refine sg1 (fun a hA => wanted_yes hA rfl rfl rfl g8) (rd_eql rfl rfl) rfl ?_
  refine sq (rd_pick_tt rfl g8 rfl) rfl ?_
  refine s_end ?_
  refine f_then ?_
  refine c_cond rfl (fun h14 => ?_) (fun h14 => ?_)
  ·refine c_reg ?_
   refine sq (rd_move rfl) rfl ?_
   refine sq (rd_move rfl) rfl ?_
   refine sq (rd_nil rfl) rfl ?_
   refine sq (rd_field F103_1 rfl) rfl ?_
   refine se (ef_store C40 rfl rfl (by first | exact .here) (by repeat constructor) rfl) rfl ?_
   refine s_end ?_
   refine f_end rfl .nil ?_
   exact fun w' hS => ⟨_, rfl, (), rfl, trivial, by unfold failF; rw [if_pos ⟨by simpa using g8, by simpa using h14⟩]; exact St.sub (E' := [_]) hS (by repeat (first | exact .refl _ | apply List.Sublist.cons_cons | apply List.Sublist.cons))⟩
  ·refine c_skip ?_
   refine f_end rfl .nil ?_
   exact fun w' hS => ⟨_, rfl, (), rfl, trivial, by unfold failF; rw [if_neg (fun h => by have := h.2; simp [this] at h14)]; exact St.sub (E' := [_]) hS (by repeat (first | exact .refl _ | apply List.Sublist.cons_cons | apply List.Sublist.cons))⟩
 ·try have g8p := of_decide_eq_false g8
  refine sg0 (fun a hA => wanted_no hA rfl rfl rfl g8 rfl) rfl ?_
  refine sg0 (fun a hA => wanted_no hA rfl rfl rfl g8 rfl) rfl ?_
  refine sg0 (fun a hA => wanted_no hA rfl rfl rfl g8 rfl) rfl ?_
  refine sg0 (fun a hA => wanted_no hA rfl rfl rfl g8 rfl) rfl ?_
  refine sg0 (fun a hA => wanted_no hA rfl rfl rfl g8 rfl) rfl ?_
  refine sq (rd_pick_ff rfl g8 rfl) rfl ?_
  refine s_end ?_
  refine f_then ?_
  refine c_lit_f rfl ?_
  refine c_skip ?_
  refine f_end rfl .nil ?_
  exact fun w' hS => ⟨_, rfl, (), rfl, trivial, by unfold failF; rw [if_neg (fun h => by have := h.1; simp [this] at g8)]; exact St.sub (E' := [_]) hS (by repeat (first | exact .refl _ | apply List.Sublist.cons_cons | apply List.Sublist.cons))⟩

theorem c97 (w : World) (bv : Nat) (br : Nat) (A : Option Addr) (n cap : Nat) (bytes : List Nat) (a k : Nat) (e : Int) (hk : k ≤ 62) (ha : a ≤ n * 8) (hl : bytes.length = n) (h256 : ∀ x ∈ bytes, x < 256) (hn : n ≤ 10000000) (hS : St w (fpOf [.blk bv [.pointer (some ⟨br, 0, none⟩), .int .i64 e] 103, .blk br [.slice A n cap, .int .i64 ((a : Nat) : Int)] 153, .row 5 1 A n cap (u8s bytes)]) [.blk bv [.pointer (some ⟨br, 0, none⟩), .int .i64 e] 103, .blk br [.slice A n cap, .int .i64 ((a : Nat) : Int)] 153, .row 5 1 A n cap (u8s bytes)] w) : Calls Tryz.prog 97 [.pointer (some ⟨bv, 0, none⟩), .int .i64 (k : Int)].toArray w (RtE fun v w' => ∃ x : Unit, v = (fun _ => .int .i64 ((getB (unp bytes) a k : Nat) : Int)) x ∧ (fun _ => True) x ∧ St w (fpOf [.blk bv [.pointer (some ⟨br, 0, none⟩), .int .i64 e] 103, .blk br [.slice A n cap, .int .i64 ((a : Nat) : Int)] 153, .row 5 1 A n cap (u8s bytes)]) ((fun _ => [.blk bv [.pointer (some ⟨br, 0, none⟩), .int .i64 (failF (okB (unp bytes) a k) 2 e)] 103, .blk br [.slice A n cap, .int .i64 ((toB (unp bytes) a k : Nat) : Int)] 153, .row 5 1 A n cap (u8s bytes)]) x) w') := by
 refine enter Tryz.func97 rfl Tryz.ntmps97 rfl hS ?_
 refine c_seq ?_
 refine c_reg ?_
 refine sq (rd_assign rfl) rfl ?_
 refine s_end ?_
 refine f_then ?_
 refine c_seq ?_
 refine c_reg ?_
 refine sq (rd_move rfl) rfl ?_
 refine sq (rd_nil rfl) rfl ?_
 refine sq (rd_field F103_0 rfl) rfl ?_
 refine sq (rd_ldb C100 rfl (by repeat constructor) rfl) rfl ?_
 refine sq (rd_move rfl) rfl ?_
 refine s_front (.row 5 _ A n cap _) (by repeat constructor) ?_
 refine s_front (.blk br _ _) (by repeat constructor) ?_
 refine sx (ef_call rfl rfl K142 (fun _ e => by cases e; rfl) [.blk br _ _, .row 5 _ A n cap _] _ (.refl _) _ _ _ (fun w hS => by exact c142 w br A n cap bytes a k (by omega) ha hl h256 hn hS.own)) rfl ?_
 rintro _ _
 refine sq (rd_move rfl) rfl ?_
 refine sq (rd_extract rfl rfl) rfl ?_
 refine sq (rd_extract rfl rfl) rfl ?_
 refine sq (rd_assign rfl) rfl ?_
 refine sq (rd_assign rfl) rfl ?_
 refine s_end ?_
 refine f_then ?_
 refine c_seq ?_
 refine c_reg ?_
 refine sq (rd_move rfl) rfl ?_
 refine sq (rd_move rfl) rfl ?_
 refine s_front (.blk bv _ _) (by repeat constructor) ?_
 refine sx (ef_call rfl rfl K59 (fun _ e => by cases e; rfl) [.blk bv _ _] _ (.refl _) _ _ _ (fun w hS => by exact c59 w bv br (okB (unp bytes) a k) 2 e hS.own)) rfl ?_
 rintro _ _
 refine s_end ?_
 refine f_then ?_
 refine c_seq ?_
 refine c_reg ?_
 refine sq (rd_move rfl) rfl ?_
 refine sq (rd_conv ⟨_, I118⟩ I3 rfl (i64n _ (by have h9 := getB_lt (unp bytes) a k; have h8 := Nat.pow_le_pow_right (n := 2) (by decide) hk; have h7 : (2 : Nat) ^ 62 = 4611686018427387904 := rfl; omega))) rfl ?_
 refine sq (rd_assign rfl) rfl ?_
 refine s_end ?_
 refine f_then ?_
 refine c_ret ?_
 refine f_ret rfl (.tmp rfl .nil) ?_
 exact fun w' hS => ⟨_, rfl, (), rfl, trivial, St.sub (E' := [_, _, _]) hS (by repeat (first | exact .refl _ | apply List.Sublist.cons_cons | apply List.Sublist.cons))⟩

theorem c96 (w : World) (bv : Nat) (br : Nat) (A : Option Addr) (n cap : Nat) (bytes : List Nat) (a : Nat) (e : Int) (ha : a ≤ n * 8) (hl : bytes.length = n) (h256 : ∀ x ∈ bytes, x < 256) (hn : n ≤ 10000000) (hS : St w (fpOf [.blk bv [.pointer (some ⟨br, 0, none⟩), .int .i64 e] 103, .blk br [.slice A n cap, .int .i64 ((a : Nat) : Int)] 153, .row 5 1 A n cap (u8s bytes)]) [.blk bv [.pointer (some ⟨br, 0, none⟩), .int .i64 e] 103, .blk br [.slice A n cap, .int .i64 ((a : Nat) : Int)] 153, .row 5 1 A n cap (u8s bytes)] w) : Calls Tryz.prog 96 [.pointer (some ⟨bv, 0, none⟩)].toArray w (RtE fun v w' => ∃ x : Unit, v = (fun _ => .bool (moreV (unp bytes) a e)) x ∧ (fun _ => True) x ∧ St w (fpOf [.blk bv [.pointer (some ⟨br, 0, none⟩), .int .i64 e] 103, .blk br [.slice A n cap, .int .i64 ((a : Nat) : Int)] 153, .row 5 1 A n cap (u8s bytes)]) ((fun _ => [.blk bv [.pointer (some ⟨br, 0, none⟩), .int .i64 (failF (okB (unp bytes) a 1) 2 e)] 103, .blk br [.slice A n cap, .int .i64 ((toB (unp bytes) a 1 : Nat) : Int)] 153, .row 5 1 A n cap (u8s bytes)]) x) w') := by
 refine enter Tryz.func96 rfl Tryz.ntmps96 rfl hS ?_
 refine c_seq ?_
 refine c_reg ?_
 refine sq (rd_assign rfl) rfl ?_
 refine s_end ?_
 refine f_then ?_
 refine c_seq ?_
 refine c_reg ?_
 refine sq (rd_move rfl) rfl ?_
 refine sx (ef_call rfl rfl K97 (fun _ e => by cases e; rfl) [.blk bv _ _, .blk br _ _, .row 5 _ A n cap _] _ (.refl _) _ _ _ (fun w hS => by exact c97 w bv br A n cap bytes a 1 e (by decide) ha hl h256 hn hS.own)) rfl ?_
 rintro _ _
 refine sq (rd_eql rfl rfl) rfl ?_
 refine sq (rd_move rfl) rfl ?_
 refine s_split (d := 6) rfl (fun g6 => ?_) (fun g6 => ?_)
 ·try have g6p := of_decide_eq_true g6
  refine sg1 (fun a hA => wanted_yes hA rfl rfl rfl g6) (rd_move rfl) rfl ?_
  refine sg1 (fun a hA => wanted_yes hA rfl rfl rfl g6) (rd_nil rfl) rfl ?_
  refine sg1 (fun a hA => wanted_yes hA rfl rfl rfl g6) (rd_field F103_1 rfl) rfl ?_
  refine sg1 (fun a hA => wanted_yes hA rfl rfl rfl g6) (rd_ldb C40 rfl (by repeat constructor) rfl) rfl ?_
  refine sg1 (fun a hA => wanted_yes hA rfl rfl rfl g6) (rd_eql rfl rfl) rfl ?_
  refine sq (rd_pick_tt rfl g6 rfl) rfl ?_
  refine sq (rd_assign rfl) rfl ?_
  refine s_end ?_
  refine f_then ?_
  refine c_ret ?_
  refine f_ret rfl (.tmp rfl .nil) ?_
  refine fun w' hS => ⟨_, rfl, (), ?_, trivial, St.sub (E' := [_, _, _]) hS (by repeat (first | exact .refl _ | apply List.Sublist.cons_cons | apply List.Sublist.cons))⟩
  simp only [resVal_one, moreV]
  congr 1
  rw [decide_eq_true (show getB (unp bytes) a 1 = 1 from by have := of_decide_eq_true g6; omega), Bool.true_and]
 ·try have g6p := of_decide_eq_false g6
  refine sg0 (fun a hA => wanted_no hA rfl rfl rfl g6 rfl) rfl ?_
  refine sg0 (fun a hA => wanted_no hA rfl rfl rfl g6 rfl) rfl ?_
  refine sg0 (fun a hA => wanted_no hA rfl rfl rfl g6 rfl) rfl ?_
  refine sg0 (fun a hA => wanted_no hA rfl rfl rfl g6 rfl) rfl ?_
  refine sg0 (fun a hA => wanted_no hA rfl rfl rfl g6 rfl) rfl ?_
  refine sq (rd_pick_ff rfl g6 rfl) rfl ?_
  refine sq (rd_assign rfl) rfl ?_
  refine s_end ?_
  refine f_then ?_
  refine c_ret ?_
  refine f_ret rfl (.tmp rfl .nil) ?_
  refine fun w' hS => ⟨_, rfl, (), ?_, trivial, St.sub (E' := [_, _, _]) hS (by repeat (first | exact .refl _ | apply List.Sublist.cons_cons | apply List.Sublist.cons))⟩
  simp only [resVal_one, moreV]
  congr 1
  rw [decide_eq_false (show ¬ getB (unp bytes) a 1 = 1 from by have := of_decide_eq_false g6; omega), Bool.false_and]

end Go.Proofs.YtfccnoccfhgcbaaGreatDoor
namespace Go.Proofs.YtfccnoccfhgcbaaGreatDoor
open Go Go.RowKit

section
variable {P : Program} {S : World → Prop} {ops : Array Oper} {Q : Exit → Act → World → Prop} {n : Nat} {rest : List Oper} {w0 w : World} {M : Nat → Prop} {E E' ES : List Ent} {L L' : Slots} {d ty : Nat} {dst : Option Nat} {pos : String} {af : Array Edge} {x y z : Operand} {v u : Value} {t t' t2 e sz bytes m cap c : Nat} {g : Option (Nat × Bool)}
 {zs xs us cs news : List Value} {A A2 D : Option Addr} {k : IntKind}

theorem rd_cap {A0 : Option Addr} {ats : Array TypeId} (hs : sliceTy P t e sz) (h0 : ats[0]? = some t) (hx : opv L x = some (.slice A0 m cap)) : Rd P S n L ⟨dst, .call ⟨.builtin .cap, #[x], ats⟩, ty, pos, af, g⟩ (.int .i64 cap) := fun A w hA _ => by
 simp [execOp, resolve, invoke, builtin, Builtin.cap_, hA.eval hx, h0, run_underlying hs.1, goInt]
/-- A call of a function without a body, in such worlds. -/
theorem rd_extS {f : Nat} {fo : Operand} {ax : List Operand} {ats : Array TypeId} {as1 : List Value} (hf : opv L fo = some (.func (.func f) #[] #[])) (ha : opvs L ax = some as1) (h : ∀ w, S w → (callFunc f as1.toArray).run P w = .ok (.value v) w) :
  Rd P S n L ⟨dst, .call ⟨.value fo, ax.toArray, ats⟩, ty, pos, af, g⟩ v := fun A w hA hS => by
 have e1 : ax.toArray.map A.eval = as1.toArray := by rw [List.map_toArray, hA.evals ha]
 simp [execOp, resolve, hA.eval hf, Deferred.ofValue, invoke, e1, h w hS]
/-- What each world has of its own. -/
theorem c_ex {α : Type} {cd : Code} {E1 : α → List Ent} (h : ∀ w, St w0 M E w → ∃ x, St w0 M (E1 x) w) (k : ∀ x, WC P Q n cd w0 M (E1 x) L) : WC P Q n cd w0 M E L := fun a w hA hS => by
 obtain ⟨x, hx⟩ := h w hS
 exact k x a w hA hx
/-- A row is seen longer, within its capacity. -/
theorem St.rowMore (h : St w0 M (.row e sz A m cap xs :: E) w) (j : Nat) (hj : m + j ≤ cap) : ∃ ys : List Value, ys.length = j * sz ∧ St w0 M (.row e sz A (m + j) cap (xs ++ ys) :: E) w := by
 have hmem : Ent.row e sz A m cap xs ∈ Ent.row e sz A m cap xs :: E := List.mem_cons_self ..
 have hf := (h.ents _ hmem).2.2
 obtain ⟨h1, h2⟩ := row_shape (h.ents _ hmem).2.1
 rcases h2 with ⟨rfl, rfl, rfl⟩ | ⟨gb, rfl, h3, h4, cur, hg, h5, h6⟩
 ·have : j = 0 := by omega
  subst this
  exact ⟨[], by simp, by simpa using h⟩
 ·refine ⟨(cur.toList.drop (m * sz)).take (j * sz), ?_, ?_⟩
  ·have := Nat.mul_le_mul_right sz hj
   rw [Nat.add_mul] at this
   rw [List.length_take, List.length_drop, Array.length_toList, h5]
   omega
  ·refine h.change rfl rfl rfl (Nat.le_refl _) (fun _ _ _ => rfl) (Ent.loc_row _ _ _ _ _ _) ⟨?_, .inr ⟨gb, cap, cur, rfl, Nat.zero_le _, hg, hj, h4, h5, ?_⟩⟩ (fun b hb => ⟨(hf b hb).1, .inl hb⟩)
   ·have := Nat.mul_le_mul_right sz hj
    rw [Nat.add_mul] at this
    have hcl : cur.toList.length = cap * sz := by simpa using h5
    rw [List.length_append, List.length_take, List.length_drop, h1, hcl, Nat.add_mul]
    omega
   ·rw [Nat.add_mul, List.take_add, h6]
theorem src_rowsub {i j : Nat} (hm : Ent.row e sz A m cap xs ∈ E) (hij : i + j ≤ m) : ∀ w, St w0 M E w → SrcOK w (some ⟨ab A, ao A + i * sz, none⟩) j sz ((xs.drop (i * sz)).take (j * sz)) := fun w hS => by
 have hk := row_know hm w hS
 refine ⟨?_, fun _ => rfl, fun q u hu => ?_⟩
 ·have := Nat.mul_le_mul_right sz hij
  rw [Nat.add_mul] at this
  rw [List.length_take, List.length_drop, hk.1]
  omega
 ·rw [List.getElem?_take] at hu
  split at hu
  ·rw [List.getElem?_drop] at hu
   show w.cell? ⟨ab A, ao A + i * sz + q, none⟩ = _
   rw [Nat.add_assoc]
   exact row_cell hm hS hu
  ·cases hu
/-- A copy into the row at the front. -/
theorem ef_copy {ats : Array TypeId} {o dl dc sl s2 j : Nat} (hs : sliceTy P t e sz) (hat : ats = #[t, t2]) (hE : E = .row e sz A m cap xs :: E') (hx : opv L x = some (.slice D dl dc)) (hD : D = some ⟨ab A, ao A + o, none⟩) (hy : opv L y = some (.slice A2 sl s2)) (hj : Nat.min sl dl = j) (hj0 : 0 < j) (hpos : 0 < sz)
  (hsrc : ∀ w, St w0 M E w → SrcOK w A2 j sz news) (h1 : news.all Value.oneCell' = true) (hl : o + j * sz ≤ m * sz) {ys : List Value} (hys : xs.take o ++ news ++ xs.drop (o + j * sz) = ys) (hd : Nat.blt d n = true) :
  Ef P n w0 M E L ⟨some d, .call ⟨.builtin .copy, #[x, y], ats⟩, ty, pos, af, g⟩ (fun K => To n w0 M (.row e sz A m cap ys :: E') ((d, .int .i64 (j : Int)) :: L) K) := by
 subst hE hat hD hys
 intro K Q a w hK hA hS
 obtain ⟨s1, s2', s3⟩ := hsrc w hS
 have hA2 : A2 = some ⟨ab A2, ao A2, none⟩ := s2' hj0
 have hnews : ∀ q u, news[q]? = some u → w.cell? ((⟨ab A2, ao A2, none⟩ : Addr).add q) = some u := fun q u hu => by rw [addr_add]; exact s3 q u hu
 obtain ⟨w', hr, hS'⟩ := run_store_row (P := P) hS (o := o) (cs := news) (by rw [s1]; exact hl) (by simpa using h1) (by rw [s1]; exact Nat.mul_pos hj0 hpos)
 rw [s1] at hS'
 have hf := run_firstCells_some (P := P) (w := w) sz j ⟨ab A2, ao A2, none⟩ sl s2 news s1 hnews
 have hj' : Nat.min sl dl = j := hj
 have hc : (Builtin.copy_ #[t, t2] ty #[.slice (some ⟨ab A, ao A + o, none⟩) dl dc, .slice A2 sl s2]).run P w = .ok (goInt j) w' := by
  rw [hA2]
  simp only [Builtin.copy_, Sem.run_bind, Sem.run_pure, run_underlying hs.1, Result.andThen_ok, Builtin.lenOf, size_run hs.2, hj', hf, hr, List.getElem?_toArray, List.getElem?_cons_zero, List.getElem?_cons_succ]
 unfold Oper.wp
 simp only [execOp, resolve, invoke, builtin, hA.eval hx, hA.eval hy, Sem.run_bind, Sem.run_pure, Result.andThen_ok, List.map_toArray, List.map_cons, List.map_nil, hc, Oper.upon]
 exact hK _ _ (hA.put hd) hS'
/-- 'append(s[:i], make(T, j)...)' where there is no room: the row stays, beside a new one. -/
theorem ef_appmake {ats : Array TypeId} {ti i j : Nat} {kj ki : IntKind} {b : Int} (ht : rowTy P t e sz bytes zs) (hti : P.underlying ti = some (.int ki)) (hat : ats = #[t, ti]) (hE : E = .row e sz A m cap xs :: E') (hx : opv L x = some (.slice A i cap)) (hy : opv L y = some (.int kj b)) (hb : (j : Int) = b) (hp : plainA A) (hi : i ≤ m) (hj : 0 < j) (hc : cap < i + j)
  (hby : (i + j) * bytes ≤ 140737488355328) (h63 : i + j ≤ maxLen) (hd : Nat.blt d n = true) :
  Ef P n w0 M E L ⟨some d, .call ⟨.builtin .append, #[x, y], ats⟩, ty, pos, af, g⟩ (fun K => ∀ p : Nat × Nat, w0.heap.size ≤ p.1 → To n w0 M (.row e sz (some ⟨p.1, 0, none⟩) (i + j) p.2 (xs.take (i * sz) ++ zrep j zs) :: .row e sz A m cap xs :: E') ((d, .slice (some ⟨p.1, 0, none⟩) (i + j) p.2) :: L) K) := by
 subst hE hat hb
 intro K Q a w hK hA hS
 obtain ⟨inf, z, hinf, hz, hsz, hbyt, hzs⟩ := ht.info
 have hzc : z.cells = zs.toArray := by
  have := ht.2.2.2.1
  unfold zeroTy at this
  rw [hinf] at this
  simpa [hz] using this
 have hmem : Ent.row e sz A m cap xs ∈ Ent.row e sz A m cap xs :: E' := List.mem_cons_self ..
 have hk := row_know hmem w hS
 have hAe : A = some ⟨ab A, ao A, none⟩ := hp
 have holds : ∀ q u, (xs.take (i * sz))[q]? = some u → w.drew.cell? ((⟨ab A, ao A, none⟩ : Addr).add q) = some u := fun q u hu => by
  rw [addr_add]
  rw [List.getElem?_take] at hu
  split at hu
  ·exact row_cell hmem hS hu
  ·cases hu
 have hlo : (xs.take (i * sz)).length = i * sz := by
  have := Nat.mul_le_mul_right sz hi
  rw [List.length_take, hk.1]
  omega
 have hfo := run_firstCells_some (P := P) (w := w.drew) sz i ⟨ab A, ao A, none⟩ i cap (xs.take (i * sz)) hlo holds
 have hsmall : i + j ≤ 9223372036854775807 := by simp only [maxLen] at h63; omega
 have hjs : ¬ (j * sz = 0) := by have := ht.2.2.2.2.1; have := Nat.mul_pos hj this; omega
 have hn : ¬ (i + j ≤ cap) := by omega
 have h63' : ¬ (9223372036854775807 < ((i : Int) + (j : Int))) := by omega
 have h48' : ¬ (281474976710656 < Builtin.nextslicecap (i + j) cap * inf.bytes) := by
  have := growslice_fits (need := i + j) (old := cap) (bytes := bytes) (by omega) hby
  rw [hbyt]
  omega
 have hw : IntKind.i64.wrap (j : Int) = (j : Int) := wrap_i64 (by omega)
 have hneg : ¬ ((j : Int) < 0) := by omega
 have hjb : ¬ (281474976710656 < (j : Int) * (inf.bytes : Int)) := by
  have h9 : j * bytes ≤ (i + j) * bytes := Nat.mul_le_mul_right _ (by omega)
  rw [hbyt]
  have h8 : ((j * bytes : Nat) : Int) ≤ 140737488355328 := by omega
  rw [Int.natCast_mul] at h8
  omega
 have hzl : zs.length = sz := ht.2.2.2.2.2
 have hjz : ¬ (j = 0 ∨ zs.length = 0) := by have := ht.2.2.2.2.1; omega
 have hnew : (Builtin.zeroCells zs.toArray j) = (zrep j zs).toArray := by
  unfold Builtin.zeroCells zrep
  apply Array.ext_getElem?
  intro q
  rw [← List.toArray_range]
  simp only [List.map_toArray, List.getElem?_toArray]
  simp
 have hr : (Builtin.append_ #[t, ti] ty #[.slice A i cap, .int kj (j : Int)]).run P w =
   .ok (.slice (some ⟨w.heap.size, 0, none⟩) (i + j) (grownCap w (i + j) cap e)) (w.drew.alloc (.cells ((xs.take (i * sz)).toArray ++ (zrep j zs).toArray ++ Builtin.zeroCells zs.toArray (grownCap w (i + j) cap e - (i + j))) e)) := by
  rw [hAe]
  have hjs' : ¬ (j = 0) := by omega
  have hsz0 : ¬ (sz = 0) := by have := ht.2.2.2.2.1; omega
  simp [Builtin.append_, run_underlying ht.1, run_underlying hti, sizeOf, typeInfo, zeroValue, hinf, hz, Builtin.lenOf, asInt, asIntOf, hw, hneg, hjb, hn, h63', h48', Question.forced, hfo, hsz, hjs', hsz0, hzc, hnew, newRow, grownCap]
  rw [if_neg hjs]
  simp only [← Array.append_assoc, List.append_toArray]
 have hge := grownCap_ge w (i + j) cap e
 have hcm : grownCap w (i + j) cap e ≤ maxLen := grownCap_le_maxLen w (i + j) cap e h63
 unfold Oper.wp
 simp only [execOp, resolve, invoke, builtin, hA.eval hx, hA.eval hy, Sem.run_bind, Sem.run_pure, Result.andThen_ok, List.map_toArray, List.map_cons, List.map_nil, hr, Oper.upon]
 refine hK (w.heap.size, grownCap w (i + j) cap e) hS.size _ _ (hA.put hd) ?_
 have hS1 : St w0 M (.row e sz A m cap xs :: E') w.drew := hS.of_heap rfl rfl rfl rfl
 have hS2 := hS1.alloc ((xs.take (i * sz)) ++ (zrep j zs) ++ (Builtin.zeroCells zs.toArray (grownCap w (i + j) cap e - (i + j))).toList) e
 have hlen : (xs.take (i * sz) ++ zrep j zs).length = (i + j) * sz := by
  rw [List.length_append, hlo, Nat.add_mul]
  simp [zrep, hzl]
 have e1 : ((xs.take (i * sz)) ++ (zrep j zs) ++ (Builtin.zeroCells zs.toArray (grownCap w (i + j) cap e - (i + j))).toList).toArray = ((xs.take (i * sz)).toArray ++ (zrep j zs).toArray ++ Builtin.zeroCells zs.toArray (grownCap w (i + j) cap e - (i + j))) := by simp
 rw [e1] at hS2
 refine hS2.turn (Ent.loc_row _ _ _ _ _ _) (fun kk => ⟨hlen, .inr ⟨w.heap.size, grownCap w (i + j) cap e, _, rfl, Nat.zero_le _, kk, hge, hcm, ?_, ?_⟩⟩) (fun b hb => ?_)
 ·rw [e1]
  simp only [Array.size_append, List.size_toArray, size_zeroCells, hlo, ← Nat.add_mul]
  simp only [zrep, List.length_map, List.length_range, hzl, List.size_toArray]
  rw [← Nat.add_mul, ← Nat.add_mul]
  congr 1
  omega
 ·rw [List.toList_toArray, ← hlen]
  exact List.take_left
 ·have : w.heap.size = b := by simpa [Ent.fp] using hb
  exact this.symm
/-- Two rows lie apart: what 'slices.overlaps' says of them. -/
theorem overlaps_rows {E : List Ent} {tS tR : TypeId} {cap2 m2 : Nat} {us : List Value} {la ca o lb cb : Nat} (ht : P.underlying tS = some (.slice e)) (hz : ∀ w, (Go.sizeOf e).run P w = .ok sz w) (hS : St w0 M E w) (h1 : Ent.row e sz A m cap xs ∈ E) (h2 : Ent.row e sz A2 m2 cap2 us ∈ E) (hne : (Ent.row e sz A m cap xs).apart (.row e sz A2 m2 cap2 us)) (hm : 0 < m) (hm2 : 0 < m2) (hpos : 0 < sz) :
  (Extern.SlicesOverlaps.overlaps #[tS, tS] #[tR] #[.slice A la ca, .slice (some ⟨ab A2, ao A2 + o, none⟩) lb cb]).run P w = .ok (.bool false) w := by
 have k1 := row_know h1 w hS
 have k2 := row_know h2 w hS
 have p1 := (k1.2.2.2 hm).1
 have p2 := (k2.2.2.2 hm2).1
 obtain ⟨_, r1⟩ := row_shape (hS.ents _ h1).2.1
 obtain ⟨_, r2⟩ := row_shape (hS.ents _ h2).2.1
 rcases r1 with ⟨_, hx, _⟩ | ⟨g1, rfl, _, _, c1, hg1, hc1, _⟩
 ·omega
 rcases r2 with ⟨_, hx, _⟩ | ⟨g2, rfl, hmc2, _, c2, hg2, hc2, _⟩
 ·omega
 have hb : g1 ≠ g2 := fun h => hne g1 rfl (by simp [Ent.fp, h])
 refine Lib.run_overlaps_apart w tS tR e ht sz hz ⟨g1, 0, none⟩ ⟨g2, 0 + o, none⟩ la ca lb cb hb e e c1.size c2.size (by simp [World.shape?, hg1]) (by simp [World.shape?, hg2]) ?_ (by simp [World.frozen?, hg1]) (by simp [World.frozen?, hg1])
 have : 0 < cap2 * sz := Nat.mul_pos (by omega) hpos
 omega
end
end Go.Proofs.YtfccnoccfhgcbaaGreatDoor
namespace Go.Proofs.YtfccnoccfhgcbaaGreatDoor
open Go Go.RowKit
theorem K99 : callTy Tryz.prog 99 := by unfold callTy; kernel_rfl
theorem Sz84 : (Tryz.prog.info? 84).map (·.size) = some 2 := by kernel_rfl
theorem K103 : callTy Tryz.prog 103 := by unfold callTy; kernel_rfl
theorem c99 (w : World) (b : Nat) (id rid : Int) (A : Option Addr) (m c : Nat) (hc : w.cell? ⟨b, 0, none⟩ = some (.int .i64 id)) : Pw Tryz.prog w 99 [.agg #[.int .i64 rid, .slice A m c], .pointer (some ⟨b, 0, none⟩)] (.bool (decide (rid = id))) := by
 refine Pw.enter Tryz.func99 rfl Tryz.ntmps99 rfl ?_
 refine c_seq ?_
 refine c_reg ?_
 refine sx (ef_box rfl rfl rfl) rfl ?_
 rintro b2 hb2
 refine sq (rd_assign rfl) rfl ?_
 refine s_end ?_
 refine f_then ?_
 refine c_seq ?_
 refine c_reg ?_
 refine sq (rd_field F84_0 rfl) rfl ?_
 refine sq (rd_ldb C3 rfl (by first | exact .head _) rfl) rfl ?_
 refine sq (rd_ldbase C3 rfl rfl hc (none'_no _)) rfl ?_
 refine sq (rd_eql rfl rfl) rfl ?_
 refine sq (rd_assign rfl) rfl ?_
 refine s_end ?_
 refine f_then ?_
 refine c_ret ?_
 refine f_ret rfl (.tmp rfl .nil) ?_
 exact pu_end rfl

theorem filter_all {ps : List PRw} {id : Int} (h : ∀ (j : Nat) (p : PRw), ps[j]? = some p → p.2.1 ≠ id) : ps.filter (fun p : PRw => !decide (p.2.1 = id)) = ps := by
 rw [List.filter_eq_self]
 intro p hp
 obtain ⟨j, hj⟩ := List.getElem?_of_mem hp
 simpa using h j p hj
theorem filter_take {ps : List PRw} {q : PRw → Bool} {k : Nat} {x : PRw} (h : ps[k]? = some x) : (ps.take (k + 1)).filter q = (ps.take k).filter q ++ if q x = true then [x] else [] := by
 rw [List.take_add_one, h, List.filter_append]
 congr 1
 cases hq : q x <;> simp [hq]

theorem c98 (w : World) (A : Option Addr) (n cap b : Nat) (id : Int) (ps : List PRw) (hn : n ≤ 1000000) (hS : St w (fpOf [.blk b [.int .i64 id] 3, .row 84 2 A n cap (flat pc ps)]) [.blk b [.int .i64 id] 3, .row 84 2 A n cap (flat pc ps)] w) : Calls Tryz.prog 98 [.slice A n cap, .func (.func 99) #[] #[.pointer (some ⟨b, 0, none⟩)]].toArray w (RtE fun v w' => ∃ x : Unit, v = (fun _ => .slice A (ps.filter (fun p : PRw => !decide (p.2.1 = id))).length cap) x ∧ (fun _ => True) x ∧ St w (fpOf [.blk b [.int .i64 id] 3, .row 84 2 A n cap (flat pc ps)]) ((fun _ => [.blk b [.int .i64 id] 3, .row 84 2 A (ps.filter (fun p : PRw => !decide (p.2.1 = id))).length cap (flat pc (ps.filter (fun p : PRw => !decide (p.2.1 = id))))]) x) w') := by
 refine enter Tryz.func98 rfl Tryz.ntmps98 rfl hS ?_
 refine c_seq ?_
 refine c_reg ?_
 refine sq (rd_assign rfl) rfl ?_
 refine s_end ?_
 refine f_then ?_
 refine c_seq ?_
 obtain ⟨mi, hmi⟩ : ∃ mi, ix (ps.findIdx? (fun p : PRw => decide (p.2.1 = id))) = mi := ⟨_, rfl⟩
 refine c_know (fun _ h => row_know (e := 84) (sz := 2) (A := A) (m := n) (cap := cap) (by repeat constructor) _ h) (fun hk0 => ?_)
 have hA0 : 0 < n → plainA A := fun h => (hk0.2.2.2 h).1
 have hlen : ps.length = n := by have := hk0.1; rw [flat_len pc_len] at this; omega
 have hcap := hk0.2.1
 refine c_reg ?_
 refine sq (rd_move rfl) rfl ?_
 refine sq (rd_move rfl) rfl ?_
 refine se (ef_pw rfl rfl K137 rfl (fun w hS => by exact (by have h9 := c137 w A n cap b 99 id ps K99 (fun w rid A m c h => c99 w b id rid A m c h) (hS.cell (b := b) (vs := [.int .i64 id]) (te := 3) (by repeat constructor) 0) (Sl.ofRow' hS (by repeat constructor)); rw [hmi] at h9; exact h9))) rfl ?_
 refine sq (rd_assign rfl) rfl ?_
 refine s_end ?_
 refine f_then ?_
 refine c_seq ?_
 refine c_seq ?_
 refine c_reg ?_
 refine sq (rd_move rfl) rfl ?_
 refine sq (rd_eql rfl rfl) rfl ?_
 refine s_end ?_
 refine f_then ?_
 refine c_if rfl (fun h12 => ?_) (fun h12 => ?_)
 ·refine c_seq ?_
  refine c_reg ?_
  refine sq (rd_move rfl) rfl ?_
  refine sq (rd_assign rfl) rfl ?_
  refine s_end ?_
  refine f_then ?_
  refine c_ret ?_
  refine f_then_r ?_
  refine f_ret rfl (.tmp rfl .nil) ?_
  have e9 : ps.filter (fun p : PRw => !decide (p.2.1 = id)) = ps := by
   cases hf : ps.findIdx? (fun p : PRw => decide (p.2.1 = id)) with
   | some i => rw [hf] at hmi; simp [ix] at hmi; omega
   | none =>
    rw [List.findIdx?_eq_none_iff] at hf
    exact filter_all fun j p hj => by simpa using hf p (List.mem_of_getElem? hj)
  exact fun w' hS => ⟨_, rfl, (), by rw [e9, hlen]; rfl, trivial, by rw [e9, hlen]; exact St.sub (E' := [_, _]) hS (by repeat (first | exact .refl _ | apply List.Sublist.cons_cons | apply List.Sublist.cons))⟩
 ·obtain ⟨i, rfl, hfi⟩ : ∃ i : Nat, mi = (i : Int) ∧ ps.findIdx? (fun p : PRw => decide (p.2.1 = id)) = some i := by
   cases hf : ps.findIdx? (fun p : PRw => decide (p.2.1 = id)) with
   | none => rw [hf] at hmi; simp [ix] at hmi; omega
   | some i => rw [hf] at hmi; exact ⟨i, hmi.symm, rfl⟩
  obtain ⟨hil, hip, hino⟩ := List.findIdx?_eq_some_iff_getElem.1 hfi
  have hfirst : (ps.take (i + 1)).filter (fun p : PRw => !decide (p.2.1 = id)) = ps.take i := by
   rw [filter_take (x := ps[i]) (by simp), if_neg (by simpa using hip), List.append_nil, filter_all]
   intro j p hj
   rw [List.getElem?_take] at hj
   split at hj
   ·rename_i hji
    have h8 := hino j hji
    obtain ⟨h7, h6⟩ := List.getElem?_eq_some_iff.1 hj
    rw [← h6]
    simpa using h8
   ·cases hj
  refine c_skip ?_
  refine f_then ?_
  refine c_seq ?_
  refine c_seq ?_
  refine c_reg ?_
  refine sq (rd_move rfl) rfl ?_
  refine sq (rd_add rfl rfl (by first | exact wrap_i64 (by omega) | exact rfl)) rfl ?_
  refine sq (rd_assign rfl) rfl ?_
  refine s_end ?_
  refine f_then ?_
  refine c_block ?_
  refine c_keep (L' := [(0, _), (1, _), (4, _), (5, _), (6, _)]) (by repeat constructor) ?_
  refine c_front (.row 84 _ A n cap _) (by repeat constructor) ?_
  refine c_for (α := Nat × Nat × List PRw) (fun ⟨k, j, xs⟩ => k < j ∧ j ≤ n ∧ xs.length = n ∧ xs.take k = (ps.take j).filter (fun p : PRw => !decide (p.2.1 = id)) ∧ ∀ t, j ≤ t → xs[t]? = ps[t]?) (fun ⟨k, j, xs⟩ => [.row 84 2 A n cap (flat pc xs)]) [.blk b _ _] (fun ⟨k, j, xs⟩ => [(5, .int .i64 (k : Int)), (6, .int .i64 (j : Int))]) [(0, _), (1, _), (4, _)] (fun ⟨k, j, xs⟩ => n - j) ((i, i + 1, ps)) (⟨by omega, by omega, hlen, hfirst.symm, fun _ _ => rfl⟩) (by repeat constructor) (fun _ h => h) ?_
  rintro ⟨k, j, xs⟩ ⟨hj1, hj2, hj3, hj4, hj5⟩
  refine c_seq ?_
  refine c_seq ?_
  refine c_reg ?_
  refine sq (rd_move rfl) rfl ?_
  refine sq (rd_move rfl) rfl ?_
  refine sq (rd_len S80 rfl rfl) rfl ?_
  refine sq (rd_lss rfl rfl) rfl ?_
  refine s_end ?_
  refine f_then ?_
  refine c_if rfl (fun h19 => ?_) (fun h19 => ?_)
  ·have hjn : j < n := by omega
   obtain ⟨x, hx⟩ : ∃ x, ps[j]? = some x := ⟨ps[j]'(by omega), by simp⟩
   have hxx := (hj5 j (Nat.le_refl _)).trans hx
   refine c_skip ?_
   refine f_then ?_
   refine c_seq ?_
   refine c_block ?_
   refine c_seq ?_
   refine c_reg ?_
   refine sq (rd_move rfl) rfl ?_
   refine sq (rd_move rfl) rfl ?_
   refine sq (rd_index S80 rfl rfl hA0 (by omega) (by omega)) rfl ?_
   refine sq (rd_ldsr A84 (by repeat constructor) rfl (flat_part pc_len xs _ x hxx)) rfl ?_
   refine sx (ef_alloc Z84 rfl) rfl ?_
   rintro b7 hb7
   refine se (ef_stores A84 rfl rfl rfl (by repeat constructor) (by first | exact SetR.all rfl | repeat constructor) rfl) rfl ?_
   refine s_end ?_
   refine f_then ?_
   refine c_seq ?_
   refine c_reg ?_
   refine sq (rd_move rfl) rfl ?_
   refine sq (rd_ldsb A84 rfl (by repeat constructor) (by first | exact GetR.all _ | repeat constructor)) rfl ?_
   refine se (ef_pw rfl rfl K99 rfl (fun w hS => by exact c99 w b id x.2.1 x.1.1 _ x.1.2 (hS.cell (b := b) (vs := [.int .i64 id]) (te := 3) (by repeat constructor) 0))) rfl ?_
   refine sq ((by first | exact rd_notd rfl | exact rd_not rfl)) rfl ?_
   refine s_end ?_
   refine f_then ?_
   refine c_cond rfl (fun h29 => ?_) (fun h29 => ?_)
   ·refine c_seq ?_
    refine c_reg ?_
    refine sq (rd_move rfl) rfl ?_
    refine sq (rd_move rfl) rfl ?_
    refine sq (rd_ldsb A84 rfl (by repeat constructor) (by first | exact GetR.all _ | repeat constructor)) rfl ?_
    refine sq (rd_index S80 rfl rfl hA0 (by omega) (by omega)) rfl ?_
    refine s_front (.row 84 _ A n cap _) (by repeat constructor) ?_
    refine se (ef_storer (ys := flat pc (xs.set k x)) Sz84 rfl rfl rfl rfl rfl (by simp only [Int.toNat_natCast]; omega) (by decide) rfl (by simp only [Int.toNat_natCast]; exact flat_set pc_len x (by omega))) rfl ?_
    refine s_end ?_
    refine f_then ?_
    refine c_reg ?_
    refine sq (rd_move rfl) rfl ?_
    refine sq (rd_add rfl rfl (by first | exact wrap_i64 (by omega) | exact rfl)) rfl ?_
    refine sq (rd_assign rfl) rfl ?_
    refine s_end ?_
    refine f_blk ?_
    refine f_then ?_
    refine c_reg ?_
    refine sq (rd_move rfl) rfl ?_
    refine sq (rd_add rfl rfl (by first | exact wrap_i64 (by omega) | exact rfl)) rfl ?_
    refine sq (rd_assign rfl) rfl ?_
    refine s_end ?_
    have hq : (fun p : PRw => !decide (p.2.1 = id)) x = true := by simpa using h29
    refine f_front (.blk b _ _) (by repeat constructor) ?_
    refine f_front (.row 84 _ A n cap _) (by repeat constructor) ?_
    refine f_again ((k + 1, j + 1, xs.set k x)) (⟨by omega, by omega, by simpa using hj3, by rw [filter_take hx, if_pos hq, ← hj4, List.take_add_one, List.take_set_of_le (Nat.le_refl _), List.getElem?_set_self (by omega)]; rfl, fun t ht => by rw [List.getElem?_set_ne (by omega)]; exact hj5 t (by omega)⟩) (by show n - (j + 1) < n - j; omega) (by repeat constructor) (fun _ h => h.sb)
   ·refine c_skip ?_
    refine f_blk ?_
    refine f_then ?_
    refine c_reg ?_
    refine sq (rd_move rfl) rfl ?_
    refine sq (rd_add rfl rfl (by first | exact wrap_i64 (by omega) | exact rfl)) rfl ?_
    refine sq (rd_assign rfl) rfl ?_
    refine s_end ?_
    have hq : ¬ (fun p : PRw => !decide (p.2.1 = id)) x = true := by simpa using h29
    refine f_front (.blk b _ _) (by repeat constructor) ?_
    refine f_front (.row 84 _ A n cap _) (by repeat constructor) ?_
    refine f_again ((k, j + 1, xs)) (⟨by omega, by omega, hj3, by rw [filter_take hx, if_neg hq, List.append_nil]; exact hj4, fun t ht => hj5 t (by omega)⟩) (by show n - (j + 1) < n - j; omega) (by repeat constructor) (fun _ h => h.sb)
  ·have hjn : j = n := by omega
   refine c_exit ?_
   refine f_then_x ?_
   refine f_then_x ?_
   refine f_blk_x ?_
   refine f_then ?_
   refine c_seq ?_
   refine c_reg ?_
   refine sq (rd_move rfl) rfl ?_
   refine sq (rd_move rfl) rfl ?_
   refine sq (rd_slice_lon S80 rfl rfl (by omega)) rfl ?_
   refine se (ef_clear (j := k) Rt80 rfl rfl rfl (by omega) rfl) rfl ?_
   refine s_end ?_
   refine f_then ?_
   refine c_seq ?_
   refine c_reg ?_
   refine sq (rd_move rfl) rfl ?_
   refine sq (rd_move rfl) rfl ?_
   refine sq (rd_slice_hin S80 rfl rfl (by omega)) rfl ?_
   refine sq (rd_assign rfl) rfl ?_
   refine s_end ?_
   refine f_then ?_
   refine c_ret ?_
   refine f_ret rfl (.tmp rfl .nil) ?_
   have e9 : ps.filter (fun p : PRw => !decide (p.2.1 = id)) = xs.take k := by rw [hj4, List.take_of_length_le (by omega)]
   have e8 : (ps.filter (fun p : PRw => !decide (p.2.1 = id))).length = k := by rw [e9, List.length_take]; omega
   refine fun w' hS => ⟨_, rfl, (), by rw [e8]; rfl, trivial, ?_⟩
   rw [e8, e9]
   have h9 := St.rowTake hS k (by omega)
   rw [List.take_append_of_le_length (by rw [List.length_take, flat_len pc_len]; omega), List.take_take, Nat.min_self, flat_take pc_len] at h9
   exact (St.sub (E' := [_, _]) h9 (by repeat (first | exact .refl _ | apply List.Sublist.cons_cons | apply List.Sublist.cons))).perm (.swap _ _ _)

theorem c103 (rid id : Int) (A : Option Addr) (m c : Nat) : Pu Tryz.prog 103 [.agg #[.int .i64 rid, .slice A m c], .int .i64 id] (.int .i64 (cmpI rid id)) := by
 refine Pu.enter Tryz.func103 rfl Tryz.ntmps103 rfl (fun w => ?_)
 refine c_seq ?_
 refine c_reg ?_
 refine sx (ef_box rfl rfl rfl) rfl ?_
 rintro b2 hb2
 refine sq (rd_assign rfl) rfl ?_
 refine s_end ?_
 refine f_then ?_
 refine c_seq ?_
 refine c_reg ?_
 refine sq (rd_field F84_0 rfl) rfl ?_
 refine sq (rd_ldb C3 rfl (by first | exact .head _) rfl) rfl ?_
 refine sq (rd_move rfl) rfl ?_
 refine se (ef_pure rfl rfl K37 rfl (by exact c37 _ _)) rfl ?_
 refine sq (rd_assign rfl) rfl ?_
 refine s_end ?_
 refine f_then ?_
 refine c_ret ?_
 refine f_ret rfl (.tmp rfl .nil) ?_
 exact pu_end rfl

theorem cmpI_lt0 (a b : Int) : cmpI a b < 0 ↔ a < b := by
 rcases cmpI_cases a b with ⟨h, e⟩ | ⟨h, e⟩ | ⟨h, e⟩ <;> rw [e] <;> omega
theorem cmpI_eq0 (a b : Int) : cmpI a b = 0 ↔ a = b := by
 rcases cmpI_cases a b with ⟨h, e⟩ | ⟨h, e⟩ | ⟨h, e⟩ <;> rw [e] <;> omega
theorem rising {ps : List PRw} (h : ps.Pairwise fun p q => p.2.1 < q.2.1) {s t : Nat} {p q : PRw} (hst : s < t) (hp : ps[s]? = some p) (hq : ps[t]? = some q) : p.2.1 < q.2.1 := by
 obtain ⟨h1, e1⟩ := List.getElem?_eq_some_iff.1 hp
 obtain ⟨h2, e2⟩ := List.getElem?_eq_some_iff.1 hq
 have := List.pairwise_iff_getElem.1 h s t h1 h2 hst
 rwa [e1, e2] at this

theorem c102 (w : World) (A : Option Addr) (n cap : Nat) (id : Int) (ps : List PRw) (hn : n ≤ 1000000) (hs : ps.Pairwise fun p q => p.2.1 < q.2.1) (hsl : Sl w none' A n 2 (flat pc ps)) : Pw Tryz.prog w 102 [.slice A n cap, .int .i64 id, .func (.func 103) #[] #[]] (.tuple #[.int .i64 (lbP ps id : Nat), .bool (thereP ps id)]) := by
 refine Pw.enter Tryz.func102 rfl Tryz.ntmps102 rfl ?_
 refine c_seq ?_
 refine c_reg ?_
 refine sq (rd_assign rfl) rfl ?_
 refine sq (rd_assign rfl) rfl ?_
 refine s_end ?_
 refine f_then ?_
 refine c_seq ?_
 have hlen : ps.length = n := by have := hsl.len; rw [flat_len pc_len] at this; omega
 refine c_reg ?_
 refine sq (rd_move rfl) rfl ?_
 refine sq (rd_len S80 rfl rfl) rfl ?_
 refine sq (rd_assign rfl) rfl ?_
 refine s_end ?_
 refine f_then ?_
 refine c_seq ?_
 refine c_reg ?_
 refine sq (rd_move rfl) rfl ?_
 refine sq (rd_assign rfl) rfl ?_
 refine sq (rd_assign rfl) rfl ?_
 refine s_end ?_
 refine f_then ?_
 refine c_seq ?_
 refine c_block ?_
 refine c_keep (L' := [(0, _), (1, _), (2, _), (6, _), (7, _), (8, _), (9, _), (10, _)]) (by repeat constructor) ?_
 refine c_for (α := Nat × Nat) (fun ⟨i, j⟩ => i ≤ j ∧ j ≤ n ∧ (∀ (t : Nat) (p : PRw), t < i → ps[t]? = some p → p.2.1 < id) ∧ (∀ (t : Nat) (p : PRw), j ≤ t → ps[t]? = some p → ¬ p.2.1 < id)) (fun ⟨i, j⟩ => []) [] (fun ⟨i, j⟩ => [(9, .int .i64 (i : Int)), (10, .int .i64 (j : Int))]) [(0, _), (1, _), (2, _), (6, _), (7, _), (8, _)] (fun ⟨i, j⟩ => j - i) ((0, n)) (⟨Nat.zero_le _, Nat.le_refl _, fun t p h => absurd h (Nat.not_lt_zero _), fun t p h hp => by have := (List.getElem?_eq_some_iff.1 hp).1; omega⟩) (by repeat constructor) (fun _ h => h) ?_
 rintro ⟨i, j⟩ ⟨hi1, hi2, hi3, hi4⟩
 refine c_seq ?_
 refine c_seq ?_
 refine c_reg ?_
 refine sq (rd_move rfl) rfl ?_
 refine sq (rd_move rfl) rfl ?_
 refine sq (rd_lss rfl rfl) rfl ?_
 refine s_end ?_
 refine f_then ?_
 refine c_if rfl (fun h17 => ?_) (fun h17 => ?_)
 ·have hij : i < j := by omega
  obtain ⟨x, hx⟩ : ∃ x, ps[(i + j) / 2]? = some x := ⟨ps[(i + j) / 2]'(by omega), by simp⟩
  refine c_skip ?_
  refine f_then ?_
  refine c_block ?_
  refine c_seq ?_
  refine c_reg ?_
  refine sq (rd_move rfl) rfl ?_
  refine sq (rd_move rfl) rfl ?_
  refine sq (rd_addn (i) (j) rfl rfl rfl rfl (by omega)) rfl ?_
  refine sq (rd_conv ⟨_, I3⟩ I133 rfl (u64n _ (by omega))) rfl ?_
  refine sq (rd_shr rfl rfl (by omega) (shr1 (i + j))) rfl ?_
  refine sq (rd_conv ⟨_, I133⟩ I3 rfl (i64n _ (by omega))) rfl ?_
  refine sq (rd_assign rfl) rfl ?_
  refine s_end ?_
  refine f_then ?_
  refine c_seq ?_
  refine c_reg ?_
  refine sq (rd_move rfl) rfl ?_
  refine sq (rd_move rfl) rfl ?_
  refine sq (rd_move rfl) rfl ?_
  refine sq (rd_index S80 rfl rfl hsl.plain (by omega) (by omega)) rfl ?_
  refine sq (rd_ldssl A84 hsl rfl (flat_part pc_len ps _ x hx)) rfl ?_
  refine sq (rd_move rfl) rfl ?_
  refine se (ef_pure rfl rfl K103 rfl (by exact c103 x.2.1 id x.1.1 _ x.1.2)) rfl ?_
  refine sq (rd_lss rfl rfl) rfl ?_
  refine s_end ?_
  refine f_then ?_
  refine c_if rfl (fun h31 => ?_) (fun h31 => ?_)
  ·refine c_reg ?_
   refine sq (rd_move rfl) rfl ?_
   refine sq (rd_add rfl rfl (by first | exact wrap_i64 (by omega) | exact rfl)) rfl ?_
   refine sq (rd_assign rfl) rfl ?_
   refine s_end ?_
   refine f_blk ?_
   have hlt : x.2.1 < id := (cmpI_lt0 _ _).1 h31
   refine f_again (((i + j) / 2 + 1, j)) (⟨by omega, hi2, fun t p ht hp => by rcases Nat.lt_succ_iff_lt_or_eq.1 ht with h | h; exact Int.lt_trans (rising hs h hp hx) hlt; subst h; rw [hx] at hp; injection hp with hp; subst hp; exact hlt, hi4⟩) (by show j - ((i + j) / 2 + 1) < j - i; omega) (by repeat constructor) (fun _ h => h.sb)
  ·refine c_reg ?_
   refine sq (rd_move rfl) rfl ?_
   refine sq (rd_assign rfl) rfl ?_
   refine s_end ?_
   refine f_blk ?_
   have hlt : ¬ x.2.1 < id := fun h => h31 ((cmpI_lt0 _ _).2 h)
   refine f_again ((i, (i + j) / 2)) (⟨by omega, by omega, hi3, fun t p ht hp => by rcases Nat.lt_or_eq_of_le ht with h | h; have := rising hs h hx hp; omega; subst h; rw [hx] at hp; injection hp with hp; subst hp; exact hlt⟩) (by show (i + j) / 2 - i < j - i; omega) (by repeat constructor) (fun _ h => h.sb)
 ·have hij : i = j := by omega
  refine c_exit ?_
  refine f_then_x ?_
  refine f_then_x ?_
  refine f_blk_x ?_
  refine f_then ?_
  refine c_seq ?_
  refine c_reg ?_
  refine sq (rd_move rfl) rfl ?_
  refine sq (rd_move rfl) rfl ?_
  refine sq (rd_move rfl) rfl ?_
  refine sq (rd_lss rfl rfl) rfl ?_
  refine sq (rd_move rfl) rfl ?_
  refine s_split (d := 39) rfl (fun g39 => ?_) (fun g39 => ?_)
  ·have hin : i < n := by have := of_decide_eq_true g39; omega
   obtain ⟨x, hx⟩ : ∃ x, ps[i]? = some x := ⟨ps[i]'(by omega), by simp⟩
   try have g39p := of_decide_eq_true g39
   refine sg1 (fun a hA => wanted_yes hA rfl rfl rfl g39) (rd_move rfl) rfl ?_
   refine sg1 (fun a hA => wanted_yes hA rfl rfl rfl g39) (rd_move rfl) rfl ?_
   refine sg1 (fun a hA => wanted_yes hA rfl rfl rfl g39) (rd_move rfl) rfl ?_
   refine sg1 (fun a hA => wanted_yes hA rfl rfl rfl g39) (rd_index S80 rfl rfl hsl.plain (by omega) (by omega)) rfl ?_
   refine sg1 (fun a hA => wanted_yes hA rfl rfl rfl g39) (rd_ldssl A84 hsl rfl (flat_part pc_len ps _ x hx)) rfl ?_
   refine sg1 (fun a hA => wanted_yes hA rfl rfl rfl g39) (rd_move rfl) rfl ?_
   refine seg (fun a hA => wanted_yes hA rfl rfl rfl g39) (ef_pure rfl rfl K103 rfl (by exact c103 x.2.1 id x.1.1 _ x.1.2)) ?_
   refine sg1 (fun a hA => wanted_yes hA rfl rfl rfl g39) (rd_eql rfl rfl) rfl ?_
   refine sq (rd_pick_tt rfl g39 rfl) rfl ?_
   refine sq (rd_assign rfl) rfl ?_
   refine sq (rd_assign rfl) rfl ?_
   refine s_end ?_
   refine f_then ?_
   refine c_ret ?_
   refine f_ret rfl (.tmp rfl (.tmp rfl .nil)) ?_
   have hlb : lbP ps id = i := lbP_of (by omega) hi3 (fun p hp => hi4 i p (by omega) hp)
   refine pu_end ?_
   simp only [resVal_two]
   rw [hlb, show thereP ps id = decide (cmpI x.2.1 id = 0) from by unfold thereP; rw [hlb, hx]; simp only [cmpI_eq0]]
  ·try have g39p := of_decide_eq_false g39
   refine sg0 (fun a hA => wanted_no hA rfl rfl rfl g39 rfl) rfl ?_
   refine sg0 (fun a hA => wanted_no hA rfl rfl rfl g39 rfl) rfl ?_
   refine sg0 (fun a hA => wanted_no hA rfl rfl rfl g39 rfl) rfl ?_
   refine sg0 (fun a hA => wanted_no hA rfl rfl rfl g39 rfl) rfl ?_
   refine sg0 (fun a hA => wanted_no hA rfl rfl rfl g39 rfl) rfl ?_
   refine sg0 (fun a hA => wanted_no hA rfl rfl rfl g39 rfl) rfl ?_
   refine sg0 (fun a hA => wanted_no hA rfl rfl rfl g39 rfl) rfl ?_
   refine sg0 (fun a hA => wanted_no hA rfl rfl rfl g39 rfl) rfl ?_
   refine sq (rd_pick_ff rfl g39 rfl) rfl ?_
   refine sq (rd_assign rfl) rfl ?_
   refine sq (rd_assign rfl) rfl ?_
   refine s_end ?_
   refine f_then ?_
   refine c_ret ?_
   refine f_ret rfl (.tmp rfl (.tmp rfl .nil)) ?_
   have hlb : lbP ps id = i := lbP_of (by omega) hi3 (fun p hp => hi4 i p (by omega) hp)
   have hin : ¬ i < n := by have := of_decide_eq_false g39; omega
   refine pu_end ?_
   simp only [resVal_two]
   rw [hlb, show thereP ps id = false from by unfold thereP; rw [hlb, List.getElem?_eq_none (by omega)]]

end Go.Proofs.YtfccnoccfhgcbaaGreatDoor
namespace Go.Proofs.YtfccnoccfhgcbaaGreatDoor
open Go Go.RowKit
theorem ext_overlaps {args : Array Value} {w : World} (h : (Extern.SlicesOverlaps.overlaps #[80, 80] #[4] args).run Tryz.prog w = .ok (.bool false) w) : (callFunc 144 args).run Tryz.prog w = .ok (.value (.bool false)) w := by
 rw [run_callFunc_extern Tryz.func144 (by kernel_rfl) (by kernel_rfl) (by kernel_rfl) (e := Extern.SlicesOverlaps.overlaps #[80, 80] #[4]) (by kernel_rfl), h]
 rfl
/-- One more row at a place. -/
def insP (ps : List PRw) (i : Nat) (p : PRw) : List PRw := ps.take i ++ [p] ++ ps.drop i
theorem insP_len {ps : List PRw} {i : Nat} (p : PRw) (h : i ≤ ps.length) : (insP ps i p).length = ps.length + 1 := by simp [insP]; omega
theorem insP_flat (ps : List PRw) (i : Nat) (p : PRw) : flat pc (insP ps i p) = (flat pc ps).take (i * 2) ++ pc p ++ (flat pc ps).drop (i * 2) := by
 unfold insP
 rw [flat_append, flat_append, flat_one, flat_take pc_len, flat_drop pc_len]
/-- A new row: what was in front, the row, what was behind. -/
theorem ins_new {F Z P C0 C1 : List Value} {n i : Nat} (hF : F.length = n * 2) (hZ : Z.length = (n + 1 - i) * 2) (hP : P.length = 2) (hi : i < n) (h0 : C0 = F.take (i * 2) ++ Z) (h1 : C1 = C0.take (i * 2) ++ P ++ C0.drop (i * 2 + 1 * 2)) :
  C1.take ((i + 1) * 2) ++ (F.drop (i * 2)).take ((n - i) * 2) ++ C1.drop ((i + 1) * 2 + (n - i) * 2) = F.take (i * 2) ++ P ++ F.drop (i * 2) := by
 have l0 : (F.take (i * 2)).length = i * 2 := by rw [List.length_take, hF]; omega
 have e1 : C1 = F.take (i * 2) ++ P ++ Z.drop 2 := by
  rw [h1, h0, List.take_left' l0, show i * 2 + 1 * 2 = (F.take (i * 2)).length + 2 from by omega, List.drop_append, List.drop_of_length_le (by omega)]
  simp
 have l1 : (F.take (i * 2) ++ P).length = (i + 1) * 2 := by rw [List.length_append, l0, hP]; omega
 have e2 : C1.take ((i + 1) * 2) = F.take (i * 2) ++ P := by rw [e1, List.take_left' l1]
 have e3 : (F.drop (i * 2)).take ((n - i) * 2) = F.drop (i * 2) := List.take_of_length_le (by rw [List.length_drop, hF]; omega)
 have e4 : C1.drop ((i + 1) * 2 + (n - i) * 2) = [] := List.drop_of_length_le (by rw [e1, List.length_append, l1, List.length_drop, hZ]; omega)
 rw [e2, e3, e4, List.append_nil]
/-- A row of one's own: what is behind moves up. -/
theorem ins_old {F Y P C0 C1 : List Value} {n i : Nat} (hF : F.length = n * 2) (hY : Y.length = 1 * 2) (hP : P.length = 2) (hi : i < n) (h0 : C0 = F ++ Y) (h1 : C1 = C0.take ((i + 1) * 2) ++ (C0.drop (i * 2)).take ((n - i) * 2) ++ C0.drop ((i + 1) * 2 + (n - i) * 2)) :
  C1.take (i * 2) ++ P ++ C1.drop (i * 2 + 1 * 2) = F.take (i * 2) ++ P ++ F.drop (i * 2) := by
 have e1 : C0.take ((i + 1) * 2) = F.take ((i + 1) * 2) := by rw [h0, List.take_append_of_le_length (by omega)]
 have e2 : (C0.drop (i * 2)).take ((n - i) * 2) = F.drop (i * 2) := by
  rw [h0, List.drop_append_of_le_length (by omega), List.take_left' (by rw [List.length_drop, hF]; omega)]
 have e3 : C0.drop ((i + 1) * 2 + (n - i) * 2) = [] := List.drop_of_length_le (by rw [h0, List.length_append, hF, hY]; omega)
 have l1 : (F.take ((i + 1) * 2)).length = i * 2 + 1 * 2 := by rw [List.length_take, hF]; omega
 rw [e1, e2, e3, List.append_nil] at h1
 have e4 : C1.take (i * 2) = F.take (i * 2) := by
  rw [h1, List.take_append_of_le_length (by omega), List.take_take]
  congr 1
  omega
 have e5 : C1.drop (i * 2 + 1 * 2) = F.drop (i * 2) := by rw [h1, List.drop_left' l1]
 rw [e4, e5]

theorem cells_drop {l : List Value} (h : l.all Value.oneCell' = true) {j : Nat} : (l.drop j).all Value.oneCell' = true := by
 rw [List.all_eq_true] at h ⊢
 exact fun x hx => h x (List.mem_of_mem_drop hx)
theorem cells_drop2 {l r : List Value} (h : l.all Value.oneCell' = true) {j k : Nat} (hk : j + k ≤ l.length) : (((l ++ r).drop j).take k).all Value.oneCell' = true := by
 rw [List.drop_append_of_le_length (by omega), List.take_append_of_le_length (by rw [List.length_drop]; omega)]
 exact cells_take (cells_drop h)

theorem c104 (w : World) (A : Option Addr) (n cap i bv : Nat) (ps : List PRw) (p : PRw) (hn : n ≤ 1000000) (hi : i ≤ n) (hS : St w (fpOf [.row 84 2 A n cap (flat pc ps), .row 84 2 (some ⟨bv, 0, none⟩) 1 1 (pc p)]) [.row 84 2 A n cap (flat pc ps), .row 84 2 (some ⟨bv, 0, none⟩) 1 1 (pc p)] w) : Calls Tryz.prog 104 [.slice A n cap, .int .i64 (i : Int), .slice (some ⟨bv, 0, none⟩) 1 1].toArray w (RtE fun v w' => ∃ x : Option Addr × Nat, v = (fun x => .slice x.1 (n + 1) x.2) x ∧ (fun _ => True) x ∧ St w (fpOf [.row 84 2 A n cap (flat pc ps), .row 84 2 (some ⟨bv, 0, none⟩) 1 1 (pc p)]) ((fun x => [.row 84 2 x.1 (n + 1) x.2 (flat pc (insP ps i p))]) x) w') := by
 refine enter Tryz.func104 rfl Tryz.ntmps104 rfl hS ?_
 refine c_seq ?_
 refine c_reg ?_
 refine sq (rd_assign rfl) rfl ?_
 refine s_end ?_
 refine f_then ?_
 refine c_seq ?_
 refine c_know (fun _ h => row_know (e := 84) (sz := 2) (A := A) (m := n) (cap := cap) (by repeat constructor) _ h) (fun hk0 => ?_)
 have hlen : ps.length = n := by have := hk0.1; rw [flat_len pc_len] at this; omega
 have hcap := hk0.2.1
 refine c_reg ?_
 refine sq (rd_move rfl) rfl ?_
 refine sq (rd_move rfl) rfl ?_
 refine sq (rd_slice_lon (i := i) S80 rfl rfl (by omega)) rfl ?_
 refine s_end ?_
 refine f_then ?_
 refine c_seq ?_
 refine c_reg ?_
 refine sq (rd_move rfl) rfl ?_
 refine sq (rd_len S80 rfl rfl) rfl ?_
 refine sq (rd_assign rfl) rfl ?_
 refine s_end ?_
 refine f_then ?_
 refine c_seq ?_
 refine c_seq ?_
 refine c_reg ?_
 refine sq (rd_move rfl) rfl ?_
 refine sq (rd_eql rfl rfl) rfl ?_
 refine s_end ?_
 refine f_then ?_
 refine c_if rfl (fun h16 => ?_) (fun h16 => ?_)
 ·omega
 ·refine c_skip ?_
  refine f_then ?_
  refine c_seq ?_
  refine c_reg ?_
  refine sq (rd_move rfl) rfl ?_
  refine sq (rd_len S80 rfl rfl) rfl ?_
  refine sq (rd_assign rfl) rfl ?_
  refine s_end ?_
  refine f_then ?_
  refine c_seq ?_
  refine c_seq ?_
  refine c_reg ?_
  refine sq (rd_move rfl) rfl ?_
  refine sq (rd_move rfl) rfl ?_
  refine sq (rd_eql rfl rfl) rfl ?_
  refine s_end ?_
  refine f_then ?_
  refine c_if rfl (fun h22 => ?_) (fun h22 => ?_)
  ·refine c_seq ?_
   refine c_reg ?_
   refine sq (rd_move rfl) rfl ?_
   refine sq (rd_move rfl) rfl ?_
   refine sx (ef_append Rt80 rfl rfl rfl rfl (src_row (by repeat constructor) (Nat.le_refl 1)) rfl (by omega) (by unfold maxLen; omega) rfl) rfl ?_
   rintro ⟨A1, c1⟩ _
   refine sq (rd_assign rfl) rfl ?_
   refine s_end ?_
   refine f_then ?_
   refine c_ret ?_
   refine f_then_r ?_
   refine f_ret rfl (.tmp rfl .nil) ?_
   have hin : i = n := by omega
   have e9 : (insP ps i p).length = n + 1 := by rw [insP_len p (by omega), hlen]
   have e8 : insP ps i p = ps ++ [p] := by unfold insP; rw [List.take_of_length_le (by omega), List.drop_of_length_le (by omega), List.append_nil]
   refine fun w' hS => ⟨_, rfl, (A1, c1), rfl, trivial, ?_⟩
   rw [e8, flat_append, flat_one]
   exact St.sub (E' := [_]) hS (by repeat (first | exact .refl _ | apply List.Sublist.cons_cons | apply List.Sublist.cons))
  ·have hin : i < n := by omega
   have hp := (hk0.2.2.2 (by omega)).1
   refine c_skip ?_
   refine f_then ?_
   refine c_seq ?_
   refine c_seq ?_
   refine c_reg ?_
   refine sq (rd_move rfl) rfl ?_
   refine sq (rd_move rfl) rfl ?_
   refine sq (rd_addn (n) 1 rfl rfl rfl rfl (by omega)) rfl ?_
   refine sq (rd_move rfl) rfl ?_
   refine sq (rd_cap S80 rfl rfl) rfl ?_
   refine sq (rd_gtr rfl rfl) rfl ?_
   refine s_end ?_
   refine f_then ?_
   refine c_if rfl (fun h31 => ?_) (fun h31 => ?_)
   ·refine c_seq ?_
    refine c_reg ?_
    refine sq (rd_move rfl) rfl ?_
    refine sq (rd_move rfl) rfl ?_
    refine sq (rd_slice_hin (i := i) S80 rfl rfl (by omega)) rfl ?_
    refine sq (rd_move rfl) rfl ?_
    refine sq (rd_move rfl) rfl ?_
    refine sq (rd_addn (n) 1 rfl rfl rfl rfl (by omega)) rfl ?_
    refine sq (rd_move rfl) rfl ?_
    refine sq (rd_subn (n + 1) i rfl rfl rfl rfl (by omega) (by omega)) rfl ?_
    refine sx (ef_appmake (j := n + 1 - i) Rt80 I3 rfl rfl rfl rfl (by omega) hp (by omega) (by omega) (by omega) (by omega) (by unfold maxLen; omega) rfl) rfl ?_
    rintro ⟨bN, cN⟩ hbN
    refine sq (rd_assign rfl) rfl ?_
    refine s_end ?_
    refine f_then ?_
    refine c_seq ?_
    refine c_know (fun _ h => row_know (e := 84) (sz := 2) (A := some ⟨bN, 0, none⟩) (m := i + (n + 1 - i)) (cap := cN) (by repeat constructor) _ h) (fun hkN => ?_)
    have hcN := hkN.2.1
    refine c_reg ?_
    refine sq (rd_move rfl) rfl ?_
    refine sq (rd_move rfl) rfl ?_
    refine sq (rd_slice_lon (i := i) S80 rfl rfl (by omega)) rfl ?_
    refine sq (rd_move rfl) rfl ?_
    refine se (ef_copy (o := i * 2) (j := 1) (ys := (((flat pc ps).take (i * 2) ++ (zrep (n + 1 - i) [.int .i64 0, .slice none 0 0])).take (i * 2) ++ pc p ++ ((flat pc ps).take (i * 2) ++ (zrep (n + 1 - i) [.int .i64 0, .slice none 0 0])).drop (i * 2 + 1 * 2))) S80 rfl rfl rfl (subA_plain (show plainA (some ⟨bN, 0, none⟩) from rfl) (by omega)) rfl (show min _ _ = _ from by omega) (by omega) (by decide) (fun w hS => by have h9 := src_row (sz := 2) (A := some ⟨bv, 0, none⟩) (by repeat constructor) (Nat.le_refl 1) w hS; exact h9) (by first | exact pc_cells _ | exact cells_take (cells_drop (flat_cells pc_cells _)) | exact cells_drop2 (flat_cells pc_cells _) (by rw [flat_len pc_len]; omega)) (by omega) rfl rfl) rfl ?_
    refine s_end ?_
    refine f_then ?_
    refine c_seq ?_
    refine c_regd [.row 84 _ A _ cap _, .row 84 _ (some ⟨bv, 0, none⟩) 1 1 _] (.q 0 (.q 1 (.q 2 (.q 3 (.q 4 (.q 5 (.q 6 (.q 7 (.alt 8 .done .stop))))))))) (by kernel_rfl) (by kernel_rfl) (by kernel_rfl) (by kernel_rfl) (fun _ h => h.sb) ?_
    refine dq rfl (rd_move rfl) rfl ?_
    refine dq rfl (rd_move rfl) rfl ?_
    refine dq rfl (rd_move rfl) rfl ?_
    refine dq rfl (rd_addn (i) 1 rfl rfl rfl rfl (by omega)) rfl ?_
    refine dq rfl (rd_slice_lon (i := i + 1) S80 rfl rfl (by omega)) rfl ?_
    refine dq rfl (rd_move rfl) rfl ?_
    refine dq rfl (rd_move rfl) rfl ?_
    refine dq rfl (rd_slice_lon (i := i) S80 rfl rfl (by omega)) rfl ?_
    refine de rfl rfl (ef_copy (o := (i + 1) * 2) (j := n - i) (ys := ((((flat pc ps).take (i * 2) ++ (zrep (n + 1 - i) [.int .i64 0, .slice none 0 0])).take (i * 2) ++ pc p ++ ((flat pc ps).take (i * 2) ++ (zrep (n + 1 - i) [.int .i64 0, .slice none 0 0])).drop (i * 2 + 1 * 2)).take ((i + 1) * 2) ++ ((flat pc ps).drop (i * 2)).take ((n - i) * 2) ++ (((flat pc ps).take (i * 2) ++ (zrep (n + 1 - i) [.int .i64 0, .slice none 0 0])).take (i * 2) ++ pc p ++ ((flat pc ps).take (i * 2) ++ (zrep (n + 1 - i) [.int .i64 0, .slice none 0 0])).drop (i * 2 + 1 * 2)).drop ((i + 1) * 2 + (n - i) * 2))) S80 rfl rfl rfl (subA_plain (show plainA (some ⟨bN, 0, none⟩) from rfl) (by omega)) rfl (show min _ _ = _ from by omega) (by omega) (by decide) (fun w hS => by have h9 := src_rowsub (A := A) (sz := 2) (m := n) (i := i) (j := n - i) (by repeat constructor) (by omega) w hS; rw [← subA_plain (cap := cap) hp (by omega)] at h9; exact h9) (by first | exact pc_cells _ | exact cells_take (cells_drop (flat_cells pc_cells _)) | exact cells_drop2 (flat_cells pc_cells _) (by rw [flat_len pc_len]; omega)) (by omega) rfl rfl) (fun _ h => h.sb) ?_ d_stop
    refine d_end ?_
    refine f_then ?_
    refine c_seq ?_
    refine c_reg ?_
    refine sq (rd_move rfl) rfl ?_
    refine sq (rd_assign rfl) rfl ?_
    refine s_end ?_
    refine f_then ?_
    refine c_ret ?_
    refine f_then_r ?_
    refine f_ret rfl (.tmp rfl .nil) ?_
    refine fun w' hS => ⟨_, rfl, (some ⟨bN, 0, none⟩, cN), by rw [resVal_one, show i + (n + 1 - i) = n + 1 from by omega], trivial, ?_⟩
    rw [insP_flat, ← ins_new (C0 := ((flat pc ps).take (i * 2) ++ (zrep (n + 1 - i) [.int .i64 0, .slice none 0 0]))) (C1 := (((flat pc ps).take (i * 2) ++ (zrep (n + 1 - i) [.int .i64 0, .slice none 0 0])).take (i * 2) ++ pc p ++ ((flat pc ps).take (i * 2) ++ (zrep (n + 1 - i) [.int .i64 0, .slice none 0 0])).drop (i * 2 + 1 * 2))) hk0.1 (by simp [zrep]) (pc_len p) (show i < n by omega) rfl rfl]
    rw [show i + (n + 1 - i) = n + 1 from by omega] at hS
    exact St.sub (E' := [_]) hS (by repeat (first | exact .refl _ | apply List.Sublist.cons_cons | apply List.Sublist.cons))
   ·refine c_skip ?_
    refine f_then ?_
    refine c_seq ?_
    refine c_ex (α := {y : List Value // y.length = 1 * 2}) (E1 := fun y => [.row 84 2 A (n + 1) cap ((flat pc ps) ++ y.1), .row 84 2 (some ⟨bv, 0, none⟩) 1 1 (pc p)]) (fun w h => by obtain ⟨y, hy, h9⟩ := St.rowMore h 1 (by omega); exact ⟨⟨y, hy⟩, h9⟩) (fun y => ?_)
    refine c_reg ?_
    refine sq (rd_move rfl) rfl ?_
    refine sq (rd_move rfl) rfl ?_
    refine sq (rd_move rfl) rfl ?_
    refine sq (rd_addn (n) 1 rfl rfl rfl rfl (by omega)) rfl ?_
    refine sq (rd_slice_hin (i := n + 1) S80 rfl rfl (by omega)) rfl ?_
    refine sq (rd_assign rfl) rfl ?_
    refine s_end ?_
    refine f_then ?_
    refine c_seq ?_
    refine c_seq ?_
    refine c_reg ?_
    refine sq (rd_move rfl) rfl ?_
    refine sq (rd_move rfl) rfl ?_
    refine sq (rd_move rfl) rfl ?_
    refine sq (rd_move rfl) rfl ?_
    refine sq (rd_addn (i) 1 rfl rfl rfl rfl (by omega)) rfl ?_
    refine sq (rd_slice_lon (i := i + 1) S80 rfl rfl (by omega)) rfl ?_
    refine sq (rd_extS rfl rfl (fun w hS => ext_overlaps (by rw [subA_plain hp (by omega)]; exact overlaps_rows (sz := 2) (e := 84) (A := some ⟨bv, 0, none⟩) (m := 1) (cap := 1) (A2 := A) (m2 := n + 1) (cap2 := cap) S80.1 (size_run S80.2) hS (by repeat constructor) (by repeat constructor) (by have h9 := List.pairwise_cons.1 hS.pair; exact (h9.1 _ (List.mem_cons_self ..)).symm) (by decide) (by omega) (by decide)))) rfl ?_
    refine sq ((by first | exact rd_notd rfl | exact rd_not rfl)) rfl ?_
    refine s_end ?_
    refine f_then ?_
    refine c_lit_t rfl ?_
    refine c_seq ?_
    refine c_regd [.row 84 _ (some ⟨bv, 0, none⟩) 1 1 _] (.q 0 (.q 1 (.q 2 (.q 3 (.q 4 (.q 5 (.q 6 (.q 7 (.alt 8 .done .stop))))))))) (by kernel_rfl) (by kernel_rfl) (by kernel_rfl) (by kernel_rfl) (fun _ h => h.sb) ?_
    refine dq rfl (rd_move rfl) rfl ?_
    refine dq rfl (rd_move rfl) rfl ?_
    refine dq rfl (rd_move rfl) rfl ?_
    refine dq rfl (rd_addn (i) 1 rfl rfl rfl rfl (by omega)) rfl ?_
    refine dq rfl (rd_slice_lon (i := i + 1) S80 rfl rfl (by omega)) rfl ?_
    refine dq rfl (rd_move rfl) rfl ?_
    refine dq rfl (rd_move rfl) rfl ?_
    refine dq rfl (rd_slice_lon (i := i) S80 rfl rfl (by omega)) rfl ?_
    refine de rfl rfl (ef_copy (o := (i + 1) * 2) (j := n - i) (ys := (((flat pc ps) ++ y.1).take ((i + 1) * 2) ++ (((flat pc ps) ++ y.1).drop (i * 2)).take ((n - i) * 2) ++ ((flat pc ps) ++ y.1).drop ((i + 1) * 2 + (n - i) * 2))) S80 rfl rfl rfl (subA_plain hp (by omega)) rfl (show min _ _ = _ from by omega) (by omega) (by decide) (fun w hS => by have h9 := src_rowsub (A := A) (sz := 2) (m := n + 1) (i := i) (j := n - i) (by repeat constructor) (by omega) w hS; rw [← subA_plain (cap := cap) hp (by omega)] at h9; exact h9) (by first | exact pc_cells _ | exact cells_take (cells_drop (flat_cells pc_cells _)) | exact cells_drop2 (flat_cells pc_cells _) (by rw [flat_len pc_len]; omega)) (by omega) rfl rfl) (fun _ h => h.sb) ?_ d_stop
    refine d_end ?_
    refine f_then ?_
    refine c_seq ?_
    refine c_reg ?_
    refine sq (rd_move rfl) rfl ?_
    refine sq (rd_move rfl) rfl ?_
    refine sq (rd_slice_lon (i := i) S80 rfl rfl (by omega)) rfl ?_
    refine sq (rd_move rfl) rfl ?_
    refine se (ef_copy (o := i * 2) (j := 1) (ys := ((((flat pc ps) ++ y.1).take ((i + 1) * 2) ++ (((flat pc ps) ++ y.1).drop (i * 2)).take ((n - i) * 2) ++ ((flat pc ps) ++ y.1).drop ((i + 1) * 2 + (n - i) * 2)).take (i * 2) ++ pc p ++ (((flat pc ps) ++ y.1).take ((i + 1) * 2) ++ (((flat pc ps) ++ y.1).drop (i * 2)).take ((n - i) * 2) ++ ((flat pc ps) ++ y.1).drop ((i + 1) * 2 + (n - i) * 2)).drop (i * 2 + 1 * 2))) S80 rfl rfl rfl (subA_plain hp (by omega)) rfl (show min _ _ = _ from by omega) (by omega) (by decide) (fun w hS => by have h9 := src_row (sz := 2) (A := some ⟨bv, 0, none⟩) (by repeat constructor) (Nat.le_refl 1) w hS; exact h9) (by first | exact pc_cells _ | exact cells_take (cells_drop (flat_cells pc_cells _)) | exact cells_drop2 (flat_cells pc_cells _) (by rw [flat_len pc_len]; omega)) (by omega) rfl rfl) rfl ?_
    refine s_end ?_
    refine f_then ?_
    refine c_seq ?_
    refine c_reg ?_
    refine sq (rd_move rfl) rfl ?_
    refine sq (rd_assign rfl) rfl ?_
    refine s_end ?_
    refine f_then ?_
    refine c_ret ?_
    refine f_then_r ?_
    refine f_ret rfl (.tmp rfl .nil) ?_
    refine fun w' hS => ⟨_, rfl, (A, cap), rfl, trivial, ?_⟩
    rw [insP_flat, ← ins_old (C0 := ((flat pc ps) ++ y.1)) (C1 := (((flat pc ps) ++ y.1).take ((i + 1) * 2) ++ (((flat pc ps) ++ y.1).drop (i * 2)).take ((n - i) * 2) ++ ((flat pc ps) ++ y.1).drop ((i + 1) * 2 + (n - i) * 2))) hk0.1 y.2 (pc_len p) (show i < n by omega) rfl rfl]
    exact St.sub (E' := [_]) hS (by repeat (first | exact .refl _ | apply List.Sublist.cons_cons | apply List.Sublist.cons))

end Go.Proofs.YtfccnoccfhgcbaaGreatDoor
namespace Go.Proofs.YtfccnoccfhgcbaaGreatDoor
open Go Go.RowKit

/-- Where reading stands: the place, what is wrong, is some field said to differ, the fields. -/
structure CS where
 a : Nat
 e : Int
 so : Bool
 fs : List Int
def chgStep (B : List Bool) (fl : Int) (i : Nat) (s : CS) : CS :=
 if moreV B s.a s.e = false then ⟨toB B s.a 1, failF (okB B s.a 1) 2 s.e, s.so, s.fs⟩
 else if (i : Int) = fl then ⟨toB B s.a 1, failF (okB B s.a 1) 2 s.e, true, s.fs.set i (IntKind.i64.wrap (1 - s.fs.getD i 0))⟩
 else ⟨toB B (toB B s.a 1) 32, failF (decide (sgn 32 (getB B (toB B s.a 1) 32) ≠ s.fs.getD i 0)) 3 (failF (okB B (toB B s.a 1) 32) 2 (failF (okB B s.a 1) 2 s.e)), true, s.fs.set i (sgn 32 (getB B (toB B s.a 1) 32))⟩
def chgF (B : List Bool) (fl : Int) (k : Nat) (s : CS) : CS := (List.range k).foldl (fun s i => chgStep B fl i s) s
theorem chgF_succ (B : List Bool) (fl : Int) (k : Nat) (s : CS) : chgF B fl (k + 1) s = chgStep B fl k (chgF B fl k s) := by
 unfold chgF
 rw [List.range_succ, List.foldl_append]
 rfl
theorem toB_ge {B : List Bool} {a k : Nat} (h : a ≤ B.length) : a ≤ toB B a k := by
 unfold toB
 split <;> omega
theorem chgStep_ok {B : List Bool} {fl : Int} {i : Nat} {s : CS} (h : s.a ≤ B.length) : (chgStep B fl i s).a ≤ B.length ∧ s.a ≤ (chgStep B fl i s).a ∧ (chgStep B fl i s).fs.length = s.fs.length := by
 have h1 := toB_ge (k := 1) h
 have h2 := toB_le B s.a 1
 have h3 := toB_ge (k := 32) h2
 have h4 := toB_le B (toB B s.a 1) 32
 unfold chgStep
 split
 ·exact ⟨h2, h1, rfl⟩
 ·split
  ·exact ⟨h2, h1, by simp⟩
  ·exact ⟨h4, Nat.le_trans h1 h3, by simp⟩
theorem chgF_ok {B : List Bool} {fl : Int} {s : CS} (h : s.a ≤ B.length) : ∀ k, (chgF B fl k s).a ≤ B.length ∧ s.a ≤ (chgF B fl k s).a ∧ (chgF B fl k s).fs.length = s.fs.length := by
 intro k
 induction k with
 | zero => exact ⟨h, Nat.le_refl _, rfl⟩
 | succ k ih =>
  rw [chgF_succ]
  have := chgStep_ok (fl := fl) (i := k) ih.1
  exact ⟨this.1, Nat.le_trans ih.2.1 this.2.1, by rw [this.2.2, ih.2.2]⟩
/-- Rows with one more, or another, by their IDs. -/
def lbR (rs : List RW) (id : Int) : Nat := rs.findIdx fun r => !decide (r.1 < id)
def thereR (rs : List RW) (id : Int) : Bool := match rs[lbR rs id]? with
 | some r => decide (r.1 = id)
 | none => false
def putR (rs : List RW) (r : RW) : List RW := if thereR rs r.1 = true then rs.set (lbR rs r.1) r else rs.take (lbR rs r.1) ++ [r] ++ rs.drop (lbR rs r.1)
theorem lbP_snd (ps : List PRw) (id : Int) : lbP ps id = lbR (ps.map (·.2)) id := by
 unfold lbP lbR
 rw [List.findIdx_map]
 rfl
theorem thereP_snd (ps : List PRw) (id : Int) : thereP ps id = thereR (ps.map (·.2)) id := by
 unfold thereP thereR
 rw [lbP_snd, List.getElem?_map]
 cases ps[lbR (ps.map (·.2)) id]? <;> rfl
theorem putP_snd (ps : List PRw) (p : PRw) : (putP ps p).map (·.2) = putR (ps.map (·.2)) p.2 := by
 unfold putP putR
 rw [thereP_snd, lbP_snd]
 split
 ·rw [List.map_set]
 ·simp
/-- What stands ahead of an entry's fields: its ID, where it goes on, what is wrong. -/
def idOf (B : List Bool) (a : Nat) : Int := ((getB B (toB B a 1) 31 : Nat) : Int)
def aft (B : List Bool) (a : Nat) : Nat := toB B (toB B a 1) 31
def err3 (B : List Bool) (a : Nat) (e last : Int) : Int := failF (decide (last < idOf B a)) 3 (failF (okB B (toB B a 1) 31) 2 (failF (okB B a 1) 2 e))
def chgOf (B : List Bool) (nf : Nat) (fl : Int) (rb : List RW) (a : Nat) (e last : Int) : CS := chgF B fl nf ⟨toB B (aft B a) 1, failF (okB B (aft B a) 1) 2 (err3 B a e last), false, fndR nf rb (idOf B a)⟩
/-- Entries are read, one by one. -/
inductive ReadR (B : List Bool) (nf : Nat) (fl : Int) (rb : List RW) : Nat → Int → Int → List RW → Nat → Int → List RW → Prop
 | stop {a : Nat} {e last : Int} {rs : List RW} : moreV B a e = false → ReadR B nf fl rb a e last rs (toB B a 1) (failF (okB B a 1) 2 e) rs
 | gone {a : Nat} {e last : Int} {rs : List RW} {a' : Nat} {e' : Int} {rs' : List RW} : moreV B a e = true → moreV B (aft B a) (err3 B a e last) = true →
   ReadR B nf fl rb (toB B (aft B a) 1) (failF (hasR rb (idOf B a)) 3 (failF (okB B (aft B a) 1) 2 (err3 B a e last))) (idOf B a) (rs.filter fun r => !decide (r.1 = idOf B a)) a' e' rs' → ReadR B nf fl rb a e last rs a' e' rs'
 | made {a : Nat} {e last : Int} {rs : List RW} {a' : Nat} {e' : Int} {rs' : List RW} : moreV B a e = true → moreV B (aft B a) (err3 B a e last) = false →
   ReadR B nf fl rb (chgOf B nf fl rb a e last).a (failF ((chgOf B nf fl rb a e last).so || !hasR rb (idOf B a)) 3 (chgOf B nf fl rb a e last).e) (idOf B a) (putR rs (idOf B a, (chgOf B nf fl rb a e last).fs)) a' e' rs' → ReadR B nf fl rb a e last rs a' e' rs'
theorem more_lt {B : List Bool} {a : Nat} {e : Int} (h : moreV B a e = true) : a + 1 ≤ B.length ∧ toB B a 1 = a + 1 ∧ e = 0 := by
 unfold moreV at h
 simp only [Bool.and_eq_true, decide_eq_true_eq] at h
 have h1 : a + 1 ≤ B.length := by
  have := h.1
  unfold getB at this
  split at this
  ·assumption
  ·omega
 refine ⟨h1, by unfold toB; rw [if_pos h1], ?_⟩
 have h2 := h.2
 unfold failF okB at h2
 rw [decide_eq_true h1] at h2
 simpa using h2
theorem put_rising {ps : List PRw} {p : PRw} (h : ps.Pairwise fun p q => p.2.1 < q.2.1) : (putP ps p).Pairwise fun p q => p.2.1 < q.2.1 := by
 have hlb := lbP_le ps p.2.1
 have h1 : ∀ (j : Nat) (q : PRw), j < lbP ps p.2.1 → ps[j]? = some q → q.2.1 < p.2.1 := fun j q hj hq => by
  have h9 : j < ps.findIdx (fun q => !decide (q.2.1 < p.2.1)) := hj
  have := List.not_of_lt_findIdx h9
  obtain ⟨h8, h7⟩ := List.getElem?_eq_some_iff.1 hq
  rw [h7] at this
  simpa using this
 have h2 : ∀ q, ps[lbP ps p.2.1]? = some q → ¬ q.2.1 < p.2.1 := fun q hq => by
  obtain ⟨h8, h7⟩ := List.getElem?_eq_some_iff.1 hq
  have := List.findIdx_getElem (p := fun q : PRw => !decide (q.2.1 < p.2.1)) (w := h8)
  have e : ps[ps.findIdx (fun q : PRw => !decide (q.2.1 < p.2.1))] = q := h7
  rw [e] at this
  simpa using this
 have h3 : ∀ (j : Nat) (q : PRw), lbP ps p.2.1 < j → ps[j]? = some q → p.2.1 < q.2.1 := fun j q hj hq => by
  have hjl := (List.getElem?_eq_some_iff.1 hq).1
  have h9 := h2 (ps[lbP ps p.2.1]'(by omega)) (by simp)
  have h8 := rising h hj (p := ps[lbP ps p.2.1]'(by omega)) (by simp) hq
  omega
 unfold putP
 by_cases ht : thereP ps p.2.1 = true
 ·rw [if_pos ht]
  unfold thereP at ht
  cases hq : ps[lbP ps p.2.1]? with
  | none => rw [hq] at ht; cases ht
  | some q =>
   have hql := (List.getElem?_eq_some_iff.1 hq).1
   rw [List.pairwise_iff_getElem]
   intro i j hi hj hij
   simp only [List.length_set] at hi hj
   rw [List.getElem_set, List.getElem_set]
   by_cases c1 : lbP ps p.2.1 = i
   ·rw [if_pos c1, if_neg (by omega)]
    exact h3 j _ (by omega) (by simp)
   ·rw [if_neg c1]
    by_cases c2 : lbP ps p.2.1 = j
    ·rw [if_pos c2]
     exact h1 i _ (by omega) (by simp)
    ·rw [if_neg c2]
     exact rising h hij (by simp) (by simp)
 ·rw [if_neg ht, List.append_assoc, List.pairwise_append]
  refine ⟨h.sublist (List.take_sublist _ _), ?_, fun a ha b hb => ?_⟩
  ·simp only [List.cons_append, List.nil_append, List.pairwise_cons]
   refine ⟨fun b hb => ?_, h.sublist (List.drop_sublist _ _)⟩
   obtain ⟨k, hk⟩ := List.getElem?_of_mem hb
   rw [List.getElem?_drop] at hk
   rcases Nat.eq_zero_or_pos k with hk0 | hk0
   ·subst hk0
    have h9 := h2 b hk
    have h8 : b.2.1 ≠ p.2.1 := fun he => ht (by unfold thereP; rw [show lbP ps p.2.1 = lbP ps p.2.1 + 0 from rfl, hk]; exact decide_eq_true he)
    omega
   ·exact h3 _ b (by omega) hk
  ·obtain ⟨k, hk⟩ := List.getElem?_of_mem ha
   rw [List.getElem?_take] at hk
   split at hk
   ·rename_i hkl
    have hlt := h1 k a hkl hk
    simp only [List.cons_append, List.nil_append, List.mem_cons] at hb
    rcases hb with rfl | hb
    ·exact hlt
    ·obtain ⟨t, hT⟩ := List.getElem?_of_mem hb
     rw [List.getElem?_drop] at hT
     exact rising h (show k < lbP ps p.2.1 + t by omega) hk hT
   ·cases hk
theorem putP_len (ps : List PRw) (p : PRw) : (putP ps p).length ≤ ps.length + 1 := by
 have := lbP_le ps p.2.1
 unfold putP
 split <;> simp <;> omega
end Go.Proofs.YtfccnoccfhgcbaaGreatDoor
namespace Go.Proofs.YtfccnoccfhgcbaaGreatDoor
open Go Go.RowKit
theorem K96 : callTy Tryz.prog 96 := by unfold callTy; kernel_rfl
theorem Sz2 : (Tryz.prog.info? 2).map (·.size) = some 1 := by kernel_rfl
theorem K143 : callTy Tryz.prog 143 := by unfold callTy; kernel_rfl
theorem c101 (w : World) (bv br : Nat) (A : Option Addr) (n cap : Nat) (bytes : List Nat) (a : Nat) (e nf fl most : Int) (Fa : Option Addr) (fc : Nat) (fs : List Int) (hfs : fs.length ≤ 1000) (ha : a ≤ n * 8) (hl : bytes.length = n) (h256 : ∀ x ∈ bytes, x < 256) (hn : n ≤ 100000) (hS : St w (fpOf [.blk bv [.pointer (some ⟨br, 0, none⟩), .int .i64 e] 103, .blk br [.slice A n cap, .int .i64 ((a : Nat) : Int)] 153, .row 5 1 A n cap (u8s bytes), .row 2 1 Fa fs.length fc (ints fs)]) [.blk bv [.pointer (some ⟨br, 0, none⟩), .int .i64 e] 103, .blk br [.slice A n cap, .int .i64 ((a : Nat) : Int)] 153, .row 5 1 A n cap (u8s bytes), .row 2 1 Fa fs.length fc (ints fs)] w) : Calls Tryz.prog 101 [.agg #[.int .i64 nf, .int .i64 fl, .int .i64 most], .pointer (some ⟨bv, 0, none⟩), .slice Fa fs.length fc].toArray w (RtE fun v w' => ∃ x : Unit, v = (fun _ => .bool (chgF (unp bytes) fl fs.length ⟨a, e, false, fs⟩).so) x ∧ (fun _ => True) x ∧ St w (fpOf [.blk bv [.pointer (some ⟨br, 0, none⟩), .int .i64 e] 103, .blk br [.slice A n cap, .int .i64 ((a : Nat) : Int)] 153, .row 5 1 A n cap (u8s bytes), .row 2 1 Fa fs.length fc (ints fs)]) ((fun _ => [.blk bv [.pointer (some ⟨br, 0, none⟩), .int .i64 (chgF (unp bytes) fl fs.length ⟨a, e, false, fs⟩).e] 103, .blk br [.slice A n cap, .int .i64 (((chgF (unp bytes) fl fs.length ⟨a, e, false, fs⟩).a : Nat) : Int)] 153, .row 5 1 A n cap (u8s bytes), .row 2 1 Fa fs.length fc (ints (chgF (unp bytes) fl fs.length ⟨a, e, false, fs⟩).fs)]) x) w') := by
 refine enter Tryz.func101 rfl Tryz.ntmps101 rfl hS ?_
 refine c_seq ?_
 refine c_reg ?_
 refine sx (ef_box rfl rfl rfl) rfl ?_
 rintro b3 hb3
 refine sq (rd_assign rfl) rfl ?_
 refine s_end ?_
 refine f_then ?_
 refine c_seq ?_
 refine c_seq ?_
 have hu : (unp bytes).length = n * 8 := by rw [unp_len, hl]
 refine c_reg ?_
 refine sq (rd_move rfl) rfl ?_
 refine sq (rd_len S82 rfl rfl) rfl ?_
 refine sq (rd_move rfl) rfl ?_
 refine s_end ?_
 refine f_then ?_
 refine c_block ?_
 refine c_keep (L' := [(1, _), (2, _), (3, _), (6, _), (11, _), (12, _)]) (by repeat constructor) ?_
 refine c_front (.row 2 _ Fa _ fc _) (by repeat constructor) ?_
 refine c_front (.row 5 _ A n cap _) (by repeat constructor) ?_
 refine c_front (.blk br _ _) (by repeat constructor) ?_
 refine c_front (.blk bv _ _) (by repeat constructor) ?_
 refine c_for (α := Nat) (fun i => i ≤ fs.length ∧ (chgF (unp bytes) fl i ⟨a, e, false, fs⟩).a ≤ n * 8 ∧ (chgF (unp bytes) fl i ⟨a, e, false, fs⟩).fs.length = fs.length) (fun i => [.blk bv [.pointer (some ⟨br, 0, none⟩), .int .i64 (chgF (unp bytes) fl i ⟨a, e, false, fs⟩).e] 103, .blk br [.slice A n cap, .int .i64 (((chgF (unp bytes) fl i ⟨a, e, false, fs⟩).a : Nat) : Int)] 153, .row 5 1 A n cap (u8s bytes), .row 2 1 Fa fs.length fc (ints (chgF (unp bytes) fl i ⟨a, e, false, fs⟩).fs)]) [.blk b3 _ _] (fun i => [(12, .int .i64 (i : Int)), (6, .bool (chgF (unp bytes) fl i ⟨a, e, false, fs⟩).so)]) [(1, _), (2, _), (3, _), (11, _)] (fun i => fs.length - i) (0) (⟨Nat.zero_le _, ha, rfl⟩) (by repeat constructor) (fun _ h => h) ?_
 rintro i ⟨hi, hsa, hsl⟩
 refine c_seq ?_
 obtain ⟨s, hs⟩ : ∃ s, s = (chgF (unp bytes) fl i ⟨a, e, false, fs⟩) := ⟨_, rfl⟩
 rw [← hs] at hsa hsl
 refine c_ents (fun _ h => by (try dsimp only at h); rw [← hs] at h; exact h) ?_
 refine c_keep (L' := [(12, _), (6, .bool s.so), (1, _), (2, _), (3, _), (11, _)]) (.cons rfl (.cons (by rw [hs]; rfl) (by repeat constructor))) ?_
 refine c_reg ?_
 refine sq (rd_lss rfl rfl) rfl ?_
 refine s_end ?_
 refine f_then ?_
 refine c_seq ?_
 refine c_if rfl (fun h13 => ?_) (fun h13 => ?_)
 ·have hin : i < fs.length := by omega
  obtain ⟨v, hv⟩ : ∃ v, s.fs[i]? = some v := ⟨s.fs[i]'(by omega), by simp⟩
  have hgv : s.fs.getD i 0 = v := by simp [hv]
  refine c_know (fun _ h => row_know (e := 2) (sz := 1) (A := Fa) (m := fs.length) (cap := fc) (by repeat constructor) _ h) (fun hkf => ?_)
  have hpf := fun h => (hkf.2.2.2 h).1
  refine c_skip ?_
  refine f_then ?_
  refine c_seq ?_
  refine c_block ?_
  refine c_seq ?_
  refine c_reg ?_
  refine sq (rd_move rfl) rfl ?_
  refine sq (rd_assign rfl) rfl ?_
  refine s_end ?_
  refine f_then ?_
  refine c_seq ?_
  refine c_seq ?_
  refine c_reg ?_
  refine sq (rd_move rfl) rfl ?_
  refine sx (ef_call rfl rfl K96 (fun _ e => by cases e; rfl) [.blk bv _ _, .blk br _ _, .row 5 _ A n cap _] _ (.refl _) _ _ _ (fun w hS => by exact c96 w bv br A n cap bytes s.a s.e hsa hl h256 (by omega) hS.own)) rfl ?_
  rintro _ _
  refine sq ((by first | exact rd_notd rfl | exact rd_not rfl)) rfl ?_
  refine s_end ?_
  refine f_then ?_
  refine c_cond rfl (fun h17 => ?_) (fun h17 => ?_)
  ·refine c_exit ?_
   refine f_then_x ?_
   refine f_blk_x ?_
   refine f_then ?_
   refine c_reg ?_
   refine sq (rd_add rfl rfl (by first | exact wrap_i64 (by omega) | exact rfl)) rfl ?_
   refine sq (rd_move rfl) rfl ?_
   refine s_end ?_
   have e9 : (chgF (unp bytes) fl (i + 1) ⟨a, e, false, fs⟩) = ⟨(toB (unp bytes) s.a 1), (failF (okB (unp bytes) s.a 1) 2 s.e), s.so, s.fs⟩ := by
    rw [chgF_succ, ← hs]
    unfold chgStep
    rw [if_pos (by simpa using h17)]
   have h9 := chgF_ok (fl := fl) (s := ⟨a, e, false, fs⟩) (B := (unp bytes)) (show a ≤ _ from by omega) (i + 1)
   refine f_again (i + 1) (⟨by omega, by rw [← hu]; exact h9.1, h9.2.2⟩) (by omega) (.cons rfl (.cons (by rw [e9]; rfl) (by repeat constructor))) (fun _ h => by (try dsimp only); rw [e9]; exact h.sb)
  ·refine c_skip ?_
   refine f_then ?_
   refine c_seq ?_
   refine c_reg ?_
   refine sq (rd_assign rfl) rfl ?_
   refine s_end ?_
   refine f_then ?_
   refine c_seq ?_
   refine c_seq ?_
   refine c_reg ?_
   refine sq (rd_move rfl) rfl ?_
   refine sq (rd_field F78_1 rfl) rfl ?_
   refine sq (rd_ldb C3 rfl (by repeat constructor) rfl) rfl ?_
   refine sq (rd_eql rfl rfl) rfl ?_
   refine s_end ?_
   refine f_then ?_
   refine c_if rfl (fun h21 => ?_) (fun h21 => ?_)
   ·refine c_seq ?_
    refine c_reg ?_
    refine sq (rd_move rfl) rfl ?_
    refine sq (rd_move rfl) rfl ?_
    refine sq (rd_move rfl) rfl ?_
    refine sq (rd_move rfl) rfl ?_
    refine sq (rd_index S82 rfl rfl hpf (by omega) (by omega)) rfl ?_
    refine sq (rd_ldr C2 (by repeat constructor) rfl (by simp only [Int.toNat_natCast, Nat.mul_one]; exact ints_get hv)) rfl ?_
    refine sq (rd_sub rfl rfl rfl) rfl ?_
    refine sq (rd_index S82 rfl rfl hpf (by omega) (by omega)) rfl ?_
    refine s_front (.row 2 _ Fa _ fc _) (by repeat constructor) ?_
    refine se (ef_storer (ys := ints (s.fs.set i (IntKind.i64.wrap (1 - v)))) Sz2 rfl rfl rfl rfl rfl (by simp only [Int.toNat_natCast]; omega) (by decide) rfl (by simp only [Int.toNat_natCast, Nat.mul_one]; exact ints_set (by omega))) rfl ?_
    refine s_end ?_
    refine f_then ?_
    refine c_exit ?_
    refine f_then_x ?_
    refine f_blk_x ?_
    refine f_then ?_
    refine c_reg ?_
    refine sq (rd_add rfl rfl (by first | exact wrap_i64 (by omega) | exact rfl)) rfl ?_
    refine sq (rd_move rfl) rfl ?_
    refine s_end ?_
    have e9 : (chgF (unp bytes) fl (i + 1) ⟨a, e, false, fs⟩) = ⟨(toB (unp bytes) s.a 1), (failF (okB (unp bytes) s.a 1) 2 s.e), true, s.fs.set i (IntKind.i64.wrap (1 - v))⟩ := by
     rw [chgF_succ, ← hs]
     unfold chgStep
     rw [if_neg (by simpa using h17), if_pos (by simpa using h21), hgv]
    have h9 := chgF_ok (fl := fl) (s := ⟨a, e, false, fs⟩) (B := (unp bytes)) (show a ≤ _ from by omega) (i + 1)
    refine f_front (.blk b3 _ _) (by repeat constructor) ?_
    refine f_front (.row 2 _ Fa _ fc _) (by repeat constructor) ?_
    refine f_front (.row 5 _ A n cap _) (by repeat constructor) ?_
    refine f_front (.blk br _ _) (by repeat constructor) ?_
    refine f_front (.blk bv _ _) (by repeat constructor) ?_
    refine f_again (i + 1) (⟨by omega, by rw [← hu]; exact h9.1, h9.2.2⟩) (by omega) (.cons rfl (.cons (by rw [e9]; rfl) (by repeat constructor))) (fun _ h => by (try dsimp only); rw [e9]; exact h.sb)
   ·refine c_skip ?_
    refine f_then ?_
    refine c_seq ?_
    refine c_reg ?_
    refine sq (rd_move rfl) rfl ?_
    refine sq (rd_nil rfl) rfl ?_
    refine sq (rd_field F103_0 rfl) rfl ?_
    refine sq (rd_ldb C100 rfl (by repeat constructor) rfl) rfl ?_
    refine s_front (.row 5 _ A n cap _) (by repeat constructor) ?_
    refine s_front (.blk br _ _) (by repeat constructor) ?_
    refine sx (ef_call rfl rfl K143 (fun _ e => by cases e; rfl) [.blk br _ _, .row 5 _ A n cap _] _ (.refl _) _ _ _ (fun w hS => by exact c143 w br A n cap bytes (toB (unp bytes) s.a 1) 32 (by decide) (by decide) (by have := toB_le (unp bytes) s.a 1; omega) hl h256 (by omega) hS.own)) rfl ?_
    rintro _ _
    refine sq (rd_move rfl) rfl ?_
    refine sq (rd_extract rfl rfl) rfl ?_
    refine sq (rd_extract rfl rfl) rfl ?_
    refine sq (rd_assign rfl) rfl ?_
    refine sq (rd_assign rfl) rfl ?_
    refine s_end ?_
    refine f_then ?_
    refine c_seq ?_
    refine c_reg ?_
    refine sq (rd_move rfl) rfl ?_
    refine sq (rd_move rfl) rfl ?_
    refine s_front (.blk bv _ _) (by repeat constructor) ?_
    refine sx (ef_call rfl rfl K59 (fun _ e => by cases e; rfl) [.blk bv _ _] _ (.refl _) _ _ _ (fun w hS => by exact c59 w bv br (okB (unp bytes) (toB (unp bytes) s.a 1) 32) 2 (failF (okB (unp bytes) s.a 1) 2 s.e) hS.own)) rfl ?_
    rintro _ _
    refine s_end ?_
    refine f_then ?_
    refine c_seq ?_
    refine c_reg ?_
    refine sq (rd_move rfl) rfl ?_
    refine sq (rd_move rfl) rfl ?_
    refine sq (rd_move rfl) rfl ?_
    refine sq (rd_move rfl) rfl ?_
    refine sq (rd_index S82 rfl rfl hpf (by omega) (by omega)) rfl ?_
    refine sq (rd_ldr C2 (by repeat constructor) rfl (by simp only [Int.toNat_natCast, Nat.mul_one]; exact ints_get hv)) rfl ?_
    refine sq (rd_neq rfl rfl) rfl ?_
    refine sx (ef_call rfl rfl K59 (fun _ e => by cases e; rfl) [.blk bv _ _] _ (.refl _) _ _ _ (fun w hS => by exact c59 w bv br (decide ((sgn 32 (getB (unp bytes) (toB (unp bytes) s.a 1) 32)) ≠ v)) 3 (failF (okB (unp bytes) (toB (unp bytes) s.a 1) 32) 2 (failF (okB (unp bytes) s.a 1) 2 s.e)) hS.own)) rfl ?_
    rintro _ _
    refine s_end ?_
    refine f_then ?_
    refine c_reg ?_
    refine sq (rd_move rfl) rfl ?_
    refine sq (rd_move rfl) rfl ?_
    refine sq (rd_move rfl) rfl ?_
    refine sq (rd_index S82 rfl rfl hpf (by omega) (by omega)) rfl ?_
    refine s_front (.row 2 _ Fa _ fc _) (by repeat constructor) ?_
    refine se (ef_storer (ys := ints (s.fs.set i (sgn 32 (getB (unp bytes) (toB (unp bytes) s.a 1) 32)))) Sz2 rfl rfl rfl rfl rfl (by simp only [Int.toNat_natCast]; omega) (by decide) rfl (by simp only [Int.toNat_natCast, Nat.mul_one]; exact ints_set (by omega))) rfl ?_
    refine s_end ?_
    refine f_blk ?_
    refine f_then ?_
    refine c_reg ?_
    refine sq (rd_add rfl rfl (by first | exact wrap_i64 (by omega) | exact rfl)) rfl ?_
    refine sq (rd_move rfl) rfl ?_
    refine s_end ?_
    have e9 : (chgF (unp bytes) fl (i + 1) ⟨a, e, false, fs⟩) = ⟨toB (unp bytes) (toB (unp bytes) s.a 1) 32, failF (decide ((sgn 32 (getB (unp bytes) (toB (unp bytes) s.a 1) 32)) ≠ v)) 3 (failF (okB (unp bytes) (toB (unp bytes) s.a 1) 32) 2 (failF (okB (unp bytes) s.a 1) 2 s.e)), true, s.fs.set i (sgn 32 (getB (unp bytes) (toB (unp bytes) s.a 1) 32))⟩ := by
     rw [chgF_succ, ← hs]
     unfold chgStep
     rw [if_neg (by simpa using h17), if_neg (by simpa using h21), hgv]
    have h9 := chgF_ok (fl := fl) (s := ⟨a, e, false, fs⟩) (B := (unp bytes)) (show a ≤ _ from by omega) (i + 1)
    refine f_front (.blk b3 _ _) (by repeat constructor) ?_
    refine f_front (.row 2 _ Fa _ fc _) (by repeat constructor) ?_
    refine f_front (.row 5 _ A n cap _) (by repeat constructor) ?_
    refine f_front (.blk br _ _) (by repeat constructor) ?_
    refine f_front (.blk bv _ _) (by repeat constructor) ?_
    refine f_again (i + 1) (⟨by omega, by rw [← hu]; exact h9.1, h9.2.2⟩) (by omega) (.cons rfl (.cons (by rw [e9]; rfl) (by repeat constructor))) (fun _ h => by (try dsimp only); rw [e9]; exact h.sb)
 ·have hin : i = fs.length := by omega
  refine c_exit ?_
  refine f_then_x ?_
  refine f_then_x ?_
  refine f_blk_x ?_
  refine f_then ?_
  refine c_seq ?_
  refine c_reg ?_
  refine sq (rd_move rfl) rfl ?_
  refine sq (rd_assign rfl) rfl ?_
  refine s_end ?_
  refine f_then ?_
  refine c_ret ?_
  refine f_ret rfl (.tmp rfl .nil) ?_
  have hil : i = fs.length := by omega
  have e9 : (chgF (unp bytes) fl fs.length ⟨a, e, false, fs⟩) = s := by rw [hs, hil]
  exact fun w' hS => ⟨_, rfl, (), by rw [e9]; rfl, trivial, by (try dsimp only); rw [e9]; exact St.sub (E' := [_, _, _, _]) hS (by repeat (first | exact .refl _ | apply List.Sublist.cons_cons | apply List.Sublist.cons))⟩

end Go.Proofs.YtfccnoccfhgcbaaGreatDoor
namespace Go.Proofs.YtfccnoccfhgcbaaGreatDoor
open Go Go.RowKit
theorem K98 : callTy Tryz.prog 98 := by unfold callTy; kernel_rfl
theorem K100 : callTy Tryz.prog 100 := by unfold callTy; kernel_rfl
theorem K101 : callTy Tryz.prog 101 := by unfold callTy; kernel_rfl
theorem K102 : callTy Tryz.prog 102 := by unfold callTy; kernel_rfl
theorem K104 : callTy Tryz.prog 104 := by unfold callTy; kernel_rfl
theorem ints_cells (l : List Int) : (ints l).all Value.oneCell' = true := by
 induction l with
 | nil => rfl
 | cons x l ih => simp only [ints, List.map_cons, List.all_cons] at *; rw [ih]; rfl
theorem there_lt {ps : List PRw} {id : Int} (h : thereP ps id = true) : lbP ps id < ps.length := by
 unfold thereP at h
 cases hq : ps[lbP ps id]? with
 | none => rw [hq] at h; cases h
 | some q => exact (List.getElem?_eq_some_iff.1 hq).1

theorem c55 (w : World) (bv br : Nat) (A : Option Addr) (n cap : Nat) (bytes : List Nat) (a0 : Nat) (e0 : Int) (nf : Nat) (fl most : Int) (D : Option Addr) (nb capb : Nat) (hdb : List (Option Addr × Nat)) (rb : List RW) (hb : RowsAt w (fpOf [.blk bv [.pointer (some ⟨br, 0, none⟩), .int .i64 e0] 103, .blk br [.slice A n cap, .int .i64 ((a0 : Nat) : Int)] 153, .row 5 1 A n cap (u8s bytes)]) D nb hdb rb) (hNb : ∀ r ∈ rb, r.2.length = nf) (hnf : nf ≤ 100) (hsb : rb.Pairwise fun r s => r.1 < s.1) (hnb : nb ≤ 1000) (ha0 : a0 ≤ n * 8) (hl : bytes.length = n) (h256 : ∀ x ∈ bytes, x < 256) (hn : n ≤ 100000) (hS : St w (fpOf [.blk bv [.pointer (some ⟨br, 0, none⟩), .int .i64 e0] 103, .blk br [.slice A n cap, .int .i64 ((a0 : Nat) : Int)] 153, .row 5 1 A n cap (u8s bytes)]) [.blk bv [.pointer (some ⟨br, 0, none⟩), .int .i64 e0] 103, .blk br [.slice A n cap, .int .i64 ((a0 : Nat) : Int)] 153, .row 5 1 A n cap (u8s bytes)] w) : Calls Tryz.prog 55 [.agg #[.int .i64 (nf : Int), .int .i64 fl, .int .i64 most], .pointer (some ⟨bv, 0, none⟩), .slice D nb capb].toArray w (RtE fun v w' => ∃ x : Nat × Int × List PRw × Option Addr × Nat × (Nat → Prop), v = (fun x => .slice x.2.2.2.1 x.2.2.1.length x.2.2.2.2.1) x ∧ (fun x => ∃ e', ReadR (unp bytes) nf fl rb a0 e0 0 rb x.1 e' (x.2.2.1.map (·.2)) ∧ x.2.1 = failF (decide ((x.2.2.1.length : Int) ≤ most)) 3 e' ∧ x.2.2.1.length ≤ 1000000 ∧ x.1 ≤ n * 8) x ∧ St w (fpOf [.blk bv [.pointer (some ⟨br, 0, none⟩), .int .i64 e0] 103, .blk br [.slice A n cap, .int .i64 ((a0 : Nat) : Int)] 153, .row 5 1 A n cap (u8s bytes)]) ((fun x => [poolE (hdb.zip rb) x.2.2.2.2.2 x.2.2.1, .row 84 2 x.2.2.2.1 x.2.2.1.length x.2.2.2.2.1 (flat pc x.2.2.1), .blk bv [.pointer (some ⟨br, 0, none⟩), .int .i64 x.2.1] 103, .blk br [.slice A n cap, .int .i64 ((x.1 : Nat) : Int)] 153, .row 5 1 A n cap (u8s bytes)]) x) w') := by
 refine enter Tryz.func55 rfl Tryz.ntmps55 rfl hS ?_
 refine c_seq ?_
 refine c_reg ?_
 refine sx (ef_box rfl rfl rfl) rfl ?_
 rintro b3 hb3
 refine sq (rd_assign rfl) rfl ?_
 refine s_end ?_
 refine f_then ?_
 refine c_seq ?_
 have lb : rb.length = nb := by have := hb.sl.len; rw [rowCells_len _ _ hb.ins.1] at this; omega
 have hql : (hdb.zip rb).length = nb := by rw [List.length_zip, hb.ins.1]; omega
 have hu : (unp bytes).length = n * 8 := by rw [unp_len, hl]
 have hqs : (hdb.zip rb).Pairwise (fun p q : PRw => p.2.1 < q.2.1) := by
  have h9 := hsb
  rw [← zip_snd hb.ins.1, List.pairwise_map] at h9
  exact h9
 refine c_reg ?_
 refine sq (rd_move rfl) rfl ?_
 refine sx (ef_call rfl rfl K85 (fun _ e => by cases e; rfl) [] _ (.refl _) _ _ _ (fun w hS => by exact c85 w D nb capb (rowCells hdb rb) (hb.sl.hand hS (by decide)) (rowCells_cells _ _) (by omega) hS.own)) rfl ?_
 rintro ⟨A1, c1⟩ _
 refine sq (rd_assign rfl) rfl ?_
 refine s_end ?_
 refine f_then ?_
 refine c_seq ?_
 refine c_seq ?_
 refine c_ents (fun _ h => by have h9 := h; rw [rowCells_zip] at h9; exact h9.poolStart (hdb.zip rb)) ?_
 refine c_ents (E' := [_, .row 84 2 A1 (hdb.zip rb).length c1 _, _, _, _, _]) (fun _ h => by rw [hql]; exact h) ?_
 refine c_keep (L' := [(0, _), (1, _), (2, _), (3, _), (6, _), (16, _), (17, _), (7, .slice A1 (hdb.zip rb).length c1)]) (.cons rfl (.cons rfl (.cons rfl (.cons rfl (.cons rfl (.cons rfl (.cons rfl (.cons (by rw [hql]; rfl) .nil)))))))) ?_
 refine c_reg ?_
 refine sq (rd_assign rfl) rfl ?_
 refine s_end ?_
 refine f_then ?_
 refine c_block ?_
 refine c_keep (L' := [(1, _), (2, _), (3, _), (6, _), (7, _), (8, _)]) (by repeat constructor) ?_
 refine c_front (.blk b3 _ _) (by repeat constructor) ?_
 refine c_front (.row 5 _ A n cap _) (by repeat constructor) ?_
 refine c_front (.blk br _ _) (by repeat constructor) ?_
 refine c_front (.blk bv _ _) (by repeat constructor) ?_
 refine c_front (.row 84 _ A1 _ c1 _) (by repeat constructor) ?_
 refine c_front (poolE _ _ _) (by repeat constructor) ?_
 refine c_for (α := Nat × Int × Int × List PRw × Option Addr × Nat × (Nat → Prop)) (fun ⟨a, e, last, ps, A7, c7, fp⟩ => a ≤ n * 8 ∧ (ps.Pairwise fun p q => p.2.1 < q.2.1) ∧ ps.length ≤ nb + a ∧ ∀ (a' : Nat) (e' : Int) (rs' : List RW), ReadR (unp bytes) nf fl rb a e last (ps.map (·.2)) a' e' rs' → ReadR (unp bytes) nf fl rb a0 e0 0 rb a' e' rs') (fun ⟨a, e, last, ps, A7, c7, fp⟩ => [poolE (hdb.zip rb) fp ps, .row 84 2 A7 ps.length c7 (flat pc ps), .blk bv [.pointer (some ⟨br, 0, none⟩), .int .i64 e] 103, .blk br [.slice A n cap, .int .i64 ((a : Nat) : Int)] 153, .row 5 1 A n cap (u8s bytes)]) [.blk b3 _ _] (fun ⟨a, e, last, ps, A7, c7, fp⟩ => [(7, .slice A7 ps.length c7), (8, .int .i64 last)]) [(1, _), (2, _), (3, _), (6, _)] (fun ⟨a, e, last, ps, A7, c7, fp⟩ => n * 8 - a) ((a0, e0, 0, (hdb.zip rb), A1, c1, fun _ => False)) (⟨ha0, hqs, by show (hdb.zip rb).length ≤ nb + a0; omega, fun a' e' rs' h => by rw [zip_snd hb.ins.1] at h; exact h⟩) (by repeat constructor) (fun _ h => h) ?_
 rintro ⟨a, e, last, ps, A7, c7, fp⟩ ⟨ha, hps, hpl0, hk⟩
 refine c_seq ?_
 refine c_seq ?_
 refine c_reg ?_
 refine sq (rd_move rfl) rfl ?_
 refine s_front (.row 5 _ A n cap _) (by repeat constructor) ?_
 refine s_front (.blk br _ _) (by repeat constructor) ?_
 refine s_front (.blk bv _ _) (by repeat constructor) ?_
 refine sx (ef_call rfl rfl K96 (fun _ e => by cases e; rfl) [.blk bv _ _, .blk br _ _, .row 5 _ A n cap _] _ (.refl _) _ _ _ (fun w hS => by exact c96 w bv br A n cap bytes a e ha hl h256 (by omega) hS.own)) rfl ?_
 rintro _ _
 refine s_end ?_
 refine f_then ?_
 refine c_cond rfl (fun h19 => ?_) (fun h19 => ?_)
 ·obtain ⟨hm1, hm2, hm3⟩ := more_lt h19
  refine c_skip ?_
  refine f_then ?_
  refine c_block ?_
  refine c_seq ?_
  refine c_reg ?_
  refine sq (rd_move rfl) rfl ?_
  refine sx (ef_call rfl rfl K97 (fun _ e => by cases e; rfl) [.blk bv _ _, .blk br _ _, .row 5 _ A n cap _] _ (.refl _) _ _ _ (fun w hS => by exact c97 w bv br A n cap bytes (toB (unp bytes) a 1) 31 (failF (okB (unp bytes) a 1) 2 e) (by decide) (by omega) hl h256 (by omega) hS.own)) rfl ?_
  rintro _ _
  obtain ⟨id, hid⟩ : ∃ id, id = idOf (unp bytes) a := ⟨_, rfl⟩
  refine s_keep (L' := [(7, _), (8, _), (1, _), (2, _), (3, _), (6, _), (18, _), (19, _), (20, _), (21, .int .i64 id)]) (.cons rfl (.cons rfl (.cons rfl (.cons rfl (.cons rfl (.cons rfl (.cons rfl (.cons rfl (.cons rfl (.cons (by rw [hid]; rfl) .nil)))))))))) ?_
  refine sx (ef_alloc Z3 rfl) rfl ?_
  rintro b9 hb9
  refine se (ef_store C3 rfl rfl (by repeat constructor) (by repeat constructor) rfl) rfl ?_
  refine s_end ?_
  refine f_then ?_
  refine c_seq ?_
  refine c_reg ?_
  refine sq (rd_move rfl) rfl ?_
  refine sq (rd_ldb C3 rfl (by repeat constructor) rfl) rfl ?_
  refine sq (rd_move rfl) rfl ?_
  refine sq (rd_gtr rfl rfl) rfl ?_
  refine s_front (.blk bv _ _) (by repeat constructor) ?_
  refine sx (ef_call rfl rfl K59 (fun _ e => by cases e; rfl) [.blk bv _ _] _ (.refl _) _ _ _ (fun w hS => by exact c59 w bv br (decide (last < id)) 3 (failF (okB (unp bytes) (toB (unp bytes) a 1) 31) 2 (failF (okB (unp bytes) a 1) 2 e)) hS.own)) rfl ?_
  rintro _ _
  refine s_end ?_
  refine f_then ?_
  refine c_seq ?_
  obtain ⟨e3, he3⟩ : ∃ e3, e3 = err3 (unp bytes) a e last := ⟨_, rfl⟩
  obtain ⟨a2, ha2d⟩ : ∃ a2, a2 = aft (unp bytes) a := ⟨_, rfl⟩
  have hx3 : failF (decide (last < id)) 3 (failF (okB (unp bytes) (toB (unp bytes) a 1) 31) 2 (failF (okB (unp bytes) a 1) 2 e)) = e3 := by rw [he3, hid]; rfl
  have hx2 : toB (unp bytes) (toB (unp bytes) a 1) 31 = a2 := ha2d.symm
  have ha2 : a2 ≤ n * 8 := by rw [← hu, ← hx2]; exact toB_le _ _ _
  have hge2 : a + 1 ≤ a2 := by rw [← hx2, hm2]; exact toB_ge (by omega)
  have hle3 : (toB (unp bytes) a2 1) ≤ n * 8 := by rw [← hu]; exact toB_le _ _ _
  have hge3 : a2 ≤ (toB (unp bytes) a2 1) := toB_ge (by omega)
  refine c_ents (fun _ h => by rw [hx3, hx2] at h; exact h) ?_
  refine c_reg ?_
  refine sq (rd_ldb C3 rfl (by repeat constructor) rfl) rfl ?_
  refine sq (rd_assign rfl) rfl ?_
  refine s_end ?_
  refine f_then ?_
  refine c_seq ?_
  refine c_reg ?_
  refine sq (rd_ldsb A78 rfl (by repeat constructor) (by first | exact GetR.all _ | repeat constructor)) rfl ?_
  refine sq (rd_move rfl) rfl ?_
  refine sq (rd_ldb C3 rfl (by repeat constructor) rfl) rfl ?_
  refine sx (ef_call rfl rfl K89 (fun _ e => by cases e; rfl) [] _ (.refl _) _ _ _ (fun w hS => by exact c89 w D nb capb nf id fl most hdb rb (hb.hand (Ec := []) hS) (by omega) hS.own)) rfl ?_
  rintro xb hxb0
  have hxb := RowsAt.fld hb hxb0
  have hfl := fndR_len hNb id
  refine sq (rd_move rfl) rfl ?_
  refine sq (rd_extract rfl rfl) rfl ?_
  refine sq (rd_extract rfl rfl) rfl ?_
  refine sx (ef_alloc Z84 rfl) rfl ?_
  rintro b10 hb10
  refine se (ef_stores A84 rfl rfl rfl (by repeat constructor) (by first | exact SetR.all rfl | repeat constructor) rfl) rfl ?_
  refine sq (rd_assign rfl) rfl ?_
  refine s_end ?_
  refine f_then ?_
  refine c_seq ?_
  refine c_seq ?_
  refine c_reg ?_
  refine sq (rd_move rfl) rfl ?_
  refine s_front (.row 5 _ A n cap _) (by repeat constructor) ?_
  refine s_front (.blk br _ _) (by repeat constructor) ?_
  refine s_front (.blk bv _ _) (by repeat constructor) ?_
  refine sx (ef_call rfl rfl K96 (fun _ e => by cases e; rfl) [.blk bv _ _, .blk br _ _, .row 5 _ A n cap _] _ (.refl _) _ _ _ (fun w hS => by exact c96 w bv br A n cap bytes a2 e3 ha2 hl h256 (by omega) hS.own)) rfl ?_
  rintro _ _
  refine s_end ?_
  refine f_then ?_
  refine c_cond rfl (fun h36 => ?_) (fun h36 => ?_)
  ·refine c_seq ?_
   refine c_reg ?_
   refine sq (rd_move rfl) rfl ?_
   refine sq (rd_move rfl) rfl ?_
   refine sx (ef_call rfl rfl K59 (fun _ e => by cases e; rfl) [.blk bv _ _] _ (.refl _) _ _ _ (fun w hS => by exact c59 w bv br (hasR rb id) 3 (failF (okB (unp bytes) a2 1) 2 e3) hS.own)) rfl ?_
   rintro _ _
   refine s_end ?_
   refine f_then ?_
   refine c_seq ?_
   refine c_reg ?_
   refine sq (rd_move rfl) rfl ?_
   refine sq (rd_func rfl rfl) rfl ?_
   refine s_front (.row 84 _ A7 _ c7 _) (by repeat constructor) ?_
   refine s_front (.blk b9 _ _) (by repeat constructor) ?_
   refine sx (ef_call rfl rfl K98 (fun _ e => by cases e; rfl) [.blk b9 _ _, .row 84 _ A7 _ c7 _] _ (.refl _) _ _ _ (fun w hS => by exact c98 w A7 ps.length c7 b9 id ps (by omega) hS.own)) rfl ?_
   rintro _ _
   refine sq (rd_assign rfl) rfl ?_
   refine s_end ?_
   refine f_then ?_
   refine c_exit ?_
   refine f_then_x ?_
   refine f_blk_x ?_
   refine f_front (.blk b3 _ _) (by repeat constructor) ?_
   refine f_front (.row 5 _ A n cap _) (by repeat constructor) ?_
   refine f_front (.blk br _ _) (by repeat constructor) ?_
   refine f_front (.blk bv _ _) (by repeat constructor) ?_
   refine f_front (.row 84 _ A7 _ c7 _) (by repeat constructor) ?_
   refine f_front (poolE _ fp ps) (by repeat constructor) ?_
   refine f_again (((toB (unp bytes) a2 1), failF (hasR rb id) 3 (failF (okB (unp bytes) a2 1) 2 e3), id, ps.filter (fun p : PRw => !decide (p.2.1 = id)), A7, c7, fp)) (⟨hle3, hps.sublist List.filter_sublist, by have := List.length_filter_le (fun p : PRw => !decide (p.2.1 = id)) ps; show (ps.filter (fun p : PRw => !decide (p.2.1 = id))).length ≤ nb + (toB (unp bytes) a2 1); omega, fun a' e' rs' hr => hk a' e' rs' (ReadR.gone h19 (by rw [← ha2d, ← he3]; exact h36) (by rw [← ha2d, ← he3, ← hid, List.filter_map]; exact hr))⟩) (by show n * 8 - (toB (unp bytes) a2 1) < n * 8 - a; omega) (by repeat constructor) (fun _ h => (St.poolSub h (fun p hp => (List.mem_filter.1 hp).1)).sub (by repeat (first | exact .refl _ | apply List.Sublist.cons_cons | apply List.Sublist.cons)))
  ·refine c_skip ?_
   refine f_then ?_
   refine c_meet2 (α := Nat × Option Addr × Nat) (fun ⟨b12, Af, cf⟩ => True) (fun ⟨b12, Af, cf⟩ => [.blk b12 [.int .i64 id, .slice Af (fndR nf rb id).length cf] 84, .row 2 1 Af (fndR nf rb id).length cf (ints (fndR nf rb id))]) [.blk bv _ _, .blk br _ _, .row 5 _ A n cap _, .blk b10 _ _, fldE xb _, .blk b9 _ _, poolE _ fp ps, .row 84 _ A7 _ c7 _, .blk b3 _ _] (fun ⟨b12, Af, cf⟩ => [(12, .pointer (some ⟨b12, 0, none⟩))]) [(7, _), (1, _), (2, _), (3, _), (6, _), (18, _), (19, _), (20, _), (21, _), (9, _), (22, _), (23, _), (24, _), (25, _), (27, _), (8, _), (29, _), (30, _), (31, _), (32, _), (28, _), (33, _), (34, _), (10, _), (11, _), (35, _), (36, _)] (by repeat constructor) [] (fun _ h => h) ?_ ?_
   ·refine c_regd [.blk bv _ _, .blk br _ _, .row 5 _ A n cap _, .blk b10 _ _, fldE xb _, .blk b9 _ _, poolE _ fp ps, .row 84 _ A7 _ c7 _, .blk b3 _ _] (.q 0 (.q 1 (.q 2 (.alt 3 (.q 4 (.alt 5 (.alt 6 .done .stop) .stop)) (.alt 5 (.alt 3 (.q 4 (.alt 6 .done .stop)) .stop) .stop))))) (by kernel_rfl) (by kernel_rfl) (by kernel_rfl) (by kernel_rfl) (fun _ h => h.sb) ?_
    refine dq rfl (rd_ldb C3 rfl (by repeat constructor) rfl) rfl ?_
    refine dq rfl (rd_field F84_1 rfl) rfl ?_
    refine dq rfl (rd_ldb C82 rfl (by repeat constructor) rfl) rfl ?_
    refine dx rfl rfl (ef_call rfl rfl K100 (fun _ e => by cases e; rfl) [] _ (.refl _) _ _ _ (fun w hS => by exact c100 w xb.a (fndR nf rb id).length xb.c (ints (fndR nf rb id)) (Fld.hand hxb hS (by repeat constructor)) (ints_cells _) (by omega) hS.own)) (fun _ _ _ h => h.sb) ?_ ?_
    ·rintro ⟨Af, cf⟩ _
     refine dq rfl (rd_build St84 rfl (by repeat constructor)) rfl ?_
     refine dx rfl rfl (ef_alloc Z84 rfl) (fun _ _ _ h => h.sb) ?_ d_stop
     rintro b12 hb12
     refine de rfl rfl (ef_stores A84 rfl rfl rfl (by repeat constructor) (by first | exact SetR.all rfl | repeat constructor) rfl) (fun _ h => h.sb) ?_ d_stop
     refine d_end ?_
     refine f_cut ((b12, Af, cf)) (trivial) (by repeat constructor) (fun _ h => h.sb)
    refine dx rfl rfl (ef_alloc Z84 rfl) (fun _ _ _ h => h.sb) ?_ ?_
    ·rintro b12_1 hb12_1
     refine dx rfl rfl (ef_call rfl rfl K100 (fun _ e => by cases e; rfl) [] _ (.refl _) _ _ _ (fun w hS => by exact c100 w xb.a (fndR nf rb id).length xb.c (ints (fndR nf rb id)) (Fld.hand hxb hS (by repeat constructor)) (ints_cells _) (by omega) hS.own)) (fun _ _ _ h => h.sb) ?_ d_stop
     rintro ⟨Af, cf⟩ _
     refine dq rfl (rd_build St84 rfl (by repeat constructor)) rfl ?_
     refine de rfl rfl (ef_stores A84 rfl rfl rfl (by repeat constructor) (by first | exact SetR.all rfl | repeat constructor) rfl) (fun _ h => h.sb) ?_ d_stop
     refine d_end ?_
     refine f_front (.blk b3 _ _) (by repeat constructor) ?_
     refine f_front (.row 84 _ A7 _ c7 _) (by repeat constructor) ?_
     refine f_front (poolE _ fp ps) (by repeat constructor) ?_
     refine f_front (.blk b9 _ _) (by repeat constructor) ?_
     refine f_front (fldE xb _) (by repeat constructor) ?_
     refine f_front (.blk b10 _ _) (by repeat constructor) ?_
     refine f_front (.row 5 _ A n cap _) (by repeat constructor) ?_
     refine f_front (.blk br _ _) (by repeat constructor) ?_
     refine f_front (.blk bv _ _) (by repeat constructor) ?_
     refine f_front (.row 2 _ Af _ cf _) (by repeat constructor) ?_
     refine f_front (.blk b12_1 _ _) (by repeat constructor) ?_
     refine f_cut ((b12_1, Af, cf)) (trivial) (by repeat constructor) (fun _ h => h.sb)
    exact d_stop
   ·rintro ⟨b12, Af, cf⟩ _
    refine c_seq ?_
    refine c_reg ?_
    refine sq (rd_ldsb A78 rfl (by repeat constructor) (by first | exact GetR.all _ | repeat constructor)) rfl ?_
    refine sq (rd_move rfl) rfl ?_
    refine sq (rd_field F84_1 rfl) rfl ?_
    refine sq (rd_ldb C82 rfl (by repeat constructor) rfl) rfl ?_
    refine s_front (.row 2 _ Af _ cf _) (by repeat constructor) ?_
    refine s_front (.row 5 _ A n cap _) (by repeat constructor) ?_
    refine s_front (.blk br _ _) (by repeat constructor) ?_
    refine s_front (.blk bv _ _) (by repeat constructor) ?_
    refine sx (ef_call rfl rfl K101 (fun _ e => by cases e; rfl) [.blk bv _ _, .blk br _ _, .row 5 _ A n cap _, .row 2 _ Af _ cf _] _ (.refl _) _ _ _ (fun w hS => by exact c101 w bv br A n cap bytes (toB (unp bytes) a2 1) (failF (okB (unp bytes) a2 1) 2 e3) (nf : Int) fl most Af cf (fndR nf rb id) (by omega) (by omega) hl h256 hn hS.own)) rfl ?_
    rintro _ _
    obtain ⟨sC, hsC⟩ : ∃ sC, sC = chgOf (unp bytes) nf fl rb a e last := ⟨_, rfl⟩
    have hC : chgF (unp bytes) fl (fndR nf rb id).length ⟨(toB (unp bytes) a2 1), (failF (okB (unp bytes) a2 1) 2 e3), false, (fndR nf rb id)⟩ = sC := by rw [hsC, chgOf, ← ha2d, ← he3, ← hid, hfl]
    have hok := chgF_ok (B := (unp bytes)) (fl := fl) (s := ⟨(toB (unp bytes) a2 1), (failF (okB (unp bytes) a2 1) 2 e3), false, (fndR nf rb id)⟩) (show (toB (unp bytes) a2 1) ≤ _ by omega) (fndR nf rb id).length
    rw [hC] at hok
    obtain ⟨ho1, ho2, hsf⟩ := hok
    dsimp only at ho2 hsf
    refine s_ents (fun _ h => by rw [hC] at h; exact h) ?_
    refine s_keep (L' := [(12, _), (7, _), (1, _), (2, _), (3, _), (6, _), (18, _), (19, _), (20, _), (21, _), (9, _), (22, _), (23, _), (24, _), (25, _), (27, _), (8, _), (29, _), (30, _), (31, _), (32, _), (28, _), (33, _), (34, _), (10, _), (11, _), (35, _), (36, _), (48, _), (49, _), (50, _), (51, _), (52, .bool sC.so)]) (.cons rfl (.cons rfl (.cons rfl (.cons rfl (.cons rfl (.cons rfl (.cons rfl (.cons rfl (.cons rfl (.cons rfl (.cons rfl (.cons rfl (.cons rfl (.cons rfl (.cons rfl (.cons rfl (.cons rfl (.cons rfl (.cons rfl (.cons rfl (.cons rfl (.cons rfl (.cons rfl (.cons rfl (.cons rfl (.cons rfl (.cons rfl (.cons rfl (.cons rfl (.cons rfl (.cons rfl (.cons rfl (.cons (by rw [← hC]; rfl) .nil))))))))))))))))))))))))))))))))) ?_
    refine sq (rd_assign rfl) rfl ?_
    refine s_end ?_
    refine f_then ?_
    refine c_meet2 (α := Unit) (fun x => True) (fun x => [.blk bv [.pointer (some ⟨br, 0, none⟩), .int .i64 (failF (sC.so || !hasR rb id) 3 sC.e)] 103]) [.blk br _ _, .row 5 _ A n cap _, .row 2 _ Af _ cf _, .blk b12 _ _, .blk b10 _ _, fldE xb _, .blk b9 _ _, poolE _ fp ps, .row 84 _ A7 _ c7 _, .blk b3 _ _] (fun x => []) [(12, _), (7, _), (1, _), (2, _), (3, _), (6, _), (18, _), (19, _), (20, _), (21, _), (9, _), (22, _), (23, _), (24, _), (25, _), (27, _), (8, _), (29, _), (30, _), (31, _), (32, _), (28, _), (33, _), (34, _), (10, _), (11, _), (35, _), (36, _), (48, _), (49, _), (50, _), (51, _), (52, _), (13, _)] (by repeat constructor) [.blk bv _ _] (fun _ h => h) ?_ ?_
    ·refine c_reg ?_
     refine sq (rd_move rfl) rfl ?_
     refine sq (rd_move rfl) rfl ?_
     refine sq (rd_move rfl) rfl ?_
     refine s_split (d := 55) rfl (fun g55 => ?_) (fun g55 => ?_)
     ·try have g55p := of_decide_eq_true g55
      refine sg0 (fun a hA => wanted_no hA rfl rfl rfl g55 rfl) rfl ?_
      refine sg0 (fun a hA => wanted_no hA rfl rfl rfl g55 rfl) rfl ?_
      refine sq (rd_pick_tt rfl g55 rfl) rfl ?_
      refine sx (ef_call rfl rfl K59 (fun _ e => by cases e; rfl) [.blk bv _ _] _ (.refl _) _ _ _ (fun w hS => by exact c59 w bv br true 3 sC.e hS.own)) rfl ?_
      rintro _ _
      refine s_end ?_
      have h9 : sC.so = true := by simpa using g55
      refine f_cut (()) (trivial) (by repeat constructor) (fun _ h => by (try dsimp only); rw [h9, Bool.true_or]; exact h.sb)
     ·try have g55p := of_decide_eq_false g55
      refine sg1 (fun a hA => wanted_yes hA rfl rfl rfl g55) (rd_move rfl) rfl ?_
      refine sg1 (fun a hA => wanted_yes hA rfl rfl rfl g55) ((by first | exact rd_notd rfl | exact rd_not rfl)) rfl ?_
      refine sq (rd_pick_ff rfl g55 rfl) rfl ?_
      refine sx (ef_call rfl rfl K59 (fun _ e => by cases e; rfl) [.blk bv _ _] _ (.refl _) _ _ _ (fun w hS => by exact c59 w bv br (!hasR rb id) 3 sC.e hS.own)) rfl ?_
      rintro _ _
      refine s_end ?_
      have h9 : sC.so = false := by simpa using g55
      refine f_cut (()) (trivial) (by repeat constructor) (fun _ h => by (try dsimp only); rw [h9, Bool.false_or]; exact h.sb)
    ·rintro x hx
     refine c_seq ?_
     refine c_reg ?_
     refine sq (rd_move rfl) rfl ?_
     refine sq (rd_ldb C3 rfl (by repeat constructor) rfl) rfl ?_
     refine se (ef_pw rfl rfl K102 rfl (fun w hS => by exact c102 w A7 ps.length c7 id ps (by omega) hps (Sl.ofRow' hS (by repeat constructor)))) rfl ?_
     refine sq (rd_move rfl) rfl ?_
     refine sq (rd_extract rfl rfl) rfl ?_
     refine sq (rd_extract rfl rfl) rfl ?_
     refine sq (rd_assign rfl) rfl ?_
     refine sq (rd_assign rfl) rfl ?_
     refine s_end ?_
     refine f_then ?_
     refine c_seq ?_
     refine c_ents (fun _ h => by rw [← hsf] at h; exact h) ?_
     refine c_know (fun _ h => row_know (e := 84) (sz := 2) (A := A7) (m := ps.length) (cap := c7) (by repeat constructor) _ h) (fun hk7 => ?_)
     have hp7 := fun h => (hk7.2.2.2 h).1
     refine c_reg ?_
     refine sq (rd_move rfl) rfl ?_
     refine s_end ?_
     refine f_then ?_
     refine c_cond rfl (fun h66 => ?_) (fun h66 => ?_)
     ·have hlt := there_lt h66
      refine c_reg ?_
      refine sq (rd_move rfl) rfl ?_
      refine sq (rd_move rfl) rfl ?_
      refine sq (rd_ldsb A84 rfl (by repeat constructor) (by first | exact GetR.all _ | repeat constructor)) rfl ?_
      refine sq (rd_index S80 rfl rfl hp7 (by omega) (by omega)) rfl ?_
      refine s_front (.row 84 _ A7 _ c7 _) (by repeat constructor) ?_
      refine se (ef_storer (ys := flat pc (ps.set (lbP ps id) ((Af, cf), (id, sC.fs)))) Sz84 rfl rfl rfl (hv := rfl) rfl (by have := there_lt h66; simp only [Int.toNat_natCast]; omega) (by decide) rfl (by have := there_lt h66; simp only [Int.toNat_natCast]; exact flat_set (f := pc) pc_len ((Af, cf), (id, sC.fs)) (by omega))) rfl ?_
      refine s_end ?_
      refine f_blk ?_
      have ht : thereP ps id = true := by simpa using h66
      have e1 : putP ps ((Af, cf), (id, sC.fs)) = ps.set (lbP ps id) ((Af, cf), (id, sC.fs)) := by unfold putP; rw [if_pos ht]
      have hpl := putP_len ps ((Af, cf), (id, sC.fs))
      have e2 : (putP ps ((Af, cf), (id, sC.fs))).length = ps.length := by rw [e1]; exact List.length_set
      refine f_front (.blk b3 _ _) (by repeat constructor) ?_
      refine f_front (.row 5 _ A n cap _) (by repeat constructor) ?_
      refine f_front (.blk br _ _) (by repeat constructor) ?_
      refine f_front (.blk bv _ _) (by repeat constructor) ?_
      refine f_front (.row 84 _ A7 _ c7 _) (by repeat constructor) ?_
      refine f_front (poolE _ fp ps) (by repeat constructor) ?_
      refine f_front (.row 2 _ Af _ cf _) (by repeat constructor) ?_
      refine f_again ((sC.a, (failF (sC.so || !hasR rb id) 3 sC.e), id, putP ps ((Af, cf), (id, sC.fs)), A7, c7, fun k => fp k ∨ Af.map (·.block) = some k)) (⟨by show sC.a ≤ n * 8; omega, put_rising hps, by show (putP ps ((Af, cf), (id, sC.fs))).length ≤ nb + sC.a; omega, fun a' e' rs' hr => hk a' e' rs' (ReadR.made h19 (by rw [← ha2d, ← he3]; simpa using h36) (by rw [← hsC, ← hid]; rw [putP_snd] at hr; exact hr))⟩) (by show n * 8 - sC.a < n * 8 - a; omega) (.cons (by rw [e2]; rfl) (by repeat constructor)) (fun _ h => by
       have h9 := St.poolAdd (id := id) (ps' := putP ps ((Af, cf), (id, sC.fs))) h rfl (fun p hp => putP_mem hp)
       (try dsimp only)
       rw [show (putP ps ((Af, cf), (id, sC.fs))).length = _ from e2, e1]
       rw [e1] at h9
       exact h9.sub (by repeat (first | exact .refl _ | apply List.Sublist.cons_cons | apply List.Sublist.cons)))
     ·refine c_reg ?_
      refine sq (rd_move rfl) rfl ?_
      refine sq (rd_move rfl) rfl ?_
      refine sq (rd_ldsb A84 rfl (by repeat constructor) (by first | exact GetR.all _ | repeat constructor)) rfl ?_
      refine sx (ef_slice Rt80 rfl (by repeat constructor) rfl rfl) rfl ?_
      rintro b74 hb74
      refine s_asRow 2 1 rfl rfl ?_
      refine s_front (.row 84 _ A7 _ c7 _) (by repeat constructor) ?_
      refine sx (ef_call rfl rfl K104 (fun _ e => by cases e; rfl) [.row 84 _ A7 _ c7 _, .row _ _ (some ⟨b74, 0, none⟩) 1 1 _] _ (.refl _) _ _ _ (fun w hS => by exact c104 w A7 ps.length c7 (lbP ps id) b74 ps ((Af, cf), (id, sC.fs)) (by omega) (lbP_le _ _) hS.own)) rfl ?_
      rintro ⟨A8, c8⟩ _
      refine sq (rd_assign rfl) rfl ?_
      refine s_end ?_
      refine f_blk ?_
      have ht : thereP ps id = false := by simpa using h66
      have e1 : putP ps ((Af, cf), (id, sC.fs)) = insP ps (lbP ps id) ((Af, cf), (id, sC.fs)) := by unfold putP; rw [if_neg (by rw [ht]; exact Bool.false_ne_true)]; unfold insP; rw [List.append_assoc]
      have hpl := putP_len ps ((Af, cf), (id, sC.fs))
      have e2 : (putP ps ((Af, cf), (id, sC.fs))).length = ps.length + 1 := by rw [e1]; exact insP_len _ (lbP_le _ _)
      refine f_front (.blk b3 _ _) (by repeat constructor) ?_
      refine f_front (.row 5 _ A n cap _) (by repeat constructor) ?_
      refine f_front (.blk br _ _) (by repeat constructor) ?_
      refine f_front (.blk bv _ _) (by repeat constructor) ?_
      refine f_front (.row 84 _ A8 _ c8 _) (by repeat constructor) ?_
      refine f_front (poolE _ fp ps) (by repeat constructor) ?_
      refine f_front (.row 2 _ Af _ cf _) (by repeat constructor) ?_
      refine f_again ((sC.a, (failF (sC.so || !hasR rb id) 3 sC.e), id, putP ps ((Af, cf), (id, sC.fs)), A8, c8, fun k => fp k ∨ Af.map (·.block) = some k)) (⟨by show sC.a ≤ n * 8; omega, put_rising hps, by show (putP ps ((Af, cf), (id, sC.fs))).length ≤ nb + sC.a; omega, fun a' e' rs' hr => hk a' e' rs' (ReadR.made h19 (by rw [← ha2d, ← he3]; simpa using h36) (by rw [← hsC, ← hid]; rw [putP_snd] at hr; exact hr))⟩) (by show n * 8 - sC.a < n * 8 - a; omega) (.cons (by rw [e2]; rfl) (by repeat constructor)) (fun _ h => by
       have h9 := St.poolAdd (id := id) (ps' := putP ps ((Af, cf), (id, sC.fs))) h rfl (fun p hp => putP_mem hp)
       (try dsimp only)
       rw [show (putP ps ((Af, cf), (id, sC.fs))).length = _ from e2, e1]
       rw [e1] at h9
       exact h9.sub (by repeat (first | exact .refl _ | apply List.Sublist.cons_cons | apply List.Sublist.cons)))
 ·refine c_exit ?_
  refine f_then_x ?_
  refine f_then_x ?_
  refine f_blk_x ?_
  refine f_then ?_
  refine c_seq ?_
  refine c_reg ?_
  refine sq (rd_move rfl) rfl ?_
  refine sq (rd_move rfl) rfl ?_
  refine sq (rd_len S80 rfl rfl) rfl ?_
  refine sq (rd_field F78_2 rfl) rfl ?_
  refine sq (rd_ldb C3 rfl (by repeat constructor) rfl) rfl ?_
  refine sq (rd_leq rfl rfl) rfl ?_
  refine sx (ef_call rfl rfl K59 (fun _ e => by cases e; rfl) [.blk bv _ _] _ (.refl _) _ _ _ (fun w hS => by exact c59 w bv br (decide ((ps.length : Int) ≤ most)) 3 (failF (okB (unp bytes) a 1) 2 e) hS.own)) rfl ?_
  rintro _ _
  refine s_end ?_
  refine f_then ?_
  refine c_seq ?_
  refine c_reg ?_
  refine sq (rd_move rfl) rfl ?_
  refine sq (rd_assign rfl) rfl ?_
  refine s_end ?_
  refine f_then ?_
  refine c_ret ?_
  refine f_front (.row 5 _ A n cap _) (by repeat constructor) ?_
  refine f_front (.blk br _ _) (by repeat constructor) ?_
  refine f_front (.blk bv _ _) (by repeat constructor) ?_
  refine f_front (.row 84 _ A7 _ c7 _) (by repeat constructor) ?_
  refine f_front (poolE _ fp ps) (by repeat constructor) ?_
  refine f_ret rfl (.tmp rfl .nil) ?_
  refine fun w' hS => ⟨_, rfl, ((toB (unp bytes) a 1), failF (decide ((ps.length : Int) ≤ most)) 3 (failF (okB (unp bytes) a 1) 2 e), ps, A7, c7, fp), rfl, ⟨_, hk _ _ _ (ReadR.stop (by simpa using h19)), rfl, by show ps.length ≤ 1000000; omega, by show (toB (unp bytes) a 1) ≤ n * 8; rw [← hu]; exact toB_le _ _ _⟩, St.sub (E' := [_, _, _, _, _]) hS (by repeat (first | exact .refl _ | apply List.Sublist.cons_cons | apply List.Sublist.cons))⟩

end Go.Proofs.YtfccnoccfhgcbaaGreatDoor
namespace Go.Proofs.YtfccnoccfhgcbaaGreatDoor
open Go Go.RowKit

theorem putR_len {nf : Nat} {rs : List RW} {r : RW} (h : ∀ r ∈ rs, r.2.length = nf) (hr : r.2.length = nf) : ∀ s ∈ putR rs r, s.2.length = nf := fun s hs => by
 unfold putR at hs
 split at hs
 ·rcases List.mem_or_eq_of_mem_set hs with hs | rfl
  ·exact h s hs
  ·exact hr
 ·simp only [List.append_assoc, List.mem_append, List.mem_cons, List.not_mem_nil, or_false] at hs
  rcases hs with hs | rfl | hs
  ·exact h s (List.mem_of_mem_take hs)
  ·exact hr
  ·exact h s (List.mem_of_mem_drop hs)
theorem chgOf_len {B : List Bool} {nf : Nat} {fl : Int} {rb : List RW} {a : Nat} {e last : Int} (h : ∀ r ∈ rb, r.2.length = nf) : (chgOf B nf fl rb a e last).fs.length = nf := by
 have := (chgF_ok (B := B) (fl := fl) (s := ⟨toB B (aft B a) 1, failF (okB B (aft B a) 1) 2 (err3 B a e last), false, fndR nf rb (idOf B a)⟩) (toB_le _ _ _) nf).2.2
 unfold chgOf
 rw [this]
 exact fndR_len h _
theorem ReadR.len {B : List Bool} {nf : Nat} {fl : Int} {rb : List RW} (hb : ∀ r ∈ rb, r.2.length = nf) {a : Nat} {e last : Int} {rs : List RW} {a' : Nat} {e' : Int} {rs' : List RW} (h : ReadR B nf fl rb a e last rs a' e' rs') : (∀ r ∈ rs, r.2.length = nf) → ∀ r ∈ rs', r.2.length = nf := by
 induction h with
 | stop _ => exact fun h => h
 | gone _ _ _ ih => exact fun h => ih fun r hr => h r (List.mem_filter.1 hr).1
 | made _ _ _ ih => exact fun h => ih (putR_len h (chgOf_len hb))
/-- Of a right state: the IDs rise. -/
theorem good_rising : ∀ {rs : List RW} {last : Int}, goodRows last rs = true → (∀ r ∈ rs, last < r.1) ∧ rs.Pairwise fun r s => r.1 < s.1
 | [], _, _ => ⟨fun _ h => (by cases h), .nil⟩
 | r :: rs, last, h => by
  simp only [goodRows, Bool.and_eq_true, Bool.not_eq_true', Bool.or_eq_false_iff, decide_eq_false_iff_not] at h
  obtain ⟨⟨⟨h1, h2⟩, h3⟩, h4⟩ := h
  obtain ⟨k1, k2⟩ := good_rising h4
  refine ⟨fun s hs => ?_, List.pairwise_cons.2 ⟨k1, k2⟩⟩
  rcases List.mem_cons.1 hs with rfl | hs
  ·omega
  ·have := k1 s hs
   omega
theorem rightB_rising {most : Int} {rs : List RW} (h : rightB most rs = true) : rs.Pairwise fun r s => r.1 < s.1 := by
 unfold rightB at h
 rw [Bool.and_eq_true] at h
 exact (good_rising h.1).2
theorem rightS_rising {ps : List PL} {ss : List SH} (h : rightS ps ss = true) : ((ps.map PL.row).Pairwise fun r s => r.1 < s.1) ∧ (ss.map SH.row).Pairwise fun r s => r.1 < s.1 := by
 unfold rightS at h
 rw [Bool.and_eq_true] at h
 exact ⟨rightB_rising h.1, rightB_rising h.2⟩
/-- What bytes make of a state. -/
def ApplyR (ps : List PL) (ss : List SH) (bytes : List Nat) (qs : List PL) (ts : List SH) (err : Int) : Prop :=
 (rightS ps ss = false ∧ qs = [] ∧ ts = [] ∧ err = 1) ∨ (rightS ps ss = true ∧ ∃ (a1 : Nat) (e1 : Int) (r1 : List RW) (a2 : Nat) (e2 : Int) (r2 : List RW),
  ReadR (unp bytes) 14 6 (ps.map PL.row) 0 0 0 (ps.map PL.row) a1 e1 r1 ∧ ReadR (unp bytes) 10 9 (ss.map SH.row) a1 (failF (decide ((r1.length : Int) ≤ 8)) 3 e1) 0 (ss.map SH.row) a2 e2 r2 ∧
  err = failF (restB (unp bytes) a2) 3 (failF (decide ((r2.length : Int) ≤ 64)) 3 e2) ∧ ((err ≠ 0 ∧ qs = [] ∧ ts = []) ∨ (err = 0 ∧ qs = r1.map PL.of ∧ ts = r2.map SH.of)))
end Go.Proofs.YtfccnoccfhgcbaaGreatDoor
namespace Go.Proofs.YtfccnoccfhgcbaaGreatDoor
open Go Go.RowKit
theorem K53 : callTy Tryz.prog 53 := by unfold callTy; kernel_rfl
theorem St103 : structTy Tryz.prog 103 [(0, 1), (1, 1)] [.pointer none, .int .i64 0] := ⟨by unfold zeroTy; kernel_rfl, _, Tryz.underlying103, fun w => by kernel_rfl⟩
theorem K55 : callTy Tryz.prog 55 := by unfold callTy; kernel_rfl
theorem K54 : callTy Tryz.prog 54 := by unfold callTy; kernel_rfl
theorem K57 : callTy Tryz.prog 57 := by unfold callTy; kernel_rfl
theorem K60 : callTy Tryz.prog 60 := by unfold callTy; kernel_rfl
theorem c25 (w : World) (A B Ab : Option Addr) (n m nb c d cb : Nat) (ps : List PL) (ss : List SH) (bytes : List Nat) (hG : Gl w none') (h1 : Sl w none' A n 15 (flat PL.enc ps)) (h2 : Sl w none' B m 11 (flat SH.enc ss)) (hbs : Sl w none' Ab nb 1 (u8s bytes)) (h256 : ∀ x ∈ bytes, x < 256) (hn : n ≤ 1000) (hm : m ≤ 1000) (hnb : nb ≤ 100000) (hS : St w (fpOf []) [] w) : Calls Tryz.prog 25 [.agg #[.slice A n c, .slice B m d], .slice Ab nb cb].toArray w (RtE fun v w' => ∃ x : List PL × List SH × Int × Option Addr × Nat × Option Addr × Nat, v = (fun x => .tuple #[.agg #[.slice x.2.2.2.1 x.1.length x.2.2.2.2.1, .slice x.2.2.2.2.2.1 x.2.1.length x.2.2.2.2.2.2], .int .i64 x.2.2.1]) x ∧ (fun x => ApplyR ps ss bytes x.1 x.2.1 x.2.2.1) x ∧ St w (fpOf []) ((fun x => [.row 51 15 x.2.2.2.1 x.1.length x.2.2.2.2.1 (flat PL.enc x.1), .row 54 11 x.2.2.2.2.2.1 x.2.1.length x.2.2.2.2.2.2 (flat SH.enc x.2.1)]) x) w') := by
 refine enter Tryz.func25 rfl Tryz.ntmps25 rfl hS ?_
 refine c_seq ?_
 refine c_reg ?_
 refine sx (ef_box rfl rfl rfl) rfl ?_
 rintro b2 hb2
 refine sx (ef_alloc Z25 rfl) rfl ?_
 rintro b4 hb4
 refine sq (rd_assign rfl) rfl ?_
 refine s_end ?_
 refine f_then ?_
 refine c_seq ?_
 refine c_seq ?_
 have l1 : ps.length = n := by have := h1.len; rw [flat_len PL.enc_len] at this; omega
 have l2 : ss.length = m := by have := h2.len; rw [flat_len SH.enc_len] at this; omega
 have hl : bytes.length = nb := by have := hbs.len; rw [u8s_len] at this; omega
 refine c_reg ?_
 refine sq (rd_ldsb A25 rfl (by repeat constructor) (by first | exact GetR.all _ | repeat constructor)) rfl ?_
 refine se (ef_pw rfl rfl K20 rfl (fun w hS => by exact c20 w A B n m c d ps ss (hG.hand (Ec := []) hS) (h1.hand (Ec := []) hS (by decide)) (h2.hand (Ec := []) hS (by decide)) (by omega) (by omega))) rfl ?_
 refine sq ((by first | exact rd_notd rfl | exact rd_not rfl)) rfl ?_
 refine s_end ?_
 refine f_then ?_
 refine c_cond rfl (fun h10 => ?_) (fun h10 => ?_)
 ·refine c_seq ?_
  refine c_reg ?_
  refine sq (rd_build St25 rfl (by repeat constructor)) rfl ?_
  refine se (ef_stores A25 rfl rfl rfl (by repeat constructor) (by first | exact SetR.all rfl | repeat constructor) rfl) rfl ?_
  refine sq (rd_assign rfl) rfl ?_
  refine s_end ?_
  refine f_then ?_
  refine c_ret ?_
  refine f_then_r ?_
  refine f_ret rfl (.cell (res_ldsb A25 rfl (by repeat constructor) (by first | exact GetR.all _ | repeat constructor)) (.tmp rfl .nil)) ?_
  exact fun w' hS => ⟨_, rfl, ([], [], 1, none, 0, none, 0), rfl, .inl ⟨by simpa using h10, rfl, rfl, rfl⟩, ((hS.sub (E' := []) (List.nil_sublist _)).nilrow 54 11).nilrow 51 15⟩
 ·have hR : rightS ps ss = true := by simpa using h10
  have hso := rightS_rising hR
  refine c_skip ?_
  refine f_then ?_
  refine c_seq ?_
  refine c_reg ?_
  refine sq (rd_move rfl) rfl ?_
  refine sx (ef_call rfl rfl K53 (fun _ e => by cases e; rfl) [] _ (.refl _) _ _ _ (fun w hS => by exact c53 w Ab nb cb (u8s bytes) (hbs.hand hS (by decide)) (u8s_cells _) (by omega) hS.own)) rfl ?_
  rintro ⟨br, A1, c1⟩ _
  refine sq (rd_build St103 rfl (by repeat constructor)) rfl ?_
  refine sx (ef_box rfl rfl rfl) rfl ?_
  rintro b15 hb15
  refine sq (rd_assign rfl) rfl ?_
  refine s_end ?_
  refine f_then ?_
  refine c_seq ?_
  refine c_regd [.blk b4 _ _, .blk b2 _ _] (.q 0 (.q 1 (.q 2 (.q 3 (.q 7 (.q 8 (.q 9 (.q 10 (.alt 4 (.alt 5 (.alt 6 (.alt 11 (.alt 12 (.alt 13 (.q 14 (.alt 15 (.alt 16 .done .stop) .stop)) (.alt 15 (.alt 13 (.q 14 (.alt 16 .done .stop)) .stop) .stop)) (.alt 15 (.alt 12 (.alt 13 (.q 14 (.alt 16 .done .stop)) .stop) .stop) .stop)) (.alt 15 (.alt 11 (.alt 12 (.alt 13 (.q 14 (.alt 16 .done .stop)) .stop) .stop) .stop) .stop)) (.alt 15 (.alt 6 (.alt 11 (.alt 12 (.alt 13 (.q 14 (.alt 16 .done .stop)) .stop) .stop) .stop) .stop) .stop)) (.alt 15 (.alt 5 (.alt 6 (.alt 11 (.alt 12 (.alt 13 (.q 14 (.alt 16 .done .stop)) .stop) .stop) .stop) .stop) .stop) .stop)) (.alt 15 (.alt 4 (.alt 5 (.alt 6 (.alt 11 (.alt 12 (.alt 13 (.q 14 (.alt 16 .done .stop)) .stop) .stop) .stop) .stop) .stop) .stop) .stop)))))))))) (by kernel_rfl) (by kernel_rfl) (by kernel_rfl) (by kernel_rfl) (fun _ h => h.sb) ?_
  refine dq rfl (rd_ldsbase (us := [.int .i64 14, .int .i64 6, .int .i64 8]) A78 rfl rfl hG.pl hG.no0) rfl ?_
  refine dq rfl (rd_move rfl) rfl ?_
  refine dq rfl (rd_field F25_0 rfl) rfl ?_
  refine dq rfl (rd_ldb C22 rfl (by repeat constructor) rfl) rfl ?_
  refine dq rfl (rd_ldsbase (us := [.int .i64 10, .int .i64 9, .int .i64 64]) A78 rfl rfl hG.sh hG.no1) rfl ?_
  refine dq rfl (rd_move rfl) rfl ?_
  refine dq rfl (rd_field F25_1 rfl) rfl ?_
  refine dq rfl (rd_ldb C23 rfl (by repeat constructor) rfl) rfl ?_
  refine dx rfl rfl (ef_call rfl rfl K42 (fun _ e => by cases e; rfl) [] _ (.refl _) _ _ _ (fun w hS => by exact c42 w A n c ps (h1.hand hS (by decide)) (by omega) hS.own)) (fun _ _ _ h => h.sb) ?_ ?_
  ·rintro ⟨A2, c2, h2d, f2⟩ _
   refine d_front (.row 5 _ A1 _ c1 _) (by repeat constructor) ?_
   refine d_front (.blk br _ _) (by repeat constructor) ?_
   refine d_front (.blk b15 _ _) (by repeat constructor) ?_
   refine dx rfl rfl (ef_call rfl rfl K55 (fun _ e => by cases e; rfl) [.blk b15 _ _, .blk br _ _, .row 5 _ A1 _ c1 _] _ (.refl _) _ _ _ (fun w hS => by exact c55 w b15 br A1 nb c1 bytes 0 0 14 6 8 A2 n c2 h2d (ps.map PL.row) (RowsAt.taken hS (by repeat constructor)) (plRows_len _) (by decide) hso.1 (by omega) (by omega) hl h256 hnb hS.own)) (fun _ _ _ h => h.sb) ?_ ?_
   ·rintro ⟨a3, e3, q3, A3, c3, fp3⟩ ⟨e3', hr3, he3, hq3, ha3⟩
    have he3 : e3 = failF (decide ((q3.length : Int) ≤ 8)) 3 e3' := he3
    refine dx rfl rfl (ef_call rfl rfl K54 (fun _ e => by cases e; rfl) [] _ (.refl _) _ _ _ (fun w hS => by exact c54 w A3 q3.length c3 (q3.map (·.1)) (q3.map (·.2)) (RowsAt.ofPool (RowsAt.of hS (show rowsE f2 A2 n h2d _ ∈ _ from (by repeat constructor)) none' (fun b _ h => none'_no _ h)) hS (by repeat constructor) (by repeat constructor)) (by omega) (ReadR.len (plRows_len _) hr3 (plRows_len _)) hS.own)) (fun _ _ _ h => h.sb) ?_ ?_
    ·rintro ⟨B3, d3⟩ _
     refine dx rfl rfl (ef_call rfl rfl K44 (fun _ e => by cases e; rfl) [] _ (.refl _) _ _ _ (fun w hS => by exact c44 w B m d ss (h2.hand hS (by decide)) (by omega) hS.own)) (fun _ _ _ h => h.sb) ?_ ?_
     ·rintro ⟨A4, c4, h4d, f4⟩ _
      refine d_front (.row 5 _ A1 _ c1 _) (by repeat constructor) ?_
      refine d_front (.blk br _ _) (by repeat constructor) ?_
      refine d_front (.blk b15 _ _) (by repeat constructor) ?_
      refine dx rfl rfl (ef_call rfl rfl K55 (fun _ e => by cases e; rfl) [.blk b15 _ _, .blk br _ _, .row 5 _ A1 _ c1 _] _ (.refl _) _ _ _ (fun w hS => by exact c55 w b15 br A1 nb c1 bytes a3 e3 10 9 64 A4 m c4 h4d (ss.map SH.row) (RowsAt.taken hS (by repeat constructor)) (shRows_len _) (by decide) hso.2 (by omega) ha3 hl h256 hnb hS.own)) (fun _ _ _ h => h.sb) ?_ ?_
      ·rintro ⟨a5, e5, q5, A5, c5, fp5⟩ ⟨e5', hr5, he5, hq5, ha5⟩
       have he5 : e5 = failF (decide ((q5.length : Int) ≤ 64)) 3 e5' := he5
       refine dx rfl rfl (ef_call rfl rfl K57 (fun _ e => by cases e; rfl) [] _ (.refl _) _ _ _ (fun w hS => by exact c57 w A5 q5.length c5 (q5.map (·.1)) (q5.map (·.2)) (RowsAt.ofPool (RowsAt.of hS (show rowsE f4 A4 m h4d _ ∈ _ from (by repeat constructor)) none' (fun b _ h => none'_no _ h)) hS (by repeat constructor) (by repeat constructor)) (by omega) (ReadR.len (shRows_len _) hr5 (shRows_len _)) hS.own)) (fun _ _ _ h => h.sb) ?_ ?_
       ·rintro ⟨B5, d5⟩ _
        refine dq rfl (rd_build St25 rfl (by repeat constructor)) rfl ?_
        refine dx rfl rfl (ef_alloc Z25 rfl) (fun _ _ _ h => h.sb) ?_ d_stop
        rintro b7 hb7
        refine de rfl rfl (ef_stores A25 rfl rfl rfl (by repeat constructor) (by first | exact SetR.all rfl | repeat constructor) rfl) (fun _ h => h.sb) ?_ d_stop
        refine d_end ?_
        refine f_then ?_
        refine c_seq ?_
        refine c_reg ?_
        refine sq (rd_move rfl) rfl ?_
        refine sq (rd_move rfl) rfl ?_
        refine sq (rd_nil rfl) rfl ?_
        refine sq (rd_field F103_0 rfl) rfl ?_
        refine sq (rd_ldb C100 rfl (by repeat constructor) rfl) rfl ?_
        refine se (ef_pw rfl rfl K60 rfl (fun w hS => by exact c60 w br A1 nb c1 bytes a5 ha5 hl h256 (by omega) (hS.cell (b := br) (vs := [.slice A1 nb c1, .int .i64 ((a5 : Nat) : Int)]) (te := 153) (by repeat constructor) 0) (hS.cell (b := br) (vs := [.slice A1 nb c1, .int .i64 ((a5 : Nat) : Int)]) (te := 153) (by repeat constructor) 1) (Sl.ofRow' hS (by repeat constructor)))) rfl ?_
        refine s_front (.blk b15 _ _) (by repeat constructor) ?_
        refine sx (ef_call rfl rfl K59 (fun _ e => by cases e; rfl) [.blk b15 _ _] _ (.refl _) _ _ _ (fun w hS => by exact c59 w b15 br (restB (unp bytes) a5) 3 e5 hS.own)) rfl ?_
        rintro _ _
        refine s_end ?_
        refine f_then ?_
        refine c_seq ?_
        refine c_seq ?_
        refine c_reg ?_
        refine sq (rd_move rfl) rfl ?_
        refine sq (rd_nil rfl) rfl ?_
        refine sq (rd_field F103_1 rfl) rfl ?_
        refine sq (rd_ldb C40 rfl (by repeat constructor) rfl) rfl ?_
        refine sq (rd_neq rfl rfl) rfl ?_
        refine s_end ?_
        refine f_then ?_
        refine c_if rfl (fun h42 => ?_) (fun h42 => ?_)
        ·refine c_seq ?_
         refine c_regd [.blk b15 _ _, .blk b7 _ _, .row 54 _ B5 _ d5 _, poolE _ fp5 q5, .row 84 _ A5 _ c5 _, .blk br _ _, .row 5 _ A1 _ c1 _, rowsE _ A4 _ h4d _, .row 51 _ B3 _ d3 _, poolE _ fp3 q3, .row 84 _ A3 _ c3 _, rowsE _ A2 _ h2d _, .blk b2 _ _] (.q 0 (.q 1 (.q 2 (.q 3 (.q 4 (.alt 5 (.q 6 .done) .stop)))))) (by kernel_rfl) (by kernel_rfl) (by kernel_rfl) (by kernel_rfl) (fun _ h => h.sb) ?_
         refine dq rfl (rd_build St25 rfl (by repeat constructor)) rfl ?_
         refine dq rfl (rd_move rfl) rfl ?_
         refine dq rfl (rd_nil rfl) rfl ?_
         refine dq rfl (rd_field F103_1 rfl) rfl ?_
         refine dq rfl (rd_ldb C40 rfl (by repeat constructor) rfl) rfl ?_
         refine de rfl rfl (ef_stores A25 rfl rfl rfl (by repeat constructor) (by first | exact SetR.all rfl | repeat constructor) rfl) (fun _ h => h.sb) ?_ d_stop
         refine dq rfl (rd_assign rfl) rfl ?_
         refine d_end ?_
         refine f_then ?_
         refine c_ret ?_
         refine f_then_r ?_
         refine f_ret rfl (.cell (res_ldsb A25 rfl (by repeat constructor) (by first | exact GetR.all _ | repeat constructor)) (.tmp rfl .nil)) ?_
         exact fun w' hS => ⟨_, rfl, ([], [], (failF (restB (unp bytes) a5) 3 e5), none, 0, none, 0), rfl, .inr ⟨hR, a3, e3', q3.map (·.2), a5, e5', q5.map (·.2), hr3, by rw [List.length_map, ← he3]; exact hr5, by rw [List.length_map, ← he5], .inl ⟨h42, rfl, rfl⟩⟩, ((hS.sub (E' := []) (List.nil_sublist _)).nilrow 54 11).nilrow 51 15⟩
        ·refine c_skip ?_
         refine f_then ?_
         refine c_seq ?_
         refine c_reg ?_
         refine sq (rd_ldsb A25 rfl (by repeat constructor) (by first | exact GetR.all _ | repeat constructor)) rfl ?_
         refine se (ef_stores A25 rfl rfl rfl (by repeat constructor) (by first | exact SetR.all rfl | repeat constructor) rfl) rfl ?_
         refine sq (rd_assign rfl) rfl ?_
         refine s_end ?_
         refine f_then ?_
         refine c_ret ?_
         refine f_front (.row 54 _ B5 _ d5 _) (by repeat constructor) ?_
         refine f_front (.row 51 _ B3 _ d3 _) (by repeat constructor) ?_
         refine f_ret rfl (.cell (res_ldsb A25 rfl (by repeat constructor) (by first | exact GetR.all _ | repeat constructor)) (.tmp rfl .nil)) ?_
         have h43 : (failF (restB (unp bytes) a5) 3 e5) = 0 := by omega
         exact fun w' hS => ⟨_, rfl, ((q3.map (·.2)).map PL.of, (q5.map (·.2)).map SH.of, 0, B3, d3, B5, d5), by simp only [List.length_map]; rfl, .inr ⟨hR, a3, e3', q3.map (·.2), a5, e5', q5.map (·.2), hr3, by rw [List.length_map, ← he3]; exact hr5, by rw [List.length_map, ← he5, h43], .inr ⟨rfl, rfl, rfl⟩⟩, by (try dsimp only); simp only [List.length_map]; exact St.sub (E' := [_, _]) hS (by repeat (first | exact .refl _ | apply List.Sublist.cons_cons | apply List.Sublist.cons))⟩
       refine dx rfl rfl (ef_alloc Z25 rfl) (fun _ _ _ h => h.sb) ?_ ?_
       ·rintro b7_1 hb7_1
        refine dx rfl rfl (ef_call rfl rfl K57 (fun _ e => by cases e; rfl) [] _ (.refl _) _ _ _ (fun w hS => by exact c57 w A5 q5.length c5 (q5.map (·.1)) (q5.map (·.2)) (RowsAt.ofPool (RowsAt.of hS (show rowsE f4 A4 m h4d _ ∈ _ from (by repeat constructor)) none' (fun b _ h => none'_no _ h)) hS (by repeat constructor) (by repeat constructor)) (by omega) (ReadR.len (shRows_len _) hr5 (shRows_len _)) hS.own)) (fun _ _ _ h => h.sb) ?_ d_stop
        rintro ⟨B5, d5⟩ _
        refine dq rfl (rd_build St25 rfl (by repeat constructor)) rfl ?_
        refine de rfl rfl (ef_stores A25 rfl rfl rfl (by repeat constructor) (by first | exact SetR.all rfl | repeat constructor) rfl) (fun _ h => h.sb) ?_ d_stop
        refine d_end ?_
        refine f_then ?_
        refine c_seq ?_
        refine c_reg ?_
        refine sq (rd_move rfl) rfl ?_
        refine sq (rd_move rfl) rfl ?_
        refine sq (rd_nil rfl) rfl ?_
        refine sq (rd_field F103_0 rfl) rfl ?_
        refine sq (rd_ldb C100 rfl (by repeat constructor) rfl) rfl ?_
        refine se (ef_pw rfl rfl K60 rfl (fun w hS => by exact c60 w br A1 nb c1 bytes a5 ha5 hl h256 (by omega) (hS.cell (b := br) (vs := [.slice A1 nb c1, .int .i64 ((a5 : Nat) : Int)]) (te := 153) (by repeat constructor) 0) (hS.cell (b := br) (vs := [.slice A1 nb c1, .int .i64 ((a5 : Nat) : Int)]) (te := 153) (by repeat constructor) 1) (Sl.ofRow' hS (by repeat constructor)))) rfl ?_
        refine s_front (.blk b15 _ _) (by repeat constructor) ?_
        refine sx (ef_call rfl rfl K59 (fun _ e => by cases e; rfl) [.blk b15 _ _] _ (.refl _) _ _ _ (fun w hS => by exact c59 w b15 br (restB (unp bytes) a5) 3 e5 hS.own)) rfl ?_
        rintro _ _
        refine s_end ?_
        refine f_then ?_
        refine c_seq ?_
        refine c_seq ?_
        refine c_reg ?_
        refine sq (rd_move rfl) rfl ?_
        refine sq (rd_nil rfl) rfl ?_
        refine sq (rd_field F103_1 rfl) rfl ?_
        refine sq (rd_ldb C40 rfl (by repeat constructor) rfl) rfl ?_
        refine sq (rd_neq rfl rfl) rfl ?_
        refine s_end ?_
        refine f_then ?_
        refine c_if rfl (fun h42 => ?_) (fun h42 => ?_)
        ·refine c_seq ?_
         refine c_regd [.blk b15 _ _, .row 54 _ B5 _ d5 _, .blk b7_1 _ _, poolE _ fp5 q5, .row 84 _ A5 _ c5 _, .blk br _ _, .row 5 _ A1 _ c1 _, rowsE _ A4 _ h4d _, .row 51 _ B3 _ d3 _, poolE _ fp3 q3, .row 84 _ A3 _ c3 _, rowsE _ A2 _ h2d _, .blk b2 _ _] (.q 0 (.q 1 (.q 2 (.q 3 (.q 4 (.alt 5 (.q 6 .done) .stop)))))) (by kernel_rfl) (by kernel_rfl) (by kernel_rfl) (by kernel_rfl) (fun _ h => h.sb) ?_
         refine dq rfl (rd_build St25 rfl (by repeat constructor)) rfl ?_
         refine dq rfl (rd_move rfl) rfl ?_
         refine dq rfl (rd_nil rfl) rfl ?_
         refine dq rfl (rd_field F103_1 rfl) rfl ?_
         refine dq rfl (rd_ldb C40 rfl (by repeat constructor) rfl) rfl ?_
         refine de rfl rfl (ef_stores A25 rfl rfl rfl (by repeat constructor) (by first | exact SetR.all rfl | repeat constructor) rfl) (fun _ h => h.sb) ?_ d_stop
         refine dq rfl (rd_assign rfl) rfl ?_
         refine d_end ?_
         refine f_then ?_
         refine c_ret ?_
         refine f_then_r ?_
         refine f_ret rfl (.cell (res_ldsb A25 rfl (by repeat constructor) (by first | exact GetR.all _ | repeat constructor)) (.tmp rfl .nil)) ?_
         exact fun w' hS => ⟨_, rfl, ([], [], (failF (restB (unp bytes) a5) 3 e5), none, 0, none, 0), rfl, .inr ⟨hR, a3, e3', q3.map (·.2), a5, e5', q5.map (·.2), hr3, by rw [List.length_map, ← he3]; exact hr5, by rw [List.length_map, ← he5], .inl ⟨h42, rfl, rfl⟩⟩, ((hS.sub (E' := []) (List.nil_sublist _)).nilrow 54 11).nilrow 51 15⟩
        ·refine c_skip ?_
         refine f_then ?_
         refine c_seq ?_
         refine c_reg ?_
         refine sq (rd_ldsb A25 rfl (by repeat constructor) (by first | exact GetR.all _ | repeat constructor)) rfl ?_
         refine se (ef_stores A25 rfl rfl rfl (by repeat constructor) (by first | exact SetR.all rfl | repeat constructor) rfl) rfl ?_
         refine sq (rd_assign rfl) rfl ?_
         refine s_end ?_
         refine f_then ?_
         refine c_ret ?_
         refine f_front (.row 54 _ B5 _ d5 _) (by repeat constructor) ?_
         refine f_front (.row 51 _ B3 _ d3 _) (by repeat constructor) ?_
         refine f_ret rfl (.cell (res_ldsb A25 rfl (by repeat constructor) (by first | exact GetR.all _ | repeat constructor)) (.tmp rfl .nil)) ?_
         have h43 : (failF (restB (unp bytes) a5) 3 e5) = 0 := by omega
         exact fun w' hS => ⟨_, rfl, ((q3.map (·.2)).map PL.of, (q5.map (·.2)).map SH.of, 0, B3, d3, B5, d5), by simp only [List.length_map]; rfl, .inr ⟨hR, a3, e3', q3.map (·.2), a5, e5', q5.map (·.2), hr3, by rw [List.length_map, ← he3]; exact hr5, by rw [List.length_map, ← he5, h43], .inr ⟨rfl, rfl, rfl⟩⟩, by (try dsimp only); simp only [List.length_map]; exact St.sub (E' := [_, _]) hS (by repeat (first | exact .refl _ | apply List.Sublist.cons_cons | apply List.Sublist.cons))⟩
       exact d_stop
      refine dx rfl rfl (ef_alloc Z25 rfl) (fun _ _ _ h => h.sb) ?_ ?_
      ·rintro b7_2 hb7_2
       refine d_front (.row 5 _ A1 _ c1 _) (by repeat constructor) ?_
       refine d_front (.blk br _ _) (by repeat constructor) ?_
       refine d_front (.blk b15 _ _) (by repeat constructor) ?_
       refine dx rfl rfl (ef_call rfl rfl K55 (fun _ e => by cases e; rfl) [.blk b15 _ _, .blk br _ _, .row 5 _ A1 _ c1 _] _ (.refl _) _ _ _ (fun w hS => by exact c55 w b15 br A1 nb c1 bytes a3 e3 10 9 64 A4 m c4 h4d (ss.map SH.row) (RowsAt.taken hS (by repeat constructor)) (shRows_len _) (by decide) hso.2 (by omega) ha3 hl h256 hnb hS.own)) (fun _ _ _ h => h.sb) ?_ d_stop
       rintro ⟨a5, e5, q5, A5, c5, fp5⟩ ⟨e5', hr5, he5, hq5, ha5⟩
       have he5 : e5 = failF (decide ((q5.length : Int) ≤ 64)) 3 e5' := he5
       refine dx rfl rfl (ef_call rfl rfl K57 (fun _ e => by cases e; rfl) [] _ (.refl _) _ _ _ (fun w hS => by exact c57 w A5 q5.length c5 (q5.map (·.1)) (q5.map (·.2)) (RowsAt.ofPool (RowsAt.of hS (show rowsE f4 A4 m h4d _ ∈ _ from (by repeat constructor)) none' (fun b _ h => none'_no _ h)) hS (by repeat constructor) (by repeat constructor)) (by omega) (ReadR.len (shRows_len _) hr5 (shRows_len _)) hS.own)) (fun _ _ _ h => h.sb) ?_ d_stop
       rintro ⟨B5, d5⟩ _
       refine dq rfl (rd_build St25 rfl (by repeat constructor)) rfl ?_
       refine de rfl rfl (ef_stores A25 rfl rfl rfl (by repeat constructor) (by first | exact SetR.all rfl | repeat constructor) rfl) (fun _ h => h.sb) ?_ d_stop
       refine d_end ?_
       refine f_then ?_
       refine c_seq ?_
       refine c_reg ?_
       refine sq (rd_move rfl) rfl ?_
       refine sq (rd_move rfl) rfl ?_
       refine sq (rd_nil rfl) rfl ?_
       refine sq (rd_field F103_0 rfl) rfl ?_
       refine sq (rd_ldb C100 rfl (by repeat constructor) rfl) rfl ?_
       refine se (ef_pw rfl rfl K60 rfl (fun w hS => by exact c60 w br A1 nb c1 bytes a5 ha5 hl h256 (by omega) (hS.cell (b := br) (vs := [.slice A1 nb c1, .int .i64 ((a5 : Nat) : Int)]) (te := 153) (by repeat constructor) 0) (hS.cell (b := br) (vs := [.slice A1 nb c1, .int .i64 ((a5 : Nat) : Int)]) (te := 153) (by repeat constructor) 1) (Sl.ofRow' hS (by repeat constructor)))) rfl ?_
       refine s_front (.blk b15 _ _) (by repeat constructor) ?_
       refine sx (ef_call rfl rfl K59 (fun _ e => by cases e; rfl) [.blk b15 _ _] _ (.refl _) _ _ _ (fun w hS => by exact c59 w b15 br (restB (unp bytes) a5) 3 e5 hS.own)) rfl ?_
       rintro _ _
       refine s_end ?_
       refine f_then ?_
       refine c_seq ?_
       refine c_seq ?_
       refine c_reg ?_
       refine sq (rd_move rfl) rfl ?_
       refine sq (rd_nil rfl) rfl ?_
       refine sq (rd_field F103_1 rfl) rfl ?_
       refine sq (rd_ldb C40 rfl (by repeat constructor) rfl) rfl ?_
       refine sq (rd_neq rfl rfl) rfl ?_
       refine s_end ?_
       refine f_then ?_
       refine c_if rfl (fun h42 => ?_) (fun h42 => ?_)
       ·refine c_seq ?_
        refine c_regd [.blk b15 _ _, .row 54 _ B5 _ d5 _, poolE _ fp5 q5, .row 84 _ A5 _ c5 _, .blk br _ _, .row 5 _ A1 _ c1 _, .blk b7_2 _ _, rowsE _ A4 _ h4d _, .row 51 _ B3 _ d3 _, poolE _ fp3 q3, .row 84 _ A3 _ c3 _, rowsE _ A2 _ h2d _, .blk b2 _ _] (.q 0 (.q 1 (.q 2 (.q 3 (.q 4 (.alt 5 (.q 6 .done) .stop)))))) (by kernel_rfl) (by kernel_rfl) (by kernel_rfl) (by kernel_rfl) (fun _ h => h.sb) ?_
        refine dq rfl (rd_build St25 rfl (by repeat constructor)) rfl ?_
        refine dq rfl (rd_move rfl) rfl ?_
        refine dq rfl (rd_nil rfl) rfl ?_
        refine dq rfl (rd_field F103_1 rfl) rfl ?_
        refine dq rfl (rd_ldb C40 rfl (by repeat constructor) rfl) rfl ?_
        refine de rfl rfl (ef_stores A25 rfl rfl rfl (by repeat constructor) (by first | exact SetR.all rfl | repeat constructor) rfl) (fun _ h => h.sb) ?_ d_stop
        refine dq rfl (rd_assign rfl) rfl ?_
        refine d_end ?_
        refine f_then ?_
        refine c_ret ?_
        refine f_then_r ?_
        refine f_ret rfl (.cell (res_ldsb A25 rfl (by repeat constructor) (by first | exact GetR.all _ | repeat constructor)) (.tmp rfl .nil)) ?_
        exact fun w' hS => ⟨_, rfl, ([], [], (failF (restB (unp bytes) a5) 3 e5), none, 0, none, 0), rfl, .inr ⟨hR, a3, e3', q3.map (·.2), a5, e5', q5.map (·.2), hr3, by rw [List.length_map, ← he3]; exact hr5, by rw [List.length_map, ← he5], .inl ⟨h42, rfl, rfl⟩⟩, ((hS.sub (E' := []) (List.nil_sublist _)).nilrow 54 11).nilrow 51 15⟩
       ·refine c_skip ?_
        refine f_then ?_
        refine c_seq ?_
        refine c_reg ?_
        refine sq (rd_ldsb A25 rfl (by repeat constructor) (by first | exact GetR.all _ | repeat constructor)) rfl ?_
        refine se (ef_stores A25 rfl rfl rfl (by repeat constructor) (by first | exact SetR.all rfl | repeat constructor) rfl) rfl ?_
        refine sq (rd_assign rfl) rfl ?_
        refine s_end ?_
        refine f_then ?_
        refine c_ret ?_
        refine f_front (.row 54 _ B5 _ d5 _) (by repeat constructor) ?_
        refine f_front (.row 51 _ B3 _ d3 _) (by repeat constructor) ?_
        refine f_ret rfl (.cell (res_ldsb A25 rfl (by repeat constructor) (by first | exact GetR.all _ | repeat constructor)) (.tmp rfl .nil)) ?_
        have h43 : (failF (restB (unp bytes) a5) 3 e5) = 0 := by omega
        exact fun w' hS => ⟨_, rfl, ((q3.map (·.2)).map PL.of, (q5.map (·.2)).map SH.of, 0, B3, d3, B5, d5), by simp only [List.length_map]; rfl, .inr ⟨hR, a3, e3', q3.map (·.2), a5, e5', q5.map (·.2), hr3, by rw [List.length_map, ← he3]; exact hr5, by rw [List.length_map, ← he5, h43], .inr ⟨rfl, rfl, rfl⟩⟩, by (try dsimp only); simp only [List.length_map]; exact St.sub (E' := [_, _]) hS (by repeat (first | exact .refl _ | apply List.Sublist.cons_cons | apply List.Sublist.cons))⟩
      exact d_stop
     refine dx rfl rfl (ef_alloc Z25 rfl) (fun _ _ _ h => h.sb) ?_ ?_
     ·rintro b7_3 hb7_3
      refine dx rfl rfl (ef_call rfl rfl K44 (fun _ e => by cases e; rfl) [] _ (.refl _) _ _ _ (fun w hS => by exact c44 w B m d ss (h2.hand hS (by decide)) (by omega) hS.own)) (fun _ _ _ h => h.sb) ?_ d_stop
      rintro ⟨A4, c4, h4d, f4⟩ _
      refine d_front (.row 5 _ A1 _ c1 _) (by repeat constructor) ?_
      refine d_front (.blk br _ _) (by repeat constructor) ?_
      refine d_front (.blk b15 _ _) (by repeat constructor) ?_
      refine dx rfl rfl (ef_call rfl rfl K55 (fun _ e => by cases e; rfl) [.blk b15 _ _, .blk br _ _, .row 5 _ A1 _ c1 _] _ (.refl _) _ _ _ (fun w hS => by exact c55 w b15 br A1 nb c1 bytes a3 e3 10 9 64 A4 m c4 h4d (ss.map SH.row) (RowsAt.taken hS (by repeat constructor)) (shRows_len _) (by decide) hso.2 (by omega) ha3 hl h256 hnb hS.own)) (fun _ _ _ h => h.sb) ?_ d_stop
      rintro ⟨a5, e5, q5, A5, c5, fp5⟩ ⟨e5', hr5, he5, hq5, ha5⟩
      have he5 : e5 = failF (decide ((q5.length : Int) ≤ 64)) 3 e5' := he5
      refine dx rfl rfl (ef_call rfl rfl K57 (fun _ e => by cases e; rfl) [] _ (.refl _) _ _ _ (fun w hS => by exact c57 w A5 q5.length c5 (q5.map (·.1)) (q5.map (·.2)) (RowsAt.ofPool (RowsAt.of hS (show rowsE f4 A4 m h4d _ ∈ _ from (by repeat constructor)) none' (fun b _ h => none'_no _ h)) hS (by repeat constructor) (by repeat constructor)) (by omega) (ReadR.len (shRows_len _) hr5 (shRows_len _)) hS.own)) (fun _ _ _ h => h.sb) ?_ d_stop
      rintro ⟨B5, d5⟩ _
      refine dq rfl (rd_build St25 rfl (by repeat constructor)) rfl ?_
      refine de rfl rfl (ef_stores A25 rfl rfl rfl (by repeat constructor) (by first | exact SetR.all rfl | repeat constructor) rfl) (fun _ h => h.sb) ?_ d_stop
      refine d_end ?_
      refine f_then ?_
      refine c_seq ?_
      refine c_reg ?_
      refine sq (rd_move rfl) rfl ?_
      refine sq (rd_move rfl) rfl ?_
      refine sq (rd_nil rfl) rfl ?_
      refine sq (rd_field F103_0 rfl) rfl ?_
      refine sq (rd_ldb C100 rfl (by repeat constructor) rfl) rfl ?_
      refine se (ef_pw rfl rfl K60 rfl (fun w hS => by exact c60 w br A1 nb c1 bytes a5 ha5 hl h256 (by omega) (hS.cell (b := br) (vs := [.slice A1 nb c1, .int .i64 ((a5 : Nat) : Int)]) (te := 153) (by repeat constructor) 0) (hS.cell (b := br) (vs := [.slice A1 nb c1, .int .i64 ((a5 : Nat) : Int)]) (te := 153) (by repeat constructor) 1) (Sl.ofRow' hS (by repeat constructor)))) rfl ?_
      refine s_front (.blk b15 _ _) (by repeat constructor) ?_
      refine sx (ef_call rfl rfl K59 (fun _ e => by cases e; rfl) [.blk b15 _ _] _ (.refl _) _ _ _ (fun w hS => by exact c59 w b15 br (restB (unp bytes) a5) 3 e5 hS.own)) rfl ?_
      rintro _ _
      refine s_end ?_
      refine f_then ?_
      refine c_seq ?_
      refine c_seq ?_
      refine c_reg ?_
      refine sq (rd_move rfl) rfl ?_
      refine sq (rd_nil rfl) rfl ?_
      refine sq (rd_field F103_1 rfl) rfl ?_
      refine sq (rd_ldb C40 rfl (by repeat constructor) rfl) rfl ?_
      refine sq (rd_neq rfl rfl) rfl ?_
      refine s_end ?_
      refine f_then ?_
      refine c_if rfl (fun h42 => ?_) (fun h42 => ?_)
      ·refine c_seq ?_
       refine c_regd [.blk b15 _ _, .row 54 _ B5 _ d5 _, poolE _ fp5 q5, .row 84 _ A5 _ c5 _, .blk br _ _, .row 5 _ A1 _ c1 _, rowsE _ A4 _ h4d _, .blk b7_3 _ _, .row 51 _ B3 _ d3 _, poolE _ fp3 q3, .row 84 _ A3 _ c3 _, rowsE _ A2 _ h2d _, .blk b2 _ _] (.q 0 (.q 1 (.q 2 (.q 3 (.q 4 (.alt 5 (.q 6 .done) .stop)))))) (by kernel_rfl) (by kernel_rfl) (by kernel_rfl) (by kernel_rfl) (fun _ h => h.sb) ?_
       refine dq rfl (rd_build St25 rfl (by repeat constructor)) rfl ?_
       refine dq rfl (rd_move rfl) rfl ?_
       refine dq rfl (rd_nil rfl) rfl ?_
       refine dq rfl (rd_field F103_1 rfl) rfl ?_
       refine dq rfl (rd_ldb C40 rfl (by repeat constructor) rfl) rfl ?_
       refine de rfl rfl (ef_stores A25 rfl rfl rfl (by repeat constructor) (by first | exact SetR.all rfl | repeat constructor) rfl) (fun _ h => h.sb) ?_ d_stop
       refine dq rfl (rd_assign rfl) rfl ?_
       refine d_end ?_
       refine f_then ?_
       refine c_ret ?_
       refine f_then_r ?_
       refine f_ret rfl (.cell (res_ldsb A25 rfl (by repeat constructor) (by first | exact GetR.all _ | repeat constructor)) (.tmp rfl .nil)) ?_
       exact fun w' hS => ⟨_, rfl, ([], [], (failF (restB (unp bytes) a5) 3 e5), none, 0, none, 0), rfl, .inr ⟨hR, a3, e3', q3.map (·.2), a5, e5', q5.map (·.2), hr3, by rw [List.length_map, ← he3]; exact hr5, by rw [List.length_map, ← he5], .inl ⟨h42, rfl, rfl⟩⟩, ((hS.sub (E' := []) (List.nil_sublist _)).nilrow 54 11).nilrow 51 15⟩
      ·refine c_skip ?_
       refine f_then ?_
       refine c_seq ?_
       refine c_reg ?_
       refine sq (rd_ldsb A25 rfl (by repeat constructor) (by first | exact GetR.all _ | repeat constructor)) rfl ?_
       refine se (ef_stores A25 rfl rfl rfl (by repeat constructor) (by first | exact SetR.all rfl | repeat constructor) rfl) rfl ?_
       refine sq (rd_assign rfl) rfl ?_
       refine s_end ?_
       refine f_then ?_
       refine c_ret ?_
       refine f_front (.row 54 _ B5 _ d5 _) (by repeat constructor) ?_
       refine f_front (.row 51 _ B3 _ d3 _) (by repeat constructor) ?_
       refine f_ret rfl (.cell (res_ldsb A25 rfl (by repeat constructor) (by first | exact GetR.all _ | repeat constructor)) (.tmp rfl .nil)) ?_
       have h43 : (failF (restB (unp bytes) a5) 3 e5) = 0 := by omega
       exact fun w' hS => ⟨_, rfl, ((q3.map (·.2)).map PL.of, (q5.map (·.2)).map SH.of, 0, B3, d3, B5, d5), by simp only [List.length_map]; rfl, .inr ⟨hR, a3, e3', q3.map (·.2), a5, e5', q5.map (·.2), hr3, by rw [List.length_map, ← he3]; exact hr5, by rw [List.length_map, ← he5, h43], .inr ⟨rfl, rfl, rfl⟩⟩, by (try dsimp only); simp only [List.length_map]; exact St.sub (E' := [_, _]) hS (by repeat (first | exact .refl _ | apply List.Sublist.cons_cons | apply List.Sublist.cons))⟩
     exact d_stop
    refine dx rfl rfl (ef_alloc Z25 rfl) (fun _ _ _ h => h.sb) ?_ ?_
    ·rintro b7_4 hb7_4
     refine dx rfl rfl (ef_call rfl rfl K54 (fun _ e => by cases e; rfl) [] _ (.refl _) _ _ _ (fun w hS => by exact c54 w A3 q3.length c3 (q3.map (·.1)) (q3.map (·.2)) (RowsAt.ofPool (RowsAt.of hS (show rowsE f2 A2 n h2d _ ∈ _ from (by repeat constructor)) none' (fun b _ h => none'_no _ h)) hS (by repeat constructor) (by repeat constructor)) (by omega) (ReadR.len (plRows_len _) hr3 (plRows_len _)) hS.own)) (fun _ _ _ h => h.sb) ?_ d_stop
     rintro ⟨B3, d3⟩ _
     refine dx rfl rfl (ef_call rfl rfl K44 (fun _ e => by cases e; rfl) [] _ (.refl _) _ _ _ (fun w hS => by exact c44 w B m d ss (h2.hand hS (by decide)) (by omega) hS.own)) (fun _ _ _ h => h.sb) ?_ d_stop
     rintro ⟨A4, c4, h4d, f4⟩ _
     refine d_front (.row 5 _ A1 _ c1 _) (by repeat constructor) ?_
     refine d_front (.blk br _ _) (by repeat constructor) ?_
     refine d_front (.blk b15 _ _) (by repeat constructor) ?_
     refine dx rfl rfl (ef_call rfl rfl K55 (fun _ e => by cases e; rfl) [.blk b15 _ _, .blk br _ _, .row 5 _ A1 _ c1 _] _ (.refl _) _ _ _ (fun w hS => by exact c55 w b15 br A1 nb c1 bytes a3 e3 10 9 64 A4 m c4 h4d (ss.map SH.row) (RowsAt.taken hS (by repeat constructor)) (shRows_len _) (by decide) hso.2 (by omega) ha3 hl h256 hnb hS.own)) (fun _ _ _ h => h.sb) ?_ d_stop
     rintro ⟨a5, e5, q5, A5, c5, fp5⟩ ⟨e5', hr5, he5, hq5, ha5⟩
     have he5 : e5 = failF (decide ((q5.length : Int) ≤ 64)) 3 e5' := he5
     refine dx rfl rfl (ef_call rfl rfl K57 (fun _ e => by cases e; rfl) [] _ (.refl _) _ _ _ (fun w hS => by exact c57 w A5 q5.length c5 (q5.map (·.1)) (q5.map (·.2)) (RowsAt.ofPool (RowsAt.of hS (show rowsE f4 A4 m h4d _ ∈ _ from (by repeat constructor)) none' (fun b _ h => none'_no _ h)) hS (by repeat constructor) (by repeat constructor)) (by omega) (ReadR.len (shRows_len _) hr5 (shRows_len _)) hS.own)) (fun _ _ _ h => h.sb) ?_ d_stop
     rintro ⟨B5, d5⟩ _
     refine dq rfl (rd_build St25 rfl (by repeat constructor)) rfl ?_
     refine de rfl rfl (ef_stores A25 rfl rfl rfl (by repeat constructor) (by first | exact SetR.all rfl | repeat constructor) rfl) (fun _ h => h.sb) ?_ d_stop
     refine d_end ?_
     refine f_then ?_
     refine c_seq ?_
     refine c_reg ?_
     refine sq (rd_move rfl) rfl ?_
     refine sq (rd_move rfl) rfl ?_
     refine sq (rd_nil rfl) rfl ?_
     refine sq (rd_field F103_0 rfl) rfl ?_
     refine sq (rd_ldb C100 rfl (by repeat constructor) rfl) rfl ?_
     refine se (ef_pw rfl rfl K60 rfl (fun w hS => by exact c60 w br A1 nb c1 bytes a5 ha5 hl h256 (by omega) (hS.cell (b := br) (vs := [.slice A1 nb c1, .int .i64 ((a5 : Nat) : Int)]) (te := 153) (by repeat constructor) 0) (hS.cell (b := br) (vs := [.slice A1 nb c1, .int .i64 ((a5 : Nat) : Int)]) (te := 153) (by repeat constructor) 1) (Sl.ofRow' hS (by repeat constructor)))) rfl ?_
     refine s_front (.blk b15 _ _) (by repeat constructor) ?_
     refine sx (ef_call rfl rfl K59 (fun _ e => by cases e; rfl) [.blk b15 _ _] _ (.refl _) _ _ _ (fun w hS => by exact c59 w b15 br (restB (unp bytes) a5) 3 e5 hS.own)) rfl ?_
     rintro _ _
     refine s_end ?_
     refine f_then ?_
     refine c_seq ?_
     refine c_seq ?_
     refine c_reg ?_
     refine sq (rd_move rfl) rfl ?_
     refine sq (rd_nil rfl) rfl ?_
     refine sq (rd_field F103_1 rfl) rfl ?_
     refine sq (rd_ldb C40 rfl (by repeat constructor) rfl) rfl ?_
     refine sq (rd_neq rfl rfl) rfl ?_
     refine s_end ?_
     refine f_then ?_
     refine c_if rfl (fun h42 => ?_) (fun h42 => ?_)
     ·refine c_seq ?_
      refine c_regd [.blk b15 _ _, .row 54 _ B5 _ d5 _, poolE _ fp5 q5, .row 84 _ A5 _ c5 _, .blk br _ _, .row 5 _ A1 _ c1 _, rowsE _ A4 _ h4d _, .row 51 _ B3 _ d3 _, .blk b7_4 _ _, poolE _ fp3 q3, .row 84 _ A3 _ c3 _, rowsE _ A2 _ h2d _, .blk b2 _ _] (.q 0 (.q 1 (.q 2 (.q 3 (.q 4 (.alt 5 (.q 6 .done) .stop)))))) (by kernel_rfl) (by kernel_rfl) (by kernel_rfl) (by kernel_rfl) (fun _ h => h.sb) ?_
      refine dq rfl (rd_build St25 rfl (by repeat constructor)) rfl ?_
      refine dq rfl (rd_move rfl) rfl ?_
      refine dq rfl (rd_nil rfl) rfl ?_
      refine dq rfl (rd_field F103_1 rfl) rfl ?_
      refine dq rfl (rd_ldb C40 rfl (by repeat constructor) rfl) rfl ?_
      refine de rfl rfl (ef_stores A25 rfl rfl rfl (by repeat constructor) (by first | exact SetR.all rfl | repeat constructor) rfl) (fun _ h => h.sb) ?_ d_stop
      refine dq rfl (rd_assign rfl) rfl ?_
      refine d_end ?_
      refine f_then ?_
      refine c_ret ?_
      refine f_then_r ?_
      refine f_ret rfl (.cell (res_ldsb A25 rfl (by repeat constructor) (by first | exact GetR.all _ | repeat constructor)) (.tmp rfl .nil)) ?_
      exact fun w' hS => ⟨_, rfl, ([], [], (failF (restB (unp bytes) a5) 3 e5), none, 0, none, 0), rfl, .inr ⟨hR, a3, e3', q3.map (·.2), a5, e5', q5.map (·.2), hr3, by rw [List.length_map, ← he3]; exact hr5, by rw [List.length_map, ← he5], .inl ⟨h42, rfl, rfl⟩⟩, ((hS.sub (E' := []) (List.nil_sublist _)).nilrow 54 11).nilrow 51 15⟩
     ·refine c_skip ?_
      refine f_then ?_
      refine c_seq ?_
      refine c_reg ?_
      refine sq (rd_ldsb A25 rfl (by repeat constructor) (by first | exact GetR.all _ | repeat constructor)) rfl ?_
      refine se (ef_stores A25 rfl rfl rfl (by repeat constructor) (by first | exact SetR.all rfl | repeat constructor) rfl) rfl ?_
      refine sq (rd_assign rfl) rfl ?_
      refine s_end ?_
      refine f_then ?_
      refine c_ret ?_
      refine f_front (.row 54 _ B5 _ d5 _) (by repeat constructor) ?_
      refine f_front (.row 51 _ B3 _ d3 _) (by repeat constructor) ?_
      refine f_ret rfl (.cell (res_ldsb A25 rfl (by repeat constructor) (by first | exact GetR.all _ | repeat constructor)) (.tmp rfl .nil)) ?_
      have h43 : (failF (restB (unp bytes) a5) 3 e5) = 0 := by omega
      exact fun w' hS => ⟨_, rfl, ((q3.map (·.2)).map PL.of, (q5.map (·.2)).map SH.of, 0, B3, d3, B5, d5), by simp only [List.length_map]; rfl, .inr ⟨hR, a3, e3', q3.map (·.2), a5, e5', q5.map (·.2), hr3, by rw [List.length_map, ← he3]; exact hr5, by rw [List.length_map, ← he5, h43], .inr ⟨rfl, rfl, rfl⟩⟩, by (try dsimp only); simp only [List.length_map]; exact St.sub (E' := [_, _]) hS (by repeat (first | exact .refl _ | apply List.Sublist.cons_cons | apply List.Sublist.cons))⟩
    exact d_stop
   refine dx rfl rfl (ef_alloc Z25 rfl) (fun _ _ _ h => h.sb) ?_ ?_
   ·rintro b7_5 hb7_5
    refine d_front (.row 5 _ A1 _ c1 _) (by repeat constructor) ?_
    refine d_front (.blk br _ _) (by repeat constructor) ?_
    refine d_front (.blk b15 _ _) (by repeat constructor) ?_
    refine dx rfl rfl (ef_call rfl rfl K55 (fun _ e => by cases e; rfl) [.blk b15 _ _, .blk br _ _, .row 5 _ A1 _ c1 _] _ (.refl _) _ _ _ (fun w hS => by exact c55 w b15 br A1 nb c1 bytes 0 0 14 6 8 A2 n c2 h2d (ps.map PL.row) (RowsAt.taken hS (by repeat constructor)) (plRows_len _) (by decide) hso.1 (by omega) (by omega) hl h256 hnb hS.own)) (fun _ _ _ h => h.sb) ?_ d_stop
    rintro ⟨a3, e3, q3, A3, c3, fp3⟩ ⟨e3', hr3, he3, hq3, ha3⟩
    have he3 : e3 = failF (decide ((q3.length : Int) ≤ 8)) 3 e3' := he3
    refine dx rfl rfl (ef_call rfl rfl K54 (fun _ e => by cases e; rfl) [] _ (.refl _) _ _ _ (fun w hS => by exact c54 w A3 q3.length c3 (q3.map (·.1)) (q3.map (·.2)) (RowsAt.ofPool (RowsAt.of hS (show rowsE f2 A2 n h2d _ ∈ _ from (by repeat constructor)) none' (fun b _ h => none'_no _ h)) hS (by repeat constructor) (by repeat constructor)) (by omega) (ReadR.len (plRows_len _) hr3 (plRows_len _)) hS.own)) (fun _ _ _ h => h.sb) ?_ d_stop
    rintro ⟨B3, d3⟩ _
    refine dx rfl rfl (ef_call rfl rfl K44 (fun _ e => by cases e; rfl) [] _ (.refl _) _ _ _ (fun w hS => by exact c44 w B m d ss (h2.hand hS (by decide)) (by omega) hS.own)) (fun _ _ _ h => h.sb) ?_ d_stop
    rintro ⟨A4, c4, h4d, f4⟩ _
    refine d_front (.row 5 _ A1 _ c1 _) (by repeat constructor) ?_
    refine d_front (.blk br _ _) (by repeat constructor) ?_
    refine d_front (.blk b15 _ _) (by repeat constructor) ?_
    refine dx rfl rfl (ef_call rfl rfl K55 (fun _ e => by cases e; rfl) [.blk b15 _ _, .blk br _ _, .row 5 _ A1 _ c1 _] _ (.refl _) _ _ _ (fun w hS => by exact c55 w b15 br A1 nb c1 bytes a3 e3 10 9 64 A4 m c4 h4d (ss.map SH.row) (RowsAt.taken hS (by repeat constructor)) (shRows_len _) (by decide) hso.2 (by omega) ha3 hl h256 hnb hS.own)) (fun _ _ _ h => h.sb) ?_ d_stop
    rintro ⟨a5, e5, q5, A5, c5, fp5⟩ ⟨e5', hr5, he5, hq5, ha5⟩
    have he5 : e5 = failF (decide ((q5.length : Int) ≤ 64)) 3 e5' := he5
    refine dx rfl rfl (ef_call rfl rfl K57 (fun _ e => by cases e; rfl) [] _ (.refl _) _ _ _ (fun w hS => by exact c57 w A5 q5.length c5 (q5.map (·.1)) (q5.map (·.2)) (RowsAt.ofPool (RowsAt.of hS (show rowsE f4 A4 m h4d _ ∈ _ from (by repeat constructor)) none' (fun b _ h => none'_no _ h)) hS (by repeat constructor) (by repeat constructor)) (by omega) (ReadR.len (shRows_len _) hr5 (shRows_len _)) hS.own)) (fun _ _ _ h => h.sb) ?_ d_stop
    rintro ⟨B5, d5⟩ _
    refine dq rfl (rd_build St25 rfl (by repeat constructor)) rfl ?_
    refine de rfl rfl (ef_stores A25 rfl rfl rfl (by repeat constructor) (by first | exact SetR.all rfl | repeat constructor) rfl) (fun _ h => h.sb) ?_ d_stop
    refine d_end ?_
    refine f_then ?_
    refine c_seq ?_
    refine c_reg ?_
    refine sq (rd_move rfl) rfl ?_
    refine sq (rd_move rfl) rfl ?_
    refine sq (rd_nil rfl) rfl ?_
    refine sq (rd_field F103_0 rfl) rfl ?_
    refine sq (rd_ldb C100 rfl (by repeat constructor) rfl) rfl ?_
    refine se (ef_pw rfl rfl K60 rfl (fun w hS => by exact c60 w br A1 nb c1 bytes a5 ha5 hl h256 (by omega) (hS.cell (b := br) (vs := [.slice A1 nb c1, .int .i64 ((a5 : Nat) : Int)]) (te := 153) (by repeat constructor) 0) (hS.cell (b := br) (vs := [.slice A1 nb c1, .int .i64 ((a5 : Nat) : Int)]) (te := 153) (by repeat constructor) 1) (Sl.ofRow' hS (by repeat constructor)))) rfl ?_
    refine s_front (.blk b15 _ _) (by repeat constructor) ?_
    refine sx (ef_call rfl rfl K59 (fun _ e => by cases e; rfl) [.blk b15 _ _] _ (.refl _) _ _ _ (fun w hS => by exact c59 w b15 br (restB (unp bytes) a5) 3 e5 hS.own)) rfl ?_
    rintro _ _
    refine s_end ?_
    refine f_then ?_
    refine c_seq ?_
    refine c_seq ?_
    refine c_reg ?_
    refine sq (rd_move rfl) rfl ?_
    refine sq (rd_nil rfl) rfl ?_
    refine sq (rd_field F103_1 rfl) rfl ?_
    refine sq (rd_ldb C40 rfl (by repeat constructor) rfl) rfl ?_
    refine sq (rd_neq rfl rfl) rfl ?_
    refine s_end ?_
    refine f_then ?_
    refine c_if rfl (fun h42 => ?_) (fun h42 => ?_)
    ·refine c_seq ?_
     refine c_regd [.blk b15 _ _, .row 54 _ B5 _ d5 _, poolE _ fp5 q5, .row 84 _ A5 _ c5 _, .blk br _ _, .row 5 _ A1 _ c1 _, rowsE _ A4 _ h4d _, .row 51 _ B3 _ d3 _, poolE _ fp3 q3, .row 84 _ A3 _ c3 _, .blk b7_5 _ _, rowsE _ A2 _ h2d _, .blk b2 _ _] (.q 0 (.q 1 (.q 2 (.q 3 (.q 4 (.alt 5 (.q 6 .done) .stop)))))) (by kernel_rfl) (by kernel_rfl) (by kernel_rfl) (by kernel_rfl) (fun _ h => h.sb) ?_
     refine dq rfl (rd_build St25 rfl (by repeat constructor)) rfl ?_
     refine dq rfl (rd_move rfl) rfl ?_
     refine dq rfl (rd_nil rfl) rfl ?_
     refine dq rfl (rd_field F103_1 rfl) rfl ?_
     refine dq rfl (rd_ldb C40 rfl (by repeat constructor) rfl) rfl ?_
     refine de rfl rfl (ef_stores A25 rfl rfl rfl (by repeat constructor) (by first | exact SetR.all rfl | repeat constructor) rfl) (fun _ h => h.sb) ?_ d_stop
     refine dq rfl (rd_assign rfl) rfl ?_
     refine d_end ?_
     refine f_then ?_
     refine c_ret ?_
     refine f_then_r ?_
     refine f_ret rfl (.cell (res_ldsb A25 rfl (by repeat constructor) (by first | exact GetR.all _ | repeat constructor)) (.tmp rfl .nil)) ?_
     exact fun w' hS => ⟨_, rfl, ([], [], (failF (restB (unp bytes) a5) 3 e5), none, 0, none, 0), rfl, .inr ⟨hR, a3, e3', q3.map (·.2), a5, e5', q5.map (·.2), hr3, by rw [List.length_map, ← he3]; exact hr5, by rw [List.length_map, ← he5], .inl ⟨h42, rfl, rfl⟩⟩, ((hS.sub (E' := []) (List.nil_sublist _)).nilrow 54 11).nilrow 51 15⟩
    ·refine c_skip ?_
     refine f_then ?_
     refine c_seq ?_
     refine c_reg ?_
     refine sq (rd_ldsb A25 rfl (by repeat constructor) (by first | exact GetR.all _ | repeat constructor)) rfl ?_
     refine se (ef_stores A25 rfl rfl rfl (by repeat constructor) (by first | exact SetR.all rfl | repeat constructor) rfl) rfl ?_
     refine sq (rd_assign rfl) rfl ?_
     refine s_end ?_
     refine f_then ?_
     refine c_ret ?_
     refine f_front (.row 54 _ B5 _ d5 _) (by repeat constructor) ?_
     refine f_front (.row 51 _ B3 _ d3 _) (by repeat constructor) ?_
     refine f_ret rfl (.cell (res_ldsb A25 rfl (by repeat constructor) (by first | exact GetR.all _ | repeat constructor)) (.tmp rfl .nil)) ?_
     have h43 : (failF (restB (unp bytes) a5) 3 e5) = 0 := by omega
     exact fun w' hS => ⟨_, rfl, ((q3.map (·.2)).map PL.of, (q5.map (·.2)).map SH.of, 0, B3, d3, B5, d5), by simp only [List.length_map]; rfl, .inr ⟨hR, a3, e3', q3.map (·.2), a5, e5', q5.map (·.2), hr3, by rw [List.length_map, ← he3]; exact hr5, by rw [List.length_map, ← he5, h43], .inr ⟨rfl, rfl, rfl⟩⟩, by (try dsimp only); simp only [List.length_map]; exact St.sub (E' := [_, _]) hS (by repeat (first | exact .refl _ | apply List.Sublist.cons_cons | apply List.Sublist.cons))⟩
   exact d_stop
  refine dx rfl rfl (ef_alloc Z25 rfl) (fun _ _ _ h => h.sb) ?_ ?_
  ·rintro b7_6 hb7_6
   refine dx rfl rfl (ef_call rfl rfl K42 (fun _ e => by cases e; rfl) [] _ (.refl _) _ _ _ (fun w hS => by exact c42 w A n c ps (h1.hand hS (by decide)) (by omega) hS.own)) (fun _ _ _ h => h.sb) ?_ d_stop
   rintro ⟨A2, c2, h2d, f2⟩ _
   refine d_front (.row 5 _ A1 _ c1 _) (by repeat constructor) ?_
   refine d_front (.blk br _ _) (by repeat constructor) ?_
   refine d_front (.blk b15 _ _) (by repeat constructor) ?_
   refine dx rfl rfl (ef_call rfl rfl K55 (fun _ e => by cases e; rfl) [.blk b15 _ _, .blk br _ _, .row 5 _ A1 _ c1 _] _ (.refl _) _ _ _ (fun w hS => by exact c55 w b15 br A1 nb c1 bytes 0 0 14 6 8 A2 n c2 h2d (ps.map PL.row) (RowsAt.taken hS (by repeat constructor)) (plRows_len _) (by decide) hso.1 (by omega) (by omega) hl h256 hnb hS.own)) (fun _ _ _ h => h.sb) ?_ d_stop
   rintro ⟨a3, e3, q3, A3, c3, fp3⟩ ⟨e3', hr3, he3, hq3, ha3⟩
   have he3 : e3 = failF (decide ((q3.length : Int) ≤ 8)) 3 e3' := he3
   refine dx rfl rfl (ef_call rfl rfl K54 (fun _ e => by cases e; rfl) [] _ (.refl _) _ _ _ (fun w hS => by exact c54 w A3 q3.length c3 (q3.map (·.1)) (q3.map (·.2)) (RowsAt.ofPool (RowsAt.of hS (show rowsE f2 A2 n h2d _ ∈ _ from (by repeat constructor)) none' (fun b _ h => none'_no _ h)) hS (by repeat constructor) (by repeat constructor)) (by omega) (ReadR.len (plRows_len _) hr3 (plRows_len _)) hS.own)) (fun _ _ _ h => h.sb) ?_ d_stop
   rintro ⟨B3, d3⟩ _
   refine dx rfl rfl (ef_call rfl rfl K44 (fun _ e => by cases e; rfl) [] _ (.refl _) _ _ _ (fun w hS => by exact c44 w B m d ss (h2.hand hS (by decide)) (by omega) hS.own)) (fun _ _ _ h => h.sb) ?_ d_stop
   rintro ⟨A4, c4, h4d, f4⟩ _
   refine d_front (.row 5 _ A1 _ c1 _) (by repeat constructor) ?_
   refine d_front (.blk br _ _) (by repeat constructor) ?_
   refine d_front (.blk b15 _ _) (by repeat constructor) ?_
   refine dx rfl rfl (ef_call rfl rfl K55 (fun _ e => by cases e; rfl) [.blk b15 _ _, .blk br _ _, .row 5 _ A1 _ c1 _] _ (.refl _) _ _ _ (fun w hS => by exact c55 w b15 br A1 nb c1 bytes a3 e3 10 9 64 A4 m c4 h4d (ss.map SH.row) (RowsAt.taken hS (by repeat constructor)) (shRows_len _) (by decide) hso.2 (by omega) ha3 hl h256 hnb hS.own)) (fun _ _ _ h => h.sb) ?_ d_stop
   rintro ⟨a5, e5, q5, A5, c5, fp5⟩ ⟨e5', hr5, he5, hq5, ha5⟩
   have he5 : e5 = failF (decide ((q5.length : Int) ≤ 64)) 3 e5' := he5
   refine dx rfl rfl (ef_call rfl rfl K57 (fun _ e => by cases e; rfl) [] _ (.refl _) _ _ _ (fun w hS => by exact c57 w A5 q5.length c5 (q5.map (·.1)) (q5.map (·.2)) (RowsAt.ofPool (RowsAt.of hS (show rowsE f4 A4 m h4d _ ∈ _ from (by repeat constructor)) none' (fun b _ h => none'_no _ h)) hS (by repeat constructor) (by repeat constructor)) (by omega) (ReadR.len (shRows_len _) hr5 (shRows_len _)) hS.own)) (fun _ _ _ h => h.sb) ?_ d_stop
   rintro ⟨B5, d5⟩ _
   refine dq rfl (rd_build St25 rfl (by repeat constructor)) rfl ?_
   refine de rfl rfl (ef_stores A25 rfl rfl rfl (by repeat constructor) (by first | exact SetR.all rfl | repeat constructor) rfl) (fun _ h => h.sb) ?_ d_stop
   refine d_end ?_
   refine f_then ?_
   refine c_seq ?_
   refine c_reg ?_
   refine sq (rd_move rfl) rfl ?_
   refine sq (rd_move rfl) rfl ?_
   refine sq (rd_nil rfl) rfl ?_
   refine sq (rd_field F103_0 rfl) rfl ?_
   refine sq (rd_ldb C100 rfl (by repeat constructor) rfl) rfl ?_
   refine se (ef_pw rfl rfl K60 rfl (fun w hS => by exact c60 w br A1 nb c1 bytes a5 ha5 hl h256 (by omega) (hS.cell (b := br) (vs := [.slice A1 nb c1, .int .i64 ((a5 : Nat) : Int)]) (te := 153) (by repeat constructor) 0) (hS.cell (b := br) (vs := [.slice A1 nb c1, .int .i64 ((a5 : Nat) : Int)]) (te := 153) (by repeat constructor) 1) (Sl.ofRow' hS (by repeat constructor)))) rfl ?_
   refine s_front (.blk b15 _ _) (by repeat constructor) ?_
   refine sx (ef_call rfl rfl K59 (fun _ e => by cases e; rfl) [.blk b15 _ _] _ (.refl _) _ _ _ (fun w hS => by exact c59 w b15 br (restB (unp bytes) a5) 3 e5 hS.own)) rfl ?_
   rintro _ _
   refine s_end ?_
   refine f_then ?_
   refine c_seq ?_
   refine c_seq ?_
   refine c_reg ?_
   refine sq (rd_move rfl) rfl ?_
   refine sq (rd_nil rfl) rfl ?_
   refine sq (rd_field F103_1 rfl) rfl ?_
   refine sq (rd_ldb C40 rfl (by repeat constructor) rfl) rfl ?_
   refine sq (rd_neq rfl rfl) rfl ?_
   refine s_end ?_
   refine f_then ?_
   refine c_if rfl (fun h42 => ?_) (fun h42 => ?_)
   ·refine c_seq ?_
    refine c_regd [.blk b15 _ _, .row 54 _ B5 _ d5 _, poolE _ fp5 q5, .row 84 _ A5 _ c5 _, .blk br _ _, .row 5 _ A1 _ c1 _, rowsE _ A4 _ h4d _, .row 51 _ B3 _ d3 _, poolE _ fp3 q3, .row 84 _ A3 _ c3 _, rowsE _ A2 _ h2d _, .blk b7_6 _ _, .blk b2 _ _] (.q 0 (.q 1 (.q 2 (.q 3 (.q 4 (.alt 5 (.q 6 .done) .stop)))))) (by kernel_rfl) (by kernel_rfl) (by kernel_rfl) (by kernel_rfl) (fun _ h => h.sb) ?_
    refine dq rfl (rd_build St25 rfl (by repeat constructor)) rfl ?_
    refine dq rfl (rd_move rfl) rfl ?_
    refine dq rfl (rd_nil rfl) rfl ?_
    refine dq rfl (rd_field F103_1 rfl) rfl ?_
    refine dq rfl (rd_ldb C40 rfl (by repeat constructor) rfl) rfl ?_
    refine de rfl rfl (ef_stores A25 rfl rfl rfl (by repeat constructor) (by first | exact SetR.all rfl | repeat constructor) rfl) (fun _ h => h.sb) ?_ d_stop
    refine dq rfl (rd_assign rfl) rfl ?_
    refine d_end ?_
    refine f_then ?_
    refine c_ret ?_
    refine f_then_r ?_
    refine f_ret rfl (.cell (res_ldsb A25 rfl (by repeat constructor) (by first | exact GetR.all _ | repeat constructor)) (.tmp rfl .nil)) ?_
    exact fun w' hS => ⟨_, rfl, ([], [], (failF (restB (unp bytes) a5) 3 e5), none, 0, none, 0), rfl, .inr ⟨hR, a3, e3', q3.map (·.2), a5, e5', q5.map (·.2), hr3, by rw [List.length_map, ← he3]; exact hr5, by rw [List.length_map, ← he5], .inl ⟨h42, rfl, rfl⟩⟩, ((hS.sub (E' := []) (List.nil_sublist _)).nilrow 54 11).nilrow 51 15⟩
   ·refine c_skip ?_
    refine f_then ?_
    refine c_seq ?_
    refine c_reg ?_
    refine sq (rd_ldsb A25 rfl (by repeat constructor) (by first | exact GetR.all _ | repeat constructor)) rfl ?_
    refine se (ef_stores A25 rfl rfl rfl (by repeat constructor) (by first | exact SetR.all rfl | repeat constructor) rfl) rfl ?_
    refine sq (rd_assign rfl) rfl ?_
    refine s_end ?_
    refine f_then ?_
    refine c_ret ?_
    refine f_front (.row 54 _ B5 _ d5 _) (by repeat constructor) ?_
    refine f_front (.row 51 _ B3 _ d3 _) (by repeat constructor) ?_
    refine f_ret rfl (.cell (res_ldsb A25 rfl (by repeat constructor) (by first | exact GetR.all _ | repeat constructor)) (.tmp rfl .nil)) ?_
    have h43 : (failF (restB (unp bytes) a5) 3 e5) = 0 := by omega
    exact fun w' hS => ⟨_, rfl, ((q3.map (·.2)).map PL.of, (q5.map (·.2)).map SH.of, 0, B3, d3, B5, d5), by simp only [List.length_map]; rfl, .inr ⟨hR, a3, e3', q3.map (·.2), a5, e5', q5.map (·.2), hr3, by rw [List.length_map, ← he3]; exact hr5, by rw [List.length_map, ← he5, h43], .inr ⟨rfl, rfl, rfl⟩⟩, by (try dsimp only); simp only [List.length_map]; exact St.sub (E' := [_, _]) hS (by repeat (first | exact .refl _ | apply List.Sublist.cons_cons | apply List.Sublist.cons))⟩
  exact d_stop

end Go.Proofs.YtfccnoccfhgcbaaGreatDoor
namespace Go.Proofs.YtfccnoccfhgcbaaGreatDoor
open Go Go.RowKit

def lk (rs : List RW) (id : Int) : Option RW := rs.find? fun r => decide (r.1 = id)
def Rise (rs : List RW) : Prop := rs.Pairwise fun r s => r.1 < s.1
theorem lk_nil (id : Int) : lk [] id = none := rfl
theorem lk_cons (r : RW) (rs : List RW) (id : Int) : lk (r :: rs) id = if r.1 = id then some r else lk rs id := by
 unfold lk
 rw [List.find?_cons]
 by_cases h : r.1 = id
 ·simp [h]
 ·simp [h]
theorem lk_some {rs : List RW} {id : Int} {r : RW} (h : lk rs id = some r) : r ∈ rs ∧ r.1 = id := ⟨List.mem_of_find?_eq_some h, by have := List.find?_some h; simpa using this⟩
theorem lk_out {rs : List RW} {id : Int} (h : ∀ r ∈ rs, r.1 ≠ id) : lk rs id = none := by
 unfold lk
 rw [List.find?_eq_none]
 intro r hr
 simpa using h r hr
theorem lk_in {rs : List RW} {id : Int} {r : RW} (hr : r ∈ rs) (h : r.1 = id) : ∃ s, lk rs id = some s := by
 cases hs : lk rs id with
 | some s => exact ⟨s, rfl⟩
 | none =>
  unfold lk at hs
  rw [List.find?_eq_none] at hs
  exact absurd h (by simpa using hs r hr)
theorem lk_mem {rs : List RW} (h : Rise rs) {r : RW} (hr : r ∈ rs) : lk rs r.1 = some r := by
 induction rs with
 | nil => cases hr
 | cons s rs ih =>
  rw [lk_cons]
  rcases List.mem_cons.1 hr with rfl | hr
  ·rw [if_pos rfl]
  ·have := (List.pairwise_cons.1 h).1 r hr
   rw [if_neg (by omega)]
   exact ih (List.pairwise_cons.1 h).2 hr
theorem rise_ext : ∀ {r1 r2 : List RW}, Rise r1 → Rise r2 → (∀ id, lk r1 id = lk r2 id) → r1 = r2
 | [], [], _, _, _ => rfl
 | [], s :: ss, _, _, h => by
  have := h s.1
  rw [lk_nil, lk_cons, if_pos rfl] at this
  cases this
 | r :: rs, [], _, _, h => by
  have := h r.1
  rw [lk_nil, lk_cons, if_pos rfl] at this
  cases this
 | r :: rs, s :: ss, h1, h2, h => by
  have k1 := List.pairwise_cons.1 h1
  have k2 := List.pairwise_cons.1 h2
  have e : r = s := by
   have a1 := h r.1
   rw [lk_cons, if_pos rfl, lk_cons] at a1
   by_cases c : s.1 = r.1
   ·rw [if_pos c] at a1
    exact Option.some.inj a1
   ·rw [if_neg c] at a1
    have a2 := k2.1 r (lk_some a1.symm).1
    have a3 := h s.1
    rw [lk_cons, if_neg (by omega), lk_cons, if_pos rfl] at a3
    have a4 := k1.1 s (lk_some a3).1
    omega
  subst e
  congr 1
  refine rise_ext k1.2 k2.2 fun id => ?_
  have a := h id
  rw [lk_cons, lk_cons] at a
  by_cases c : r.1 = id
  ·rw [lk_out fun x hx => by have := k1.1 x hx; omega, lk_out fun x hx => by have := k2.1 x hx; omega]
  ·rwa [if_neg c, if_neg c] at a
theorem lk_filter (rs : List RW) (i id : Int) : lk (rs.filter fun r => !decide (r.1 = i)) id = if id = i then none else lk rs id := by
 induction rs with
 | nil => simp [lk]
 | cons r rs ih =>
  by_cases c : r.1 = i
  ·rw [List.filter_cons_of_neg (by simp [c]), ih, lk_cons]
   by_cases d : id = i
   ·simp [d]
   ·rw [if_neg d, if_neg d, if_neg (by omega)]
  ·rw [List.filter_cons_of_pos (by simp [c]), lk_cons, lk_cons, ih]
   by_cases d : id = i
   ·subst d
    simp [c]
   ·simp [d]
theorem rise_filter {rs : List RW} (h : Rise rs) (q : RW → Bool) : Rise (rs.filter q) := h.sublist List.filter_sublist
theorem putR_nil (r : RW) : putR [] r = [r] := rfl
theorem putR_cons (s : RW) (rs : List RW) (r : RW) : putR (s :: rs) r = if s.1 < r.1 then s :: putR rs r else if s.1 = r.1 then r :: rs else r :: s :: rs := by
 unfold putR thereR lbR
 by_cases c : s.1 < r.1
 ·rw [if_pos c]
  simp only [List.findIdx_cons, c, decide_true, Bool.not_true, cond_false, List.getElem?_cons_succ]
  split
  ·split <;> simp_all
  ·simp
 ·rw [if_neg c]
  simp only [List.findIdx_cons, c, decide_false, Bool.not_false, cond_true, List.getElem?_cons_zero]
  by_cases d : s.1 = r.1
  ·simp [d]
  ·simp [d]
theorem putR_mem {rs : List RW} {r t : RW} (h : t ∈ putR rs r) : t ∈ rs ∨ t = r := by
 induction rs with
 | nil => rw [putR_nil] at h; exact .inr (by simpa using h)
 | cons s rs ih =>
  rw [putR_cons] at h
  split at h
  ·rcases List.mem_cons.1 h with rfl | h
   ·exact .inl (List.mem_cons_self ..)
   ·exact (ih h).imp (List.mem_cons_of_mem _) id
  ·split at h
   ·rcases List.mem_cons.1 h with rfl | h
    ·exact .inr rfl
    ·exact .inl (List.mem_cons_of_mem _ h)
   ·rcases List.mem_cons.1 h with rfl | h
    ·exact .inr rfl
    ·exact .inl h
theorem rise_put {rs : List RW} (h : Rise rs) (r : RW) : Rise (putR rs r) := by
 induction rs with
 | nil => rw [putR_nil]; exact List.pairwise_singleton ..
 | cons s rs ih =>
  have k := List.pairwise_cons.1 h
  rw [putR_cons]
  split
  ·refine List.pairwise_cons.2 ⟨fun t ht => ?_, ih k.2⟩
   rcases putR_mem ht with ht | rfl
   ·exact k.1 t ht
   ·assumption
  ·split
   ·exact List.pairwise_cons.2 ⟨fun t ht => by have := k.1 t ht; omega, k.2⟩
   ·refine List.pairwise_cons.2 ⟨fun t ht => ?_, h⟩
    rcases List.mem_cons.1 ht with rfl | ht
    ·omega
    ·have := k.1 t ht; omega
theorem lk_put {rs : List RW} (h : Rise rs) (r : RW) (id : Int) : lk (putR rs r) id = if r.1 = id then some r else lk rs id := by
 induction rs with
 | nil => rw [putR_nil, lk_cons]
 | cons s rs ih =>
  have k := List.pairwise_cons.1 h
  rw [putR_cons]
  split
  ·rw [lk_cons, ih k.2, lk_cons]
   by_cases c : r.1 = id
   ·rw [if_neg (by omega), if_pos c, if_pos c]
   ·rw [if_neg c, if_neg c]
  ·split
   ·rw [lk_cons, lk_cons]
    by_cases c : r.1 = id
    ·rw [if_pos c, if_pos c]
    ·rw [if_neg c, if_neg c, if_neg (by omega)]
   ·rw [lk_cons]
theorem hasR_lk (rs : List RW) (id : Int) : hasR rs id = (lk rs id).isSome := rfl
theorem fndR_lk (nf : Nat) (rs : List RW) (id : Int) : fndR nf rs id = match lk rs id with
 | some r => r.2
 | none => List.replicate nf 0 := rfl

/-! ### Numbers and bits -/
theorem nbits_succ (n k : Nat) : nbits n (k + 1) = nbits (n / 2) k ++ [decide (n % 2 = 1)] := by
 unfold nbits
 rw [List.range_succ, List.map_append]
 congr 1
 ·refine List.map_congr_left fun i hi => ?_
  have : i < k := List.mem_range.1 hi
  rw [← Nat.testBit_succ]
  congr 1
  omega
 ·simp [Nat.testBit_zero]
theorem numB_nbits (n k : Nat) : numB (nbits n k) = n % 2 ^ k := by
 induction k generalizing n with
 | zero => simp [nbits, numB]; omega
 | succ k ih =>
  rw [nbits_succ, numB_snoc, ih, Nat.pow_succ, Nat.mul_comm (2 ^ k) 2, Nat.mod_mul]
  have : (decide (n % 2 = 1)).toNat = n % 2 := by
   rcases Nat.mod_two_eq_zero_or_one n with h | h <;> simp [h]
  omega
theorem nbits_numB (l : List Bool) : nbits (numB l) l.length = l := by
 generalize hk : l.length = k
 induction k generalizing l with
 | zero => rw [List.length_eq_zero_iff.1 hk]; rfl
 | succ k ih =>
  have hne : l ≠ [] := by intro h; rw [h] at hk; cases hk
  obtain ⟨l', b, rfl⟩ : ∃ l' b, l = l' ++ [b] := ⟨l.dropLast, l.getLast hne, (List.dropLast_concat_getLast hne).symm⟩
  have h1 := ih l' (by simp at hk; exact hk)
  rw [nbits_succ, numB_snoc]
  have hb : b.toNat = 0 ∧ b = false ∨ b.toNat = 1 ∧ b = true := by cases b <;> simp
  have e : (2 * numB l' + b.toNat) / 2 = numB l' := by omega
  rw [e, h1]
  congr 2
  rcases hb with ⟨h2, rfl⟩ | ⟨h2, rfl⟩
  ·simp
  ·simp [h2]; try omega
theorem nbits_inj {l : List Bool} {n k : Nat} (hl : l.length = k) (hn : numB l = n) : l = nbits n k := by
 subst hl hn
 exact (nbits_numB l).symm
theorem sbits31 {x : Int} (h0 : 0 ≤ x) (h1 : x ≤ 2147483647) : ((numB (sbits x 31) : Nat) : Int) = x := by
 unfold sbits
 rw [numB_nbits, wrap_u64 ⟨h0, by omega⟩]
 omega
theorem sbits32 {x : Int} (h : wideB x = false) : sgn 32 (numB (sbits x 32)) = x := by
 unfold wideB at h
 rw [Bool.or_eq_false_iff, decide_eq_false_iff_not, decide_eq_false_iff_not] at h
 unfold sbits sgn
 rw [numB_nbits, IntKind.wrap_u64]
 split <;> omega
theorem numB_one (b : Bool) : numB [b] = b.toNat := by cases b <;> rfl
/-- What stands there is read. -/
theorem rd_num {B X S : List Bool} {a k : Nat} (h : B.drop a = X ++ S) (hk : X.length = k) (h0 : 0 < k) : getB B a k = numB X ∧ okB B a k = true ∧ toB B a k = a + k ∧ B.drop (a + k) = S := by
 subst hk
 have hl := congrArg List.length h
 rw [List.length_drop, List.length_append] at hl
 have hle : a + X.length ≤ B.length := by omega
 refine ⟨?_, decide_eq_true hle, if_pos hle, ?_⟩
 ·unfold getB
  rw [if_pos hle, h, List.take_left]
 ·rw [← List.drop_drop, h, List.drop_left]
theorem rd_bit {B S : List Bool} {a : Nat} {b : Bool} (h : B.drop a = b :: S) : moreV B a 0 = b ∧ okB B a 1 = true ∧ toB B a 1 = a + 1 ∧ B.drop (a + 1) = S := by
 obtain ⟨h1, h2, h3, h4⟩ := rd_num (k := 1) (X := [b]) (S := S) h rfl Nat.one_pos
 refine ⟨?_, h2, h3, h4⟩
 unfold moreV failF
 rw [h1, h2, numB_one]
 cases b <;> simp
theorem failF_ok (e1 e : Int) : failF true e1 e = e := by simp [failF]
theorem failF_no {q : Bool} {e1 e : Int} (he : e ≠ 0) : failF q e1 e = e := by simp [failF, he]
/-- What a section of a state keeps: fields that fit, a flag. -/
def RowsOk (nf : Nat) (fl : Int) (rs : List RW) : Prop := ∀ r ∈ rs, r.2.length = nf ∧ (∀ x ∈ r.2, wideB x = false) ∧ ∀ k : Nat, (k : Int) = fl → r.2.getD k 0 = 0 ∨ r.2.getD k 0 = 1
theorem fndR_ok {nf : Nat} {fl : Int} {rs : List RW} (h : RowsOk nf fl rs) (id : Int) : (fndR nf rs id).length = nf ∧ (∀ x ∈ fndR nf rs id, wideB x = false) ∧ ∀ k : Nat, (k : Int) = fl → (fndR nf rs id).getD k 0 = 0 ∨ (fndR nf rs id).getD k 0 = 1 := by
 rw [fndR_lk]
 cases hr : lk rs id with
 | some r => exact h r (lk_some hr).1
 | none =>
  refine ⟨by simp, fun x hx => by rw [List.eq_of_mem_replicate hx]; rfl, fun k _ => .inl ?_⟩
  simp only [List.getD_eq_getElem?_getD, List.getElem?_replicate]
  split <;> rfl
theorem wide_getD {l : List Int} (h : ∀ x ∈ l, wideB x = false) (k : Nat) : wideB (l.getD k 0) = false := by
 rw [List.getD_eq_getElem?_getD]
 cases hx : l[k]? with
 | none => rfl
 | some x => exact h x (List.mem_of_getElem? hx)
theorem set_getD (l : List Int) (k i : Nat) (v : Int) (hk : k < l.length) : (l.set k v).getD i 0 = if i = k then v else l.getD i 0 := by
 simp only [List.getD_eq_getElem?_getD, List.getElem?_set]
 by_cases c : k = i
 ·subst c; simp [hk]
 ·rw [if_neg c, if_neg (by omega)]
theorem getD_ext {l m : List Int} (hl : l.length = m.length) (h : ∀ i, i < m.length → l.getD i 0 = m.getD i 0) : l = m := by
 refine List.ext_getElem hl fun i h1 h2 => ?_
 have := h i h2
 rw [List.getD_eq_getElem?_getD, List.getD_eq_getElem?_getD, List.getElem?_eq_getElem h1, List.getElem?_eq_getElem h2] at this
 exact this
end Go.Proofs.YtfccnoccfhgcbaaGreatDoor
namespace Go.Proofs.YtfccnoccfhgcbaaGreatDoor
open Go Go.RowKit

/-! ### All IDs -/
theorem compact_ok (l : List Int) (h : l.Pairwise (· ≤ ·)) : (compactL l).Pairwise (· < ·) ∧ ∀ y, y ∈ compactL l ↔ y ∈ l := by
 generalize hk : l.length = k
 induction k generalizing l with
 | zero => rw [List.length_eq_zero_iff.1 hk]; exact ⟨.nil, fun y => Iff.rfl⟩
 | succ k ih =>
  have hne : l ≠ [] := by intro h; rw [h] at hk; cases hk
  obtain ⟨l', x, rfl⟩ : ∃ l' x, l = l' ++ [x] := ⟨l.dropLast, l.getLast hne, (List.dropLast_concat_getLast hne).symm⟩
  obtain ⟨h1, h2, h3⟩ := List.pairwise_append.1 h
  obtain ⟨k1, k2⟩ := ih l' h1 (by simp at hk; exact hk)
  have e : compactL (l' ++ [x]) = cstep (compactL l') x := by simp [compactL]
  rw [e]
  unfold cstep
  split
  ·rename_i hx
   have hx := (k2 x).1 (List.mem_of_getLast? hx)
   refine ⟨k1, fun y => ?_⟩
   rw [k2, List.mem_append, List.mem_singleton]
   exact ⟨.inl, fun h => h.elim id fun h => by rw [h]; exact hx⟩
  ·rename_i hx
   refine ⟨List.pairwise_append.2 ⟨k1, List.pairwise_singleton .., fun y hy z hz => ?_⟩, fun y => ?_⟩
   ·rw [List.mem_singleton.1 hz]
    have hle := h3 y ((k2 y).1 hy) x (by simp)
    rcases Int.lt_or_eq_of_le hle with h | h
    ·exact h
    ·subst h
     refine absurd ?_ hx
     have hn2 : compactL l' ≠ [] := fun h => by rw [h] at hy; cases hy
     have hd := List.dropLast_concat_getLast hn2
     rw [← hd] at k1 hy
     rcases List.mem_append.1 hy with hy | hy
     ·have a1 := (List.pairwise_append.1 k1).2.2 y hy _ (List.mem_singleton.2 rfl)
      have a2 := h3 _ ((k2 _).1 (List.getLast_mem hn2)) y (by simp)
      omega
     ·rw [List.getLast?_eq_some_getLast hn2, ← List.mem_singleton.1 hy]
   ·rw [List.mem_append, List.mem_append, k2]
theorem idsL_ok (rb rn : List RW) : (idsL rb rn).Pairwise (· < ·) ∧ ∀ y, y ∈ idsL rb rn ↔ (∃ r ∈ rb, r.1 = y) ∨ ∃ r ∈ rn, r.1 = y := by
 have h : (sortI ((rb ++ rn).map (·.1))).Pairwise (· ≤ ·) := by
  have := List.pairwise_mergeSort (le := fun x y : Int => !Sort.ltInt y x) (fun a b c => by simp only [Sort.ltInt, Bool.not_eq_true', decide_eq_false_iff_not]; omega) (fun a b => by simp only [Sort.ltInt, Bool.or_eq_true, Bool.not_eq_true', decide_eq_false_iff_not]; omega) ((rb ++ rn).map (·.1))
  exact this.imp fun {a b} h => by simp only [Sort.ltInt, Bool.not_eq_true', decide_eq_false_iff_not] at h; omega
 obtain ⟨h1, h2⟩ := compact_ok _ h
 refine ⟨h1, fun y => ?_⟩
 unfold idsL
 rw [h2]
 unfold sortI
 rw [List.mem_mergeSort, List.mem_map]
 constructor
 ·rintro ⟨r, hr, e⟩
  rcases List.mem_append.1 hr with hr | hr
  ·exact .inl ⟨r, hr, e⟩
  ·exact .inr ⟨r, hr, e⟩
 ·rintro (⟨r, hr, e⟩ | ⟨r, hr, e⟩)
  ·exact ⟨r, List.mem_append_left _ hr, e⟩
  ·exact ⟨r, List.mem_append_right _ hr, e⟩

/-! ### Fields -/
theorem fieldB_same {fl : Int} {was is : List Int} {k : Nat} (c : is.getD k 0 = was.getD k 0) : fieldB fl was is k = [false] := by
 unfold fieldB
 rw [decide_eq_false (fun h => h c), if_neg (fun h => h.1 c)]
theorem fieldB_flag {fl : Int} {was is : List Int} {k : Nat} (c : ¬ is.getD k 0 = was.getD k 0) (cf : (k : Int) = fl) : fieldB fl was is k = [true] := by
 unfold fieldB
 rw [decide_eq_true c, if_neg (fun h => h.2 cf)]
theorem fieldB_wide {fl : Int} {was is : List Int} {k : Nat} (c : ¬ is.getD k 0 = was.getD k 0) (cf : ¬ (k : Int) = fl) : fieldB fl was is k = true :: sbits (is.getD k 0) 32 := by
 unfold fieldB
 rw [decide_eq_true c, if_pos ⟨c, cf⟩]
theorem chgF_fwd {B : List Bool} {fl : Int} {was is : List Int} {a : Nat} {so0 : Bool} (hl : is.length = was.length) (hw : ∀ x ∈ is, wideB x = false) (f1 : ∀ k : Nat, (k : Int) = fl → was.getD k 0 = 0 ∨ was.getD k 0 = 1) (f2 : ∀ k : Nat, (k : Int) = fl → is.getD k 0 = 0 ∨ is.getD k 0 = 1) :
  ∀ k, k ≤ was.length → ∀ S, B.drop a = fieldsB fl was is k ++ S → (chgF B fl k ⟨a, 0, so0, was⟩).a = a + (fieldsB fl was is k).length ∧ B.drop (chgF B fl k ⟨a, 0, so0, was⟩).a = S ∧ (chgF B fl k ⟨a, 0, so0, was⟩).e = 0 ∧ (chgF B fl k ⟨a, 0, so0, was⟩).fs.length = was.length ∧
   (∀ i, (chgF B fl k ⟨a, 0, so0, was⟩).fs.getD i 0 = if i < k then is.getD i 0 else was.getD i 0) ∧ ((chgF B fl k ⟨a, 0, so0, was⟩).so = true ↔ so0 = true ∨ ∃ i, i < k ∧ is.getD i 0 ≠ was.getD i 0) := by
 intro k
 induction k with
 | zero => intro _ S h; exact ⟨rfl, (by simpa [fieldsB] using h : B.drop a = S), rfl, rfl, fun i => rfl, by simp [chgF]⟩
 | succ k ih =>
  intro hk S h
  rw [fieldsB_succ, List.append_assoc] at h
  obtain ⟨i1, i2, i3, i4, i5, i6⟩ := ih (by omega) _ h
  rw [chgF_succ, fieldsB_succ, List.length_append]
  generalize chgF B fl k ⟨a, 0, so0, was⟩ = s at *
  obtain ⟨sa, se, sso, sfs⟩ := s
  dsimp only at *
  subst i3
  have hgk : sfs.getD k 0 = was.getD k 0 := by rw [i5, if_neg (by omega)]
  by_cases c : is.getD k 0 = was.getD k 0
  ·have ef := fieldB_same (fl := fl) c
   rw [ef] at i2
   obtain ⟨b1, b2, b3, b4⟩ := rd_bit i2
   unfold chgStep
   dsimp only
   rw [if_pos b1, b2, b3, failF_ok, ef]
   refine ⟨by simp only [List.length_cons, List.length_nil]; omega, b4, rfl, i4, fun i => ?_, ?_⟩
   ·rw [i5]
    by_cases ci : i = k
    ·subst ci; rw [if_neg (by omega), if_pos (by omega), c]
    ·by_cases cj : i < k
     ·rw [if_pos cj, if_pos (by omega)]
     ·rw [if_neg cj, if_neg (by omega)]
   ·dsimp only
    rw [i6]
    refine or_congr Iff.rfl ⟨fun ⟨i, h1, h2⟩ => ⟨i, by omega, h2⟩, fun ⟨i, h1, h2⟩ => ⟨i, ?_, h2⟩⟩
    rcases Nat.lt_or_ge i k with h | h
    ·exact h
    ·exact absurd c (by rw [show k = i from by omega]; exact h2)
  ·have hfs : ∀ v, v = is.getD k 0 → ∀ i, (sfs.set k v).getD i 0 = if i < k + 1 then is.getD i 0 else was.getD i 0 := fun v hv i => by
    rw [set_getD _ _ _ _ (by omega), i5, hv]
    by_cases ci : i = k
    ·subst ci; rw [if_pos rfl, if_pos (by omega)]
    ·rw [if_neg ci]
     by_cases cj : i < k
     ·rw [if_pos cj, if_pos (by omega)]
     ·rw [if_neg cj, if_neg (by omega)]
   by_cases cf : (k : Int) = fl
   ·have ef := fieldB_flag c cf
    rw [ef] at i2
    obtain ⟨b1, b2, b3, b4⟩ := rd_bit i2
    unfold chgStep
    dsimp only
    rw [if_neg (by rw [b1]; decide), if_pos cf, b2, b3, failF_ok, ef]
    have hv : IntKind.i64.wrap (1 - sfs.getD k 0) = is.getD k 0 := by
     rw [hgk, IntKind.wrap_i64]
     rcases f1 k cf with h1 | h1 <;> rcases f2 k cf with h2 | h2 <;> first | exact absurd (h2.trans h1.symm) c | (rw [h1, h2]; rfl)
    refine ⟨by simp only [List.length_cons, List.length_nil]; omega, b4, rfl, by simp [i4], hfs _ hv, ?_⟩
    exact ⟨fun _ => .inr ⟨k, by omega, c⟩, fun _ => rfl⟩
   ·have ef := fieldB_wide c cf
    rw [ef, List.cons_append] at i2
    obtain ⟨b1, b2, b3, b4⟩ := rd_bit i2
    obtain ⟨d1, d2, d3, d4⟩ := rd_num (k := 32) b4 (sbits_len _ 32) (by decide)
    unfold chgStep
    dsimp only
    have hv : sgn 32 (getB B (sa + 1) 32) = is.getD k 0 := by rw [d1, sbits32 (wide_getD hw k)]
    rw [if_neg (by rw [b1]; decide), if_neg cf, b2, b3, failF_ok, hv, hgk, d2, d3, decide_eq_true c, failF_ok, failF_ok, ef]
    refine ⟨by simp only [List.length_append, List.length_cons, List.length_nil, sbits_len]; omega, d4, rfl, by simp [i4], hfs _ rfl, ?_⟩
    exact ⟨fun _ => .inr ⟨k, by omega, c⟩, fun _ => rfl⟩

/-! ### Entries -/
theorem lk_same {nf : Nat} {rb rn : List RW} {id : Int} (h : hasR rb id = hasR rn id ∧ fndR nf rb id = fndR nf rn id) : lk rb id = lk rn id := by
 rw [hasR_lk, hasR_lk, fndR_lk, fndR_lk] at h
 cases hb : lk rb id with
 | none => cases hn : lk rn id with
  | none => rfl
  | some r => rw [hb, hn] at h; cases h.1
 | some s => cases hn : lk rn id with
  | none => rw [hb, hn] at h; cases h.1
  | some r =>
   rw [hb, hn] at h
   have e1 := (lk_some hb).2
   have e2 := (lk_some hn).2
   have e3 : s.2 = r.2 := h.2
   rw [show s = r from Prod.ext (e1.trans e2.symm) e3]
theorem lk_has {nf : Nat} {rn : List RW} {id : Int} (h : hasR rn id = true) : lk rn id = some (id, fndR nf rn id) := by
 rw [hasR_lk] at h
 rw [fndR_lk]
 cases hn : lk rn id with
 | none => rw [hn] at h; cases h
 | some r => have := (lk_some hn).2; rw [← this]
theorem lk_hasnt {rn : List RW} {id : Int} (h : hasR rn id = false) : lk rn id = none := by
 rw [hasR_lk] at h
 cases hn : lk rn id with
 | none => rfl
 | some r => rw [hn] at h; cases h
theorem entsB_cons (nf : Nat) (fl : Int) (rb rn : List RW) (id : Int) (l : List Int) : entsB nf fl rb rn (id :: l) = entB nf fl rb rn id ++ entsB nf fl rb rn l := by simp [entsB]
theorem read_fwd {B : List Bool} {nf : Nat} {fl : Int} {rb rn : List RW} (hb : RowsOk nf fl rb) (hn : RowsOk nf fl rn) (hrn : Rise rn) (S : List Bool) : ∀ (l : List Int) (last : Int) (rs : List RW) (a a' : Nat), l.Pairwise (· < ·) → (∀ id ∈ l, last < id ∧ id ≤ 2147483647) → 0 ≤ last → Rise rs →
  (∀ id, lk rs id = if id ∈ l then lk rb id else lk rn id) → B.drop a = entsB nf fl rb rn l ++ false :: S → a' = a + (entsB nf fl rb rn l).length + 1 → ReadR B nf fl rb a 0 last rs a' 0 rn
 | [], last, rs, a, a', _, _, _, hr, hlk, hB, ha => by
  have e : rs = rn := rise_ext hr hrn fun id => by have := hlk id; rwa [if_neg (by simp)] at this
  obtain ⟨b1, b2, b3, b4⟩ := rd_bit (b := false) (S := S) (by simpa [entsB] using hB)
  have := ReadR.stop (B := B) (nf := nf) (fl := fl) (rb := rb) (a := a) (e := 0) (last := last) (rs := rs) b1
  rw [b2, b3, failF_ok] at this
  rw [ha, ← e]
  exact this
 | id :: l, last, rs, a, a', hp, hi, h0, hr, hlk, hB, ha => by
  have hp' := List.pairwise_cons.1 hp
  have hid := hi id (List.mem_cons_self ..)
  have hnl : id ∉ l := fun h => by have := hp'.1 id h; omega
  rw [entsB_cons, List.append_assoc] at hB
  rw [entsB_cons, List.length_append] at ha
  by_cases same : hasR rb id = hasR rn id ∧ fndR nf rb id = fndR nf rn id
  ·have e : entB nf fl rb rn id = [] := if_pos same
   rw [e] at hB ha
   refine read_fwd hb hn hrn S l last rs a a' hp'.2 (fun i h => hi i (List.mem_cons_of_mem _ h)) h0 hr (fun i => ?_) hB (by simp at ha; omega)
   rw [hlk]
   by_cases c : i = id
   ·subst c; rw [if_pos (List.mem_cons_self ..), if_neg hnl, lk_same same]
   ·simp [c]
  ·have e : entB nf fl rb rn id = true :: (sbits id 31 ++ ((!hasR rn id) :: if hasR rn id = true then fieldsB fl (fndR nf rb id) (fndR nf rn id) nf else [])) := by
    unfold entB; rw [if_neg same]; simp
   rw [e] at hB ha
   rw [List.cons_append, List.append_assoc, List.cons_append] at hB
   obtain ⟨b1, b2, b3, b4⟩ := rd_bit hB
   obtain ⟨d1, d2, d3, d4⟩ := rd_num (k := 31) b4 (sbits_len _ 31) (by decide)
   obtain ⟨f1, f2, f3, f4⟩ := rd_bit d4
   have hId : idOf B a = id := by unfold idOf; rw [b3, d1, sbits31 (by omega) hid.2]
   have hAft : aft B a = a + 1 + 31 := by unfold aft; rw [b3, d3]
   have hErr : err3 B a 0 last = 0 := by unfold err3; rw [hId, b3, b2, d2, decide_eq_true hid.1, failF_ok, failF_ok, failF_ok]
   simp only [List.length_append, List.length_cons, sbits_len] at ha
   have hlast : ∀ i ∈ l, id < i ∧ i ≤ 2147483647 := fun i h => ⟨hp'.1 i h, (hi i (List.mem_cons_of_mem _ h)).2⟩
   cases hh : hasR rn id with
   | false =>
    rw [hh] at f1 f4 ha
    have hrb : hasR rb id = true := by
     cases hq : hasR rb id with
     | true => rfl
     | false =>
      refine absurd ⟨by rw [hq, hh], ?_⟩ same
      rw [fndR_lk, fndR_lk, lk_hasnt hq, lk_hasnt hh]
    refine ReadR.gone b1 (by rw [hAft, hErr]; exact f1) ?_
    rw [hId, hAft, hErr, f3, f2, hrb, failF_ok, failF_ok]
    refine read_fwd hb hn hrn S l id _ _ a' hp'.2 hlast (by omega) (rise_filter hr _) (fun i => ?_) f4 (by simp at ha; omega)
    rw [lk_filter, hlk]
    by_cases c : i = id
    ·subst c; rw [if_pos rfl, if_neg hnl, lk_hasnt hh]
    ·simp [c]
   | true =>
    rw [hh] at f1 f4 ha
    obtain ⟨o1, o2, o3⟩ := fndR_ok hb id
    obtain ⟨p1, p2, p3⟩ := fndR_ok hn id
    obtain ⟨g1, g2, g3, g4, g5, g6⟩ := chgF_fwd (B := B) (fl := fl) (was := fndR nf rb id) (is := fndR nf rn id) (a := a + 1 + 31 + 1) (so0 := false) (by rw [o1, p1]) p2 o3 p3 nf (by omega) _ f4
    have hC : chgOf B nf fl rb a 0 last = chgF B fl nf ⟨a + 1 + 31 + 1, 0, false, fndR nf rb id⟩ := by
     unfold chgOf; rw [hId, hAft, hErr, f3, f2, failF_ok]
    have hfs : (chgF B fl nf ⟨a + 1 + 31 + 1, 0, false, fndR nf rb id⟩).fs = fndR nf rn id := getD_ext (by omega) fun i hi => by rw [g5, if_pos (by omega)]
    refine ReadR.made b1 (by rw [hAft, hErr]; exact f1) ?_
    rw [hC, hId, hfs, g3, g1]
    have hso : ((chgF B fl nf ⟨a + 1 + 31 + 1, 0, false, fndR nf rb id⟩).so || !hasR rb id) = true := by
     cases hq : hasR rb id with
     | false => simp
     | true =>
      rw [g6.2 (.inr ?_)]
      ·rfl
      refine Classical.byContradiction fun hno => same ⟨by rw [hq, hh], getD_ext (by omega) fun i hi => ?_⟩
      exact Classical.byContradiction fun hne => hno ⟨i, by omega, fun he => hne he.symm⟩
    rw [hso, failF_ok]
    refine read_fwd hb hn hrn S l id _ _ a' hp'.2 hlast (by omega) (rise_put hr _) (fun i => ?_) (by rw [← g1]; exact g2) (by simp at ha; omega)
    rw [lk_put hr, hlk]
    by_cases c : i = id
    ·subst c; rw [if_pos rfl, if_neg hnl, lk_has hh]
    ·have c' : ¬ id = i := fun h => c h.symm
     simp [c, c']
/-- Reading gives one answer. -/
theorem ReadR.uniq {B : List Bool} {nf : Nat} {fl : Int} {rb : List RW} {a : Nat} {e last : Int} {rs : List RW} {a1 : Nat} {e1 : Int} {r1 : List RW} (h1 : ReadR B nf fl rb a e last rs a1 e1 r1) : ∀ {a2 : Nat} {e2 : Int} {r2 : List RW}, ReadR B nf fl rb a e last rs a2 e2 r2 → a1 = a2 ∧ e1 = e2 ∧ r1 = r2 := by
 induction h1 with
 | stop h =>
  intro a2 e2 r2 h2
  cases h2 with
  | stop _ => exact ⟨rfl, rfl, rfl⟩
  | gone k _ _ => rw [h] at k; cases k
  | made k _ _ => rw [h] at k; cases k
 | gone h h' _ ih =>
  intro a2 e2 r2 h2
  cases h2 with
  | stop k => rw [h] at k; cases k
  | gone _ _ k => exact ih k
  | made _ k _ => rw [h'] at k; cases k
 | made h h' _ ih =>
  intro a2 e2 r2 h2
  cases h2 with
  | stop k => rw [h] at k; cases k
  | gone _ k _ => rw [h'] at k; cases k
  | made _ _ k => exact ih k
/-- A section. -/
theorem read_sec {B : List Bool} {nf : Nat} {fl : Int} {rb rn : List RW} (hb : RowsOk nf fl rb) (hn : RowsOk nf fl rn) (hrb : Rise rb) (hrn : Rise rn) (ib : ∀ r ∈ rb, 0 < r.1 ∧ r.1 ≤ 2147483647) (in_ : ∀ r ∈ rn, 0 < r.1 ∧ r.1 ≤ 2147483647) {a : Nat} {S : List Bool} (hB : B.drop a = writeB nf fl rb rn ++ S) :
  ReadR B nf fl rb a 0 0 rb (a + (writeB nf fl rb rn).length) 0 rn := by
 obtain ⟨h1, h2⟩ := idsL_ok rb rn
 unfold writeB at hB ⊢
 rw [List.append_assoc] at hB
 refine read_fwd hb hn hrn S (idsL rb rn) 0 rb a _ h1 (fun id hid => ?_) (Int.le_refl 0) hrb (fun id => ?_) hB (by simp; omega)
 ·rcases (h2 id).1 hid with ⟨r, hr, rfl⟩ | ⟨r, hr, rfl⟩
  ·exact ib r hr
  ·exact in_ r hr
 ·by_cases c : id ∈ idsL rb rn
  ·rw [if_pos c]
  ·rw [if_neg c, lk_out fun r hr he => c ((h2 id).2 (.inl ⟨r, hr, he⟩)), lk_out fun r hr he => c ((h2 id).2 (.inr ⟨r, hr, he⟩))]
end Go.Proofs.YtfccnoccfhgcbaaGreatDoor
namespace Go.Proofs.YtfccnoccfhgcbaaGreatDoor
open Go Go.RowKit

theorem oct_bits (f : Nat → Bool) : nbits (oct f) 8 = [f 0, f 1, f 2, f 3, f 4, f 5, f 6, f 7] := by
 refine (nbits_inj (k := 8) rfl ?_).symm
 show 2 * (2 * (2 * (2 * (2 * (2 * (2 * (2 * 0 + (f 0).toNat) + (f 1).toNat) + (f 2).toNat) + (f 3).toNat) + (f 4).toNat) + (f 5).toNat) + (f 6).toNat) + (f 7).toNat = _
 unfold oct
 omega
theorem unp_pack (bs : List Bool) : ∃ z, z < 8 ∧ unp (pack bs) = bs ++ List.replicate z false := by
 obtain ⟨m, hm⟩ : ∃ m, m = (bs.length + 7) / 8 := ⟨_, rfl⟩
 refine ⟨m * 8 - bs.length, by omega, List.ext_getElem? fun i => ?_⟩
 by_cases hi : i < m * 8
 ·have h1 : (pack bs)[i / 8]? = some (octAt bs (i / 8)) := packN_get (by omega)
  rw [unp_get _ _ _ h1]
  have h2 := nbits_get (n := octAt bs (i / 8)) (m := 8) (k := i % 8) (by omega)
  unfold octAt at h2
  rw [oct_bits] at h2
  have h3 : (octAt bs (i / 8)).testBit (7 - i % 8) = bs.getD i false := by
   have hr : i % 8 < 8 := by omega
   have e : ∀ j, [bs.getD (8 * (i / 8) + 0) false, bs.getD (8 * (i / 8) + 1) false, bs.getD (8 * (i / 8) + 2) false, bs.getD (8 * (i / 8) + 3) false, bs.getD (8 * (i / 8) + 4) false, bs.getD (8 * (i / 8) + 5) false, bs.getD (8 * (i / 8) + 6) false, bs.getD (8 * (i / 8) + 7) false][j]? = if j < 8 then some (bs.getD (8 * (i / 8) + j) false) else none := fun j => by
    match j with
    | 0 | 1 | 2 | 3 | 4 | 5 | 6 | 7 => rfl
    | j + 8 => simp
   rw [e, if_pos hr, show 8 * (i / 8) + i % 8 = i from by omega, show 8 - 1 - i % 8 = 7 - i % 8 from by omega] at h2
   exact (Option.some.inj h2).symm
  rw [h3]
  by_cases hb : i < bs.length
  ·rw [List.getElem?_append_left hb, List.getD_eq_getElem?_getD, List.getElem?_eq_getElem hb]
   rfl
  ·rw [List.getElem?_append_right (by omega), List.getElem?_replicate, if_pos (by omega), List.getD_eq_getElem?_getD, List.getElem?_eq_none (by omega)]
   rfl
 ·rw [List.getElem?_eq_none (by rw [unp_len, pack_len]; omega), List.getElem?_eq_none (by simp; omega)]
theorem PL.of_row (p : PL) : PL.of p.row = p := by
 obtain ⟨id, px, py, pz, vx, vy, vz, gr, he, ar, sc, a0, a1, wa, de⟩ := p
 cases gr <;> rfl
theorem SH.of_row (s : SH) : SH.of s.row = s := by
 obtain ⟨id, ow, ki, px, py, pz, vx, vy, vz, fu, re⟩ := s
 cases re <;> rfl
theorem PL.of_rows (ps : List PL) : (ps.map PL.row).map PL.of = ps := by
 induction ps with
 | nil => rfl
 | cons p ps ih => simp only [List.map_cons, ih, PL.of_row]
theorem SH.of_rows (ps : List SH) : (ps.map SH.row).map SH.of = ps := by
 induction ps with
 | nil => rfl
 | cons p ps ih => simp only [List.map_cons, ih, SH.of_row]
theorem good_all : ∀ {rs : List RW} {last : Int}, goodRows last rs = true → ∀ r ∈ rs, last < r.1 ∧ r.1 ≤ 2147483647 ∧ ∀ x ∈ r.2, wideB x = false
 | [], _, _, _, h => by cases h
 | r :: rs, last, h, s, hs => by
  simp only [goodRows, Bool.and_eq_true, Bool.not_eq_true', Bool.or_eq_false_iff, decide_eq_false_iff_not] at h
  obtain ⟨⟨⟨h1, h2⟩, h3⟩, h4⟩ := h
  rcases List.mem_cons.1 hs with rfl | hs
  ·refine ⟨by omega, by omega, fun x hx => ?_⟩
   rw [List.any_eq_false] at h3
   simpa using h3 x hx
  ·have := good_all h4 s hs
   exact ⟨by omega, this.2⟩
theorem flg01 (q : Bool) : flg q = 0 ∨ flg q = 1 := by cases q <;> simp [flg]
/-- What a right state keeps. -/
structure SecOk (nf : Nat) (fl most : Int) (rs : List RW) : Prop where
 ok : RowsOk nf fl rs
 rise : Rise rs
 ids : ∀ r ∈ rs, 0 < r.1 ∧ r.1 ≤ 2147483647
 few : (rs.length : Int) ≤ most
theorem rightB_sec {nf : Nat} {fl most : Int} {rs : List RW} (h : rightB most rs = true) (hl : ∀ r ∈ rs, r.2.length = nf) (hf : ∀ r ∈ rs, ∀ k : Nat, (k : Int) = fl → r.2.getD k 0 = 0 ∨ r.2.getD k 0 = 1) : SecOk nf fl most rs := by
 have hr := rightB_rising h
 unfold rightB at h
 rw [Bool.and_eq_true, decide_eq_true_eq] at h
 have hg := good_all h.1
 exact ⟨fun r k => ⟨hl r k, (hg r k).2.2, hf r k⟩, hr, fun r k => ⟨(hg r k).1, (hg r k).2.1⟩, h.2⟩
theorem right_pl {ps : List PL} {ss : List SH} (h : rightS ps ss = true) : SecOk 14 6 8 (ps.map PL.row) := by
 unfold rightS at h
 rw [Bool.and_eq_true] at h
 refine rightB_sec h.1 (plRows_len ps) fun r hr k hk => ?_
 obtain ⟨p, _, rfl⟩ := List.mem_map.1 hr
 rw [show k = 6 from by omega]
 exact flg01 p.gr
theorem right_sh {ps : List PL} {ss : List SH} (h : rightS ps ss = true) : SecOk 10 9 64 (ss.map SH.row) := by
 unfold rightS at h
 rw [Bool.and_eq_true] at h
 refine rightB_sec h.2 (shRows_len ss) fun r hr k hk => ?_
 obtain ⟨p, _, rfl⟩ := List.mem_map.1 hr
 rw [show k = 9 from by omega]
 exact flg01 p.re
theorem read_sec' {B : List Bool} {nf : Nat} {fl most : Int} {rb rn : List RW} (hb : SecOk nf fl most rb) (hn : SecOk nf fl most rn) {a : Nat} {S : List Bool} (hB : B.drop a = writeB nf fl rb rn ++ S) : ReadR B nf fl rb a 0 0 rb (a + (writeB nf fl rb rn).length) 0 rn :=
 read_sec hb.ok hn.ok hb.rise hn.rise hb.ids hn.ids hB
/-- A change, and whatever stands behind it. -/
theorem apply_fwd {ps qs qs' : List PL} {ss ts ts' : List SH} {bytes : List Nat} {err : Int} {S : List Bool} (h1 : rightS ps ss = true) (h2 : rightS qs ts = true) (hB : unp bytes = deltaB ps ss qs ts ++ S) (h : ApplyR ps ss bytes qs' ts' err) :
  err = failF (restB (unp bytes) (deltaB ps ss qs ts).length) 3 0 ∧ (err = 0 → qs' = qs ∧ ts' = ts) := by
 rcases h with ⟨h, _⟩ | ⟨_, a1, e1, r1, a2, e2, r2, k1, k2, k3, k4⟩
 ·rw [h1] at h; cases h
 unfold deltaB at hB
 rw [List.append_assoc] at hB
 have p1 := read_sec' (right_pl h1) (right_pl h2) (B := unp bytes) (a := 0) hB
 obtain ⟨rfl, rfl, rfl⟩ := k1.uniq p1
 have f1 : failF (decide (((qs.map PL.row).length : Int) ≤ 8)) 3 0 = 0 := by rw [decide_eq_true (right_pl h2).few, failF_ok]
 rw [f1] at k2
 have p2 := read_sec' (right_sh h1) (right_sh h2) (B := unp bytes) (a := 0 + (writeB 14 6 (ps.map PL.row) (qs.map PL.row)).length) (S := S) (by rw [hB, Nat.zero_add, List.drop_left])
 obtain ⟨rfl, rfl, rfl⟩ := k2.uniq p2
 rw [decide_eq_true (right_sh h2).few, failF_ok] at k3
 refine ⟨?_, fun he => ?_⟩
 ·rw [k3]
  unfold deltaB
  rw [List.length_append, Nat.zero_add]
 ·rcases k4 with ⟨k, _⟩ | ⟨_, k5, k6⟩
  ·exact absurd he k
  ·rw [k5, k6, PL.of_rows, SH.of_rows]
   exact ⟨rfl, rfl⟩
/-- Of a change comes what was to come. -/
theorem apply_delta {ps qs qs' : List PL} {ss ts ts' : List SH} {err : Int} (h1 : rightS ps ss = true) (h2 : rightS qs ts = true) (h : ApplyR ps ss (deltaL ps ss qs ts) qs' ts' err) : err = 0 ∧ qs' = qs ∧ ts' = ts := by
 rw [deltaL_yes h1 h2] at h
 obtain ⟨z, hz, hB⟩ := unp_pack (deltaB ps ss qs ts)
 obtain ⟨k1, k2⟩ := apply_fwd h1 h2 hB h
 have hr : restB (unp (pack (deltaB ps ss qs ts))) (deltaB ps ss qs ts).length = true := by
  unfold restB
  rw [hB, List.drop_left, List.length_append, List.length_replicate, decide_eq_true (by omega)]
  simp
 rw [hr, failF_ok] at k1
 exact ⟨k1, k2 k1⟩
/-- What is there twice, is left. -/
theorem entsB_self (nf : Nat) (fl : Int) (rb : List RW) (l : List Int) : entsB nf fl rb rb l = [] := by
 induction l with
 | nil => rfl
 | cons id l ih => rw [entsB_cons, ih]; unfold entB; rw [if_pos ⟨rfl, rfl⟩]; rfl
theorem deltaB_self (ps : List PL) (ss : List SH) : deltaB ps ss ps ss = [false, false] := by
 unfold deltaB writeB
 rw [entsB_self, entsB_self]
 rfl
theorem deltaL_self {ps : List PL} {ss : List SH} (h : rightS ps ss = true) : deltaL ps ss ps ss = [0] := by
 rw [deltaL_yes h h, deltaB_self]
 rfl
theorem deltaL_pos {ps qs : List PL} {ss ts : List SH} (h1 : rightS ps ss = true) (h2 : rightS qs ts = true) : 0 < (deltaL ps ss qs ts).length := by
 rw [deltaL_yes h1 h2, pack_len]
 unfold deltaB writeB
 simp
 omega
theorem deltaL_lt {ps qs : List PL} {ss ts : List SH} : ∀ x ∈ deltaL ps ss qs ts, x < 256 := by
 intro x hx
 unfold deltaL at hx
 split at hx
 ·obtain ⟨i, _, rfl⟩ := List.mem_map.1 hx
  exact oct_lt _
 ·cases hx
theorem deltaL_le (ps qs : List PL) (ss ts : List SH) : (deltaL ps ss qs ts).length ≤ 10000 := by
 unfold deltaL
 split
 ·rename_i h
  have a1 := (right_pl h.1).few
  have a2 := (right_sh h.1).few
  have a3 := (right_pl h.2).few
  have a4 := (right_sh h.2).few
  have b1 := writeB_len 14 6 (ps.map PL.row) (qs.map PL.row)
  have b2 := writeB_len 10 9 (ss.map SH.row) (ts.map SH.row)
  rw [pack_len]
  unfold deltaB
  rw [List.length_append]
  simp only [List.length_map] at *
  omega
 ·decide
/-- Unlike states have unlike changes. -/
theorem deltaL_inj {ps qs us : List PL} {ss ts vs : List SH} (h1 : rightS ps ss = true) (h2 : rightS qs ts = true) (h3 : rightS us vs = true) (h : deltaL ps ss qs ts = deltaL ps ss us vs) : qs = us ∧ ts = vs := by
 have hex : ∀ qs ts, rightS qs ts = true → ApplyR ps ss (deltaL ps ss qs ts) qs ts 0 := fun qs ts h2 => by
  obtain ⟨z, hz, hB⟩ := unp_pack (deltaB ps ss qs ts)
  rw [deltaL_yes h1 h2]
  have hB2 := hB
  unfold deltaB at hB2
  rw [List.append_assoc] at hB2
  have p1 := read_sec' (right_pl h1) (right_pl h2) (B := unp (pack (deltaB ps ss qs ts))) (a := 0) hB2
  have p2 := read_sec' (right_sh h1) (right_sh h2) (B := unp (pack (deltaB ps ss qs ts))) (a := 0 + (writeB 14 6 (ps.map PL.row) (qs.map PL.row)).length) (S := List.replicate z false) (by rw [show unp (pack (deltaB ps ss qs ts)) = _ from hB2, Nat.zero_add, List.drop_left])
  have f1 : failF (decide (((qs.map PL.row).length : Int) ≤ 8)) 3 0 = 0 := by rw [decide_eq_true (right_pl h2).few, failF_ok]
  have f2 : failF (decide (((ts.map SH.row).length : Int) ≤ 64)) 3 0 = 0 := by rw [decide_eq_true (right_sh h2).few, failF_ok]
  refine .inr ⟨h1, _, _, _, _, _, _, p1, by rw [f1]; exact p2, ?_, .inr ⟨rfl, (PL.of_rows _).symm, (SH.of_rows _).symm⟩⟩
  have hr : restB (unp (pack (deltaB ps ss qs ts))) (0 + (writeB 14 6 (ps.map PL.row) (qs.map PL.row)).length + (writeB 10 9 (ss.map SH.row) (ts.map SH.row)).length) = true := by
   rw [show 0 + (writeB 14 6 (ps.map PL.row) (qs.map PL.row)).length + (writeB 10 9 (ss.map SH.row) (ts.map SH.row)).length = (deltaB ps ss qs ts).length from by unfold deltaB; rw [List.length_append, Nat.zero_add]]
   unfold restB
   rw [hB, List.drop_left, List.length_append, List.length_replicate, decide_eq_true (by omega)]
   simp
  rw [hr, f2, failF_ok]
 have k := hex us vs h3
 rw [← h] at k
 have := apply_delta h1 h2 k
 exact ⟨this.2.1.symm, this.2.2.symm⟩
end Go.Proofs.YtfccnoccfhgcbaaGreatDoor
namespace Go.Proofs.YtfccnoccfhgcbaaGreatDoor
open Go Go.RowKit

def P1 : PL := ⟨1, 0, 0, 0, 0, 0, 0, false, 100, 0, 0, 0, 0, 0, 0⟩
def P2 : PL := ⟨2, 851968, 0, 0, 0, 0, 0, false, 0, 0, 0, 0, 0, 0, 0⟩
def S5 : SH := ⟨5, 1, 0, 6488064, 0, 0, 0, 0, 0, 0, false⟩
theorem right12 : rightS [P1, P2] [S5] = true := by decide
theorem right00 : rightS [] [] = true := by decide
theorem far21 : farOf 851968 0 0 P1 = 851968 := by decide +kernel
theorem far12 : farOf 0 0 0 P2 = 851968 := by decide +kernel
theorem far52 : farOf 6488064 0 0 P2 = 5636096 := by decide +kernel
theorem near_no {f : Int} {i s p : Int} (h : f = 851968 ∨ f = 5636096) : near [] ⟨f, i, s, p⟩ = [] := if_neg (by show ¬ f ≤ 786432; omega)
theorem t12 : tpOne 0 P1 P2 1 = [] := by
 unfold tpOne
 rw [if_neg (by decide)]
 exact near_no (.inl far21)
theorem t21 : tpOne 1 P2 P1 0 = [] := by
 unfold tpOne
 rw [if_neg (by decide)]
 exact near_no (.inl far12)
theorem t52 : tsOne 2 P2 S5 0 = [] := by
 unfold tsOne
 rw [if_neg (by decide)]
 exact near_no (.inr far52)
theorem kept {l y : List SN} {b : Int} (h : y.Perm ((inOrder l).take (cutN l.length b))) (hb : (l.length : Int) ≤ b) : y.Perm l := by
 have h1 : (inOrder l).Perm l := List.mergeSort_perm _ _
 have h2 : cutN l.length b = l.length := by unfold cutN; omega
 rw [h2, List.take_of_length_le (by rw [h1.length_eq]; exact Nat.le_refl _)] at h
 exact h.trans h1
theorem sees1 {y : List SN} (h : SeesR 1 [P1, P2] [S5] 9 y) : (outP [P1, P2] y).length = 1 ∧ (outS [S5] y).length = 1 := by
 rcases h with ⟨h, _⟩ | ⟨me, q, h1, h2, h3, _⟩
 ·cases h
 ·have e1 : me = 0 := (Option.some.inj h1).symm
  subst e1
  have e2 : q = P1 := (Option.some.inj h2).symm
  subst e2
  have e3 : tpL 0 P1 [P1, P2] ++ tsL 1 P1 [S5] = [⟨-1, 0, 0, 0⟩, ⟨0, 5, 1, 0⟩] := by
   unfold tpL tsL
   simp only [List.zipIdx_cons, List.zipIdx_nil, List.flatMap_cons, List.flatMap_nil, Nat.zero_add, t12]
   rfl
  rw [e3] at h3
  have h4 := kept h3 (by decide)
  constructor
  ·rw [show (outP [P1, P2] y).length = _ from (h4.filterMap _).length_eq]; rfl
  ·rw [show (outS [S5] y).length = _ from (h4.filterMap _).length_eq]; rfl
theorem sees2 {y : List SN} (h : SeesR 2 [P1, P2] [S5] 9 y) : outP [P1, P2] y = [P2] ∧ outS [S5] y = [] := by
 rcases h with ⟨h, _⟩ | ⟨me, q, h1, h2, h3, _⟩
 ·cases h
 ·have e1 : me = 1 := (Option.some.inj h1).symm
  subst e1
  have e2 : q = P2 := (Option.some.inj h2).symm
  subst e2
  have e3 : tpL 1 P2 [P1, P2] ++ tsL 2 P2 [S5] = [⟨-1, 0, 0, 1⟩] := by
   unfold tpL tsL
   simp only [List.zipIdx_cons, List.zipIdx_nil, List.flatMap_cons, List.flatMap_nil, Nat.zero_add, t21, t52]
   rfl
  rw [e3] at h3
  have h4 := kept h3 (by decide)
  rw [List.perm_singleton.1 h4]
  exact ⟨rfl, rfl⟩
theorem apply_one {qs : List PL} {ts : List SH} {err : Int} (h : ApplyR [P1, P2] [S5] [1] qs ts err) : err = 3 := by
 have := (apply_fwd (S := [false, false, false, false, false, true]) right12 right12 (by rw [deltaB_self]; rfl) h).1
 rw [this, deltaB_self]
 rfl
theorem apply_all {qs : List PL} {ts : List SH} {err : Int} (h : ApplyR [] [] (deltaL [] [] [P1, P2] [S5]) qs ts err) : err = 0 ∧ qs = [P1, P2] ∧ ts = [S5] := apply_delta right00 right12 h
end Go.Proofs.YtfccnoccfhgcbaaGreatDoor
namespace Go.Proofs.YtfccnoccfhgcbaaGreatDoor
open Go Go.RowKit
theorem K16 : callTy Tryz.prog 16 := by unfold callTy; kernel_rfl
theorem K23 : callTy Tryz.prog 23 := by unfold callTy; kernel_rfl
theorem K25 : callTy Tryz.prog 25 := by unfold callTy; kernel_rfl
theorem c14 (w : World) (hG : Gl w none') (hS : St w (fpOf []) [] w) : Calls Tryz.prog 14 [].toArray w (RtE fun v w' => ∃ x : Unit, v = (fun _ => .bool true) x ∧ (fun _ => True) x ∧ St w (fpOf []) ((fun _ => []) x) w') := by
 refine enter Tryz.func14 rfl Tryz.ntmps14 rfl hS ?_
 refine c_seq ?_
 refine c_reg ?_
 refine sq (rd_assign rfl) rfl ?_
 refine s_end ?_
 refine f_then ?_
 refine c_seq ?_
 refine c_reg ?_
 refine sq (rd_build St51 rfl (by repeat constructor)) rfl ?_
 refine sx (ef_alloc Z51 rfl) rfl ?_
 rintro b1 hb1
 refine se (ef_stores A51 rfl rfl rfl (by first | exact .here) (by first | exact SetR.all rfl | repeat constructor) rfl) rfl ?_
 refine s_end ?_
 refine f_then ?_
 refine c_seq ?_
 refine c_reg ?_
 refine sq (rd_build St48 rfl (by repeat constructor)) rfl ?_
 refine sq (rd_build St51 rfl (by repeat constructor)) rfl ?_
 refine sx (ef_alloc Z51 rfl) rfl ?_
 rintro b2 hb2
 refine se (ef_stores A51 rfl rfl rfl (by repeat constructor) (by first | exact SetR.all rfl | repeat constructor) rfl) rfl ?_
 refine s_end ?_
 refine f_then ?_
 refine c_seq ?_
 refine c_reg ?_
 refine sq (rd_ldsb A51 rfl (by repeat constructor) (by first | exact GetR.all _ | repeat constructor)) rfl ?_
 refine sq (rd_ldsb A51 rfl (by repeat constructor) (by first | exact GetR.all _ | repeat constructor)) rfl ?_
 refine sx (ef_slice Rt22 rfl (by repeat constructor) rfl rfl) rfl ?_
 rintro b17 hb17
 refine sq (rd_build St48 rfl (by repeat constructor)) rfl ?_
 refine sq (rd_build St54 rfl (by repeat constructor)) rfl ?_
 refine sx (ef_slice Rt23 rfl (by repeat constructor) rfl rfl) rfl ?_
 rintro b20 hb20
 refine sq (rd_build St25 rfl (by repeat constructor)) rfl ?_
 refine sx (ef_alloc Z25 rfl) rfl ?_
 rintro b3 hb3
 refine se (ef_stores A25 rfl rfl rfl (by repeat constructor) (by first | exact SetR.all rfl | repeat constructor) rfl) rfl ?_
 refine s_end ?_
 refine f_then ?_
 refine c_seq ?_
 refine c_reg ?_
 refine sq (rd_ldsb A25 rfl (by repeat constructor) (by first | exact GetR.all _ | repeat constructor)) rfl ?_
 refine sx (ef_call rfl rfl K16 (fun _ e => by cases e; rfl) [] _ (.refl _) _ _ _ (fun w hS => by exact c16 w (some ⟨b17, 0, none⟩) (some ⟨b20, 0, none⟩) 2 1 2 1 1 9 [P1, P2] [S5] (Sl.ofBlk hS (show Ent.blk b17 (flat PL.enc [P1, P2]) 51 ∈ _ from (by repeat constructor)) rfl rfl none' (none'_no _)) (Sl.ofBlk hS (show Ent.blk b20 (flat SH.enc [S5]) 54 ∈ _ from (by repeat constructor)) rfl rfl none' (none'_no _)) (by unfold PL.ok isI64; decide) (by unfold SH.ok isI64; decide) (by decide) (by decide) hS.own)) rfl ?_
 rintro ⟨y1, PA1, pc1, QA1, qc1⟩ hy1
 obtain ⟨hp1, hs1⟩ := sees1 hy1
 dsimp only at hp1 hs1
 refine sx (ef_alloc Z25 rfl) rfl ?_
 rintro b4 hb4
 refine se (ef_stores A25 rfl rfl rfl (by repeat constructor) (by first | exact SetR.all rfl | repeat constructor) rfl) rfl ?_
 refine s_end ?_
 refine f_then ?_
 refine c_seq ?_
 refine c_reg ?_
 refine sq (rd_ldsb A25 rfl (by repeat constructor) (by first | exact GetR.all _ | repeat constructor)) rfl ?_
 refine sx (ef_call rfl rfl K16 (fun _ e => by cases e; rfl) [] _ (.refl _) _ _ _ (fun w hS => by exact c16 w (some ⟨b17, 0, none⟩) (some ⟨b20, 0, none⟩) 2 1 2 1 2 9 [P1, P2] [S5] (Sl.ofBlk hS (show Ent.blk b17 (flat PL.enc [P1, P2]) 51 ∈ _ from (by repeat constructor)) rfl rfl none' (none'_no _)) (Sl.ofBlk hS (show Ent.blk b20 (flat SH.enc [S5]) 54 ∈ _ from (by repeat constructor)) rfl rfl none' (none'_no _)) (by unfold PL.ok isI64; decide) (by unfold SH.ok isI64; decide) (by decide) (by decide) hS.own)) rfl ?_
 rintro ⟨y2, PA2, pc2, QA2, qc2⟩ hy2
 obtain ⟨hp2, hs2⟩ := sees2 hy2
 dsimp only at hp2 hs2
 have hl2 : (outP [P1, P2] y2).length = 1 := by rw [hp2]; rfl
 have hm2 : (outS [S5] y2).length = 0 := by rw [hs2]; rfl
 refine sx (ef_alloc Z25 rfl) rfl ?_
 rintro b5 hb5
 refine se (ef_stores A25 rfl rfl rfl (by repeat constructor) (by first | exact SetR.all rfl | repeat constructor) rfl) rfl ?_
 refine s_end ?_
 refine f_then ?_
 refine c_seq ?_
 refine c_reg ?_
 refine sq (rd_build St25 rfl (by repeat constructor)) rfl ?_
 refine sq (rd_ldsb A25 rfl (by repeat constructor) (by first | exact GetR.all _ | repeat constructor)) rfl ?_
 refine sx (ef_call rfl rfl K23 (fun _ e => by cases e; rfl) [] _ (.refl _) _ _ _ (fun w hS => by exact c23 w none none (some ⟨b17, 0, none⟩) (some ⟨b20, 0, none⟩) 0 0 2 1 0 0 2 1 [] [P1, P2] [] [S5] (hG.hand (Ec := []) hS) (Sl.nil _ _ _ _) (Sl.nil _ _ _ _) (Sl.ofBlk hS (show Ent.blk b17 (flat PL.enc [P1, P2]) 51 ∈ _ from (by repeat constructor)) rfl rfl none' (none'_no _)) (Sl.ofBlk hS (show Ent.blk b20 (flat SH.enc [S5]) 54 ∈ _ from (by repeat constructor)) rfl rfl none' (none'_no _)) (by decide) (by decide) (by decide) (by decide) hS.own)) rfl ?_
 rintro ⟨DA, dc⟩ _
 refine sq (rd_assign rfl) rfl ?_
 refine s_end ?_
 refine f_then ?_
 refine c_seq ?_
 refine c_reg ?_
 refine sq (rd_build St25 rfl (by repeat constructor)) rfl ?_
 refine sq (rd_move rfl) rfl ?_
 refine sx (ef_call rfl rfl K25 (fun _ e => by cases e; rfl) [] _ (.refl _) _ _ _ (fun w hS => by exact c25 w none none DA 0 0 _ 0 0 dc [] [] (deltaL [] [] [P1, P2] [S5]) (hG.hand (Ec := []) hS) (Sl.nil _ _ _ _) (Sl.nil _ _ _ _) (Sl.ofRow' hS (by repeat constructor)) deltaL_lt (by decide) (by decide) (by have := deltaL_le [] [P1, P2] [] [S5]; omega) hS.own)) rfl ?_
 rintro ⟨qs1, ts1, er1, PB1, pd1, QB1, qd1⟩ ha1
 obtain ⟨rfl, rfl, rfl⟩ := apply_all ha1
 refine sq (rd_move rfl) rfl ?_
 refine sq (rd_extract rfl rfl) rfl ?_
 refine sq (rd_extract rfl rfl) rfl ?_
 refine sx (ef_alloc Z25 rfl) rfl ?_
 rintro b7 hb7
 refine se (ef_stores A25 rfl rfl rfl (by repeat constructor) (by first | exact SetR.all rfl | repeat constructor) rfl) rfl ?_
 refine sq (rd_assign rfl) rfl ?_
 refine s_end ?_
 refine f_then ?_
 refine c_seq ?_
 refine c_reg ?_
 refine sq (rd_ldsb A25 rfl (by repeat constructor) (by first | exact GetR.all _ | repeat constructor)) rfl ?_
 refine sx (ef_slice Rt37 rfl (by repeat constructor) rfl rfl) rfl ?_
 rintro b37 hb37
 refine sx (ef_call rfl rfl K25 (fun _ e => by cases e; rfl) [] _ (.refl _) _ _ _ (fun w hS => by exact c25 w (some ⟨b17, 0, none⟩) (some ⟨b20, 0, none⟩) (some ⟨b37, 0, none⟩) 2 1 1 2 1 1 [P1, P2] [S5] [1] (hG.hand (Ec := []) hS) (Sl.ofBlk hS (show Ent.blk b17 (flat PL.enc [P1, P2]) 51 ∈ _ from (by repeat constructor)) rfl rfl none' (none'_no _)) (Sl.ofBlk hS (show Ent.blk b20 (flat SH.enc [S5]) 54 ∈ _ from (by repeat constructor)) rfl rfl none' (none'_no _)) (Sl.ofBlk hS (show Ent.blk b37 (u8s [1]) 5 ∈ _ from (by repeat constructor)) rfl rfl none' (none'_no _)) (by decide) (by decide) (by decide) (by decide) hS.own)) rfl ?_
 rintro ⟨qs2, ts2, er2, PB2, pd2, QB2, qd2⟩ ha2
 obtain rfl := apply_one ha2
 refine sq (rd_move rfl) rfl ?_
 refine sq (rd_extract rfl rfl) rfl ?_
 refine sq (rd_extract rfl rfl) rfl ?_
 refine sx (ef_alloc Z25 rfl) rfl ?_
 rintro b9 hb9
 refine se (ef_stores A25 rfl rfl rfl (by repeat constructor) (by first | exact SetR.all rfl | repeat constructor) rfl) rfl ?_
 refine sq (rd_assign rfl) rfl ?_
 refine s_end ?_
 refine f_then ?_
 refine c_seq ?_
 refine c_reg ?_
 refine sq (rd_ldsb A25 rfl (by repeat constructor) (by first | exact GetR.all _ | repeat constructor)) rfl ?_
 refine sq (rd_ldsb A25 rfl (by repeat constructor) (by first | exact GetR.all _ | repeat constructor)) rfl ?_
 refine sx (ef_call rfl rfl K23 (fun _ e => by cases e; rfl) [] _ (.refl _) _ _ _ (fun w hS => by exact c23 w (some ⟨b17, 0, none⟩) (some ⟨b20, 0, none⟩) (some ⟨b17, 0, none⟩) (some ⟨b20, 0, none⟩) 2 1 2 1 2 1 2 1 [P1, P2] [P1, P2] [S5] [S5] (hG.hand (Ec := []) hS) (Sl.ofBlk hS (show Ent.blk b17 (flat PL.enc [P1, P2]) 51 ∈ _ from (by repeat constructor)) rfl rfl none' (none'_no _)) (Sl.ofBlk hS (show Ent.blk b20 (flat SH.enc [S5]) 54 ∈ _ from (by repeat constructor)) rfl rfl none' (none'_no _)) (Sl.ofBlk hS (show Ent.blk b17 (flat PL.enc [P1, P2]) 51 ∈ _ from (by repeat constructor)) rfl rfl none' (none'_no _)) (Sl.ofBlk hS (show Ent.blk b20 (flat SH.enc [S5]) 54 ∈ _ from (by repeat constructor)) rfl rfl none' (none'_no _)) (by decide) (by decide) (by decide) (by decide) hS.own)) rfl ?_
 rintro ⟨EA, ec⟩ _
 have hE := deltaL_self right12
 refine s_know (fun _ h => fun h0 => ((row_know (e := 5) (sz := 1) (A := EA) (m := (deltaL [P1, P2] [S5] [P1, P2] [S5]).length) (cap := ec) (by repeat constructor) _ h).2.2.2 h0).1) (fun hplE => ?_)
 refine sq (rd_assign rfl) rfl ?_
 refine s_end ?_
 refine f_then ?_
 refine c_seq ?_
 refine c_know (fun _ h => fun h0 => ((row_know (e := 51) (sz := 15) (A := PA2) (m := (outP [P1, P2] y2).length) (cap := pc2) (by repeat constructor) _ h).2.2.2 h0).1) (fun hplL => ?_)
 refine c_reg ?_
 refine sq (rd_field F25_0 rfl) rfl ?_
 refine sq (rd_ldb C22 rfl (by repeat constructor) rfl) rfl ?_
 refine sq (rd_len S22 rfl rfl) rfl ?_
 refine sq (rd_eql rfl rfl) rfl ?_
 refine sq (rd_move rfl) rfl ?_
 refine s_split (d := 48) rfl (fun g48 => ?_) (fun g48 => ?_)
 ·try have g48p := of_decide_eq_true g48
  refine sg1 (fun a hA => wanted_yes hA rfl rfl rfl g48) (rd_field F25_1 rfl) rfl ?_
  refine sg1 (fun a hA => wanted_yes hA rfl rfl rfl g48) (rd_ldb C23 rfl (by repeat constructor) rfl) rfl ?_
  refine sg1 (fun a hA => wanted_yes hA rfl rfl rfl g48) (rd_len S23 rfl rfl) rfl ?_
  refine sg1 (fun a hA => wanted_yes hA rfl rfl rfl g48) (rd_eql rfl rfl) rfl ?_
  refine sq (rd_pick_tt rfl g48 rfl) rfl ?_
  refine sq (rd_move rfl) rfl ?_
  refine s_split (d := 54) rfl (fun g54 => ?_) (fun g54 => ?_)
  ·try have g54p := of_decide_eq_true g54
   refine sg1 (fun a hA => wanted_yes hA rfl rfl rfl g54) (rd_field F25_0 rfl) rfl ?_
   refine sg1 (fun a hA => wanted_yes hA rfl rfl rfl g54) (rd_ldb C22 rfl (by repeat constructor) rfl) rfl ?_
   refine sg1 (fun a hA => wanted_yes hA rfl rfl rfl g54) (rd_len S22 rfl rfl) rfl ?_
   refine sg1 (fun a hA => wanted_yes hA rfl rfl rfl g54) (rd_eql rfl rfl) rfl ?_
   refine sq (rd_pick_tt rfl g54 rfl) rfl ?_
   refine sq (rd_move rfl) rfl ?_
   refine s_split (d := 60) rfl (fun g60 => ?_) (fun g60 => ?_)
   ·try have g60p := of_decide_eq_true g60
    refine sg1 (fun a hA => wanted_yes hA rfl rfl rfl g60) (rd_field F25_0 rfl) rfl ?_
    refine sg1 (fun a hA => wanted_yes hA rfl rfl rfl g60) (rd_ldb C22 rfl (by repeat constructor) rfl) rfl ?_
    refine sg1 (fun a hA => wanted_yes hA rfl rfl rfl g60) (rd_index S22 rfl rfl hplL (by omega) (by omega)) rfl ?_
    refine sg1 (fun a hA => wanted_yes hA rfl rfl rfl g60) (rd_field F51_0 rfl) rfl ?_
    refine sg1 (fun a hA => wanted_yes hA rfl rfl rfl g60) (rd_ldr C3 (by repeat constructor) rfl (by rw [hp2]; rfl)) rfl ?_
    refine sg1 (fun a hA => wanted_yes hA rfl rfl rfl g60) (rd_eql rfl rfl) rfl ?_
    refine sq (rd_pick_tt rfl g60 rfl) rfl ?_
    refine sq (rd_move rfl) rfl ?_
    refine s_split (d := 68) rfl (fun g68 => ?_) (fun g68 => ?_)
    ·try have g68p := of_decide_eq_true g68
     refine sg1 (fun a hA => wanted_yes hA rfl rfl rfl g68) (rd_field F25_1 rfl) rfl ?_
     refine sg1 (fun a hA => wanted_yes hA rfl rfl rfl g68) (rd_ldb C23 rfl (by repeat constructor) rfl) rfl ?_
     refine sg1 (fun a hA => wanted_yes hA rfl rfl rfl g68) (rd_len S23 rfl rfl) rfl ?_
     refine sg1 (fun a hA => wanted_yes hA rfl rfl rfl g68) (rd_eql rfl rfl) rfl ?_
     refine sq (rd_pick_tt rfl g68 rfl) rfl ?_
     refine sq (rd_move rfl) rfl ?_
     refine s_split (d := 74) rfl (fun g74 => ?_) (fun g74 => ?_)
     ·try have g74p := of_decide_eq_true g74
      refine sg1 (fun a hA => wanted_yes hA rfl rfl rfl g74) (rd_move rfl) rfl ?_
      refine sg1 (fun a hA => wanted_yes hA rfl rfl rfl g74) (rd_eql rfl rfl) rfl ?_
      refine sq (rd_pick_tt rfl g74 rfl) rfl ?_
      refine sq (rd_move rfl) rfl ?_
      refine s_split (d := 78) rfl (fun g78 => ?_) (fun g78 => ?_)
      ·try have g78p := of_decide_eq_true g78
       refine sg1 (fun a hA => wanted_yes hA rfl rfl rfl g78) (rd_ldsb A25 rfl (by repeat constructor) (by first | exact GetR.all _ | repeat constructor)) rfl ?_
       refine sg1 (fun a hA => wanted_yes hA rfl rfl rfl g78) (rd_ldsb A25 rfl (by repeat constructor) (by first | exact GetR.all _ | repeat constructor)) rfl ?_
       refine seg (fun a hA => wanted_yes hA rfl rfl rfl g78) (ef_pw rfl rfl K22 rfl (fun w hS => by exact c22 w PB1 QB1 (some ⟨b17, 0, none⟩) (some ⟨b20, 0, none⟩) 2 1 2 1 pd1 qd1 2 1 [P1, P2] [P1, P2] [S5] [S5] (Sl.ofRow' hS (by repeat constructor)) (Sl.ofRow' hS (by repeat constructor)) (Sl.ofBlk hS (show Ent.blk b17 (flat PL.enc [P1, P2]) 51 ∈ _ from (by repeat constructor)) rfl rfl none' (none'_no _)) (Sl.ofBlk hS (show Ent.blk b20 (flat SH.enc [S5]) 54 ∈ _ from (by repeat constructor)) rfl rfl none' (none'_no _)))) ?_
       refine sq (rd_pick_tt rfl g78 rfl) rfl ?_
       refine sq (rd_move rfl) rfl ?_
       refine s_split (d := 83) rfl (fun g83 => ?_) (fun g83 => ?_)
       ·try have g83p := of_decide_eq_true g83
        refine sg1 (fun a hA => wanted_yes hA rfl rfl rfl g83) (rd_move rfl) rfl ?_
        refine sg1 (fun a hA => wanted_yes hA rfl rfl rfl g83) (rd_eql rfl rfl) rfl ?_
        refine sq (rd_pick_tt rfl g83 rfl) rfl ?_
        refine sq (rd_move rfl) rfl ?_
        refine s_split (d := 87) rfl (fun g87 => ?_) (fun g87 => ?_)
        ·try have g87p := of_decide_eq_true g87
         refine sg1 (fun a hA => wanted_yes hA rfl rfl rfl g87) (rd_move rfl) rfl ?_
         refine sg1 (fun a hA => wanted_yes hA rfl rfl rfl g87) (rd_len S37 rfl rfl) rfl ?_
         refine sg1 (fun a hA => wanted_yes hA rfl rfl rfl g87) (rd_eql rfl rfl) rfl ?_
         refine sq (rd_pick_tt rfl g87 rfl) rfl ?_
         refine sq (rd_move rfl) rfl ?_
         refine s_split (d := 92) rfl (fun g92 => ?_) (fun g92 => ?_)
         ·try have g92p := of_decide_eq_true g92
          refine sg1 (fun a hA => wanted_yes hA rfl rfl rfl g92) (rd_move rfl) rfl ?_
          refine sg1 (fun a hA => wanted_yes hA rfl rfl rfl g92) (rd_index S37 rfl rfl hplE (by omega) (by omega)) rfl ?_
          refine sg1 (fun a hA => wanted_yes hA rfl rfl rfl g92) (rd_ldr C5 (by repeat constructor) rfl (by rw [hE]; rfl)) rfl ?_
          refine sg1 (fun a hA => wanted_yes hA rfl rfl rfl g92) (rd_eql rfl rfl) rfl ?_
          refine sq (rd_pick_tt rfl g92 rfl) rfl ?_
          refine sq (rd_move rfl) rfl ?_
          refine s_split (d := 98) rfl (fun g98 => ?_) (fun g98 => ?_)
          ·try have g98p := of_decide_eq_true g98
           refine sg1 (fun a hA => wanted_yes hA rfl rfl rfl g98) (rd_ldsb A25 rfl (by repeat constructor) (by first | exact GetR.all _ | repeat constructor)) rfl ?_
           refine seg (fun a hA => wanted_yes hA rfl rfl rfl g98) (ef_pw rfl rfl K20 rfl (fun w hS => by exact c20 w (some ⟨b17, 0, none⟩) (some ⟨b20, 0, none⟩) 2 1 2 1 [P1, P2] [S5] (hG.hand (Ec := []) hS) (Sl.ofBlk hS (show Ent.blk b17 (flat PL.enc [P1, P2]) 51 ∈ _ from (by repeat constructor)) rfl rfl none' (none'_no _)) (Sl.ofBlk hS (show Ent.blk b20 (flat SH.enc [S5]) 54 ∈ _ from (by repeat constructor)) rfl rfl none' (none'_no _)) (by decide) (by decide))) ?_
           refine sq (rd_pick_tt rfl g98 rfl) rfl ?_
           refine sq (rd_move rfl) rfl ?_
           refine sq (rd_pick_tt rfl right12 rfl) rfl ?_
           refine sq (rd_assign rfl) rfl ?_
           refine s_end ?_
           refine f_then ?_
           refine c_ret ?_
           refine f_ret rfl (.tmp rfl .nil) ?_
           exact fun w' hS => ⟨_, rfl, (), rfl, trivial, hS.sub (List.nil_sublist _)⟩
          ·exact absurd g98 (by decide)
         ·exact absurd g92 (by rw [hE]; decide)
        ·exact absurd g87 (by simp)
       ·exact absurd g83 (by simp)
      ·exact absurd g78 (by simp)
     ·exact absurd g74 (by rw [hm2]; decide)
    ·exact absurd g68 (by decide)
   ·exact absurd g60 (by rw [hl2]; decide)
  ·exact absurd g54 (by rw [hs1]; decide)
 ·exact absurd g48 (by rw [hp1]; decide)

end Go.Proofs.YtfccnoccfhgcbaaGreatDoor
namespace Go.Proofs.YtfccnoccfhgcbaaGreatDoor
open Go Go.RowKit Go.ChangeShapes Go.WideShapes

theorem cel3 : Tryz.prog.cellsOf 3 = 1 := by kernel_rfl
theorem cel2 : Tryz.prog.cellsOf 2 = 1 := by kernel_rfl
theorem cel4 : Tryz.prog.cellsOf 4 = 1 := by kernel_rfl
theorem cel5 : Tryz.prog.cellsOf 5 = 1 := by kernel_rfl
theorem cel48 : Tryz.prog.cellsOf 48 = 3 := by kernel_rfl
theorem cel49 : Tryz.prog.cellsOf 49 = 2 := by kernel_rfl
theorem cel51 : Tryz.prog.cellsOf 51 = 15 := by kernel_rfl
theorem cel54 : Tryz.prog.cellsOf 54 = 11 := by kernel_rfl
theorem cel25 : Tryz.prog.cellsOf 25 = 2 := by kernel_rfl
theorem cel22 : Tryz.prog.cellsOf 22 = 1 := by kernel_rfl
theorem cel23 : Tryz.prog.cellsOf 23 = 1 := by kernel_rfl
theorem cel78 : Tryz.prog.cellsOf 78 = 3 := by kernel_rfl
theorem get_some {α : Type} {l : List α} {n i : Nat} (h : l.length = n) (hi : i < n) : ∃ x, l[i]? = some x := ⟨l[i], List.getElem?_eq_getElem (by omega)⟩
theorem list1 {α : Type} {l : List α} (h : l.length = 1) : ∃ a, l = [a] := by match l, h with | [a], _ => exact ⟨a, rfl⟩
theorem list2 {α : Type} {l : List α} (h : l.length = 2) : ∃ a b, l = [a, b] := by match l, h with | [a, b], _ => exact ⟨a, b, rfl⟩
theorem list3 {α : Type} {l : List α} (h : l.length = 3) : ∃ a b c, l = [a, b, c] := by match l, h with | [a, b, c], _ => exact ⟨a, b, c, rfl⟩
theorem list11 {α : Type} {l : List α} (h : l.length = 11) : ∃ a b c d e f g i j k m, l = [a, b, c, d, e, f, g, i, j, k, m] := by
 match l, h with | [a, b, c, d, e, f, g, i, j, k, m], _ => exact ⟨a, b, c, d, e, f, g, i, j, k, m, rfl⟩
theorem list15 {α : Type} {l : List α} (h : l.length = 15) : ∃ a b c d e f g i j k m n o p q, l = [a, b, c, d, e, f, g, i, j, k, m, n, o, p, q] := by
 match l, h with | [a, b, c, d, e, f, g, i, j, k, m, n, o, p, q], _ => exact ⟨a, b, c, d, e, f, g, i, j, k, m, n, o, p, q, rfl⟩
section
variable {H : Type} {enc : TypeId × Value → H} {W : World} {spare : Nat → Bool} {held : Bool} {fuel : Nat} {cs : List Value} {x : DataW H × List MemPlace}
theorem rd_i {t : TypeId} (ht : Tryz.prog.underlying t = some (.int .i64)) (h : DataW.trod enc Tryz.prog W 0 spare held fuel t cs = some x) : ∃ n, cs = [.int .i64 n] ∧ isI64 n := by
 obtain ⟨n, e, _, hw⟩ := DataW.trod_int ht h
 exact ⟨n, e, bounds_i64 hw⟩
theorem rd_b (h : DataW.trod enc Tryz.prog W 0 spare held fuel 4 cs = some x) : ∃ b, cs = [.bool b] := by
 obtain ⟨b, e, _⟩ := DataW.trod_bool Tryz.underlying4 h
 exact ⟨b, e⟩
theorem rd_vec (h : DataW.trod enc Tryz.prog W 0 spare held fuel 48 cs = some x) : ∃ a b c, cs = [.int .i64 a, .int .i64 b, .int .i64 c] ∧ isI64 a ∧ isI64 b ∧ isI64 c := by
 obtain ⟨xs, n, rfl, _, hl, hx, hf⟩ := DataW.trod_struct Tryz.underlying48 h
 rw [cel48] at hl
 obtain ⟨c0, c1, c2, rfl⟩ := list3 hl
 obtain ⟨z0, g0⟩ := get_some (i := 0) hx (by decide)
 obtain ⟨z1, g1⟩ := get_some (i := 1) hx (by decide)
 obtain ⟨z2, g2⟩ := get_some (i := 2) hx (by decide)
 obtain ⟨n0, e0, b0⟩ := rd_i Tryz.underlying2 ((hf 0 ⟨"X", 2, 0, false, "", "", 0⟩ rfl).trans g0)
 obtain ⟨n1, e1, b1⟩ := rd_i Tryz.underlying2 ((hf 1 ⟨"Y", 2, 1, false, "", "", 8⟩ rfl).trans g1)
 obtain ⟨n2, e2, b2⟩ := rd_i Tryz.underlying2 ((hf 2 ⟨"Z", 2, 2, false, "", "", 16⟩ rfl).trans g2)
 simp only [cel2, List.drop_zero, List.drop_succ_cons, List.take_succ_cons, List.take_zero, List.cons.injEq, and_true] at e0 e1 e2
 subst e0 e1 e2
 exact ⟨_, _, _, rfl, b0, b1, b2⟩
theorem rd_arr (h : DataW.trod enc Tryz.prog W 0 spare held fuel 49 cs = some x) : ∃ a b, cs = [.int .i64 a, .int .i64 b] ∧ isI64 a ∧ isI64 b := by
 obtain ⟨xs, n, rfl, _, hl, hx, hf⟩ := DataW.trod_array Tryz.underlying49 h
 rw [cel49] at hl
 obtain ⟨c0, c1, rfl⟩ := list2 hl
 obtain ⟨z0, g0⟩ := get_some (i := 0) hx (by decide)
 obtain ⟨z1, g1⟩ := get_some (i := 1) hx (by decide)
 have f0 := (hf 0 (by decide)).trans g0
 have f1 := (hf 1 (by decide)).trans g1
 simp only [cel3] at f0 f1
 obtain ⟨n0, e0, b0⟩ := rd_i Tryz.underlying3 f0
 obtain ⟨n1, e1, b1⟩ := rd_i Tryz.underlying3 f1
 simp only [Nat.zero_mul, Nat.one_mul, List.drop_zero, List.drop_succ_cons, List.take_succ_cons, List.take_zero, List.cons.injEq, and_true] at e0 e1
 subst e0 e1
 exact ⟨_, _, rfl, b0, b1⟩
theorem rd_pl (h : DataW.trod enc Tryz.prog W 0 spare held fuel 51 cs = some x) : ∃ p : PL, cs = p.enc ∧ p.ok := by
 obtain ⟨xs, n, rfl, _, hl, hx, hf⟩ := DataW.trod_struct Tryz.underlying51 h
 rw [cel51] at hl
 obtain ⟨c0, c1, c2, c3, c4, c5, c6, c7, c8, c9, c10, c11, c12, c13, c14, rfl⟩ := list15 hl
 obtain ⟨z0, g0⟩ := get_some (i := 0) hx (by decide)
 obtain ⟨z1, g1⟩ := get_some (i := 1) hx (by decide)
 obtain ⟨z2, g2⟩ := get_some (i := 2) hx (by decide)
 obtain ⟨z3, g3⟩ := get_some (i := 3) hx (by decide)
 obtain ⟨z4, g4⟩ := get_some (i := 4) hx (by decide)
 obtain ⟨z5, g5⟩ := get_some (i := 5) hx (by decide)
 obtain ⟨z6, g6⟩ := get_some (i := 6) hx (by decide)
 obtain ⟨z7, g7⟩ := get_some (i := 7) hx (by decide)
 obtain ⟨z8, g8⟩ := get_some (i := 8) hx (by decide)
 obtain ⟨z9, g9⟩ := get_some (i := 9) hx (by decide)
 obtain ⟨n0, e0, b0⟩ := rd_i Tryz.underlying3 ((hf 0 ⟨"ID", 3, 0, false, "", "", 0⟩ rfl).trans g0)
 obtain ⟨p1, p2, p3, e1, b1, b2, b3⟩ := rd_vec ((hf 1 ⟨"Pos", 48, 1, false, "", "", 8⟩ rfl).trans g1)
 obtain ⟨v1, v2, v3, e2, d1, d2, d3⟩ := rd_vec ((hf 2 ⟨"Vel", 48, 4, false, "", "", 32⟩ rfl).trans g2)
 obtain ⟨q, e3⟩ := rd_b ((hf 3 ⟨"Ground", 4, 7, false, "", "", 56⟩ rfl).trans g3)
 obtain ⟨n4, e4, b4⟩ := rd_i Tryz.underlying3 ((hf 4 ⟨"Health", 3, 8, false, "", "", 64⟩ rfl).trans g4)
 obtain ⟨n5, e5, b5⟩ := rd_i Tryz.underlying3 ((hf 5 ⟨"Armour", 3, 9, false, "", "", 72⟩ rfl).trans g5)
 obtain ⟨n6, e6, b6⟩ := rd_i Tryz.underlying3 ((hf 6 ⟨"Score", 3, 10, false, "", "", 80⟩ rfl).trans g6)
 obtain ⟨a1, a2, e7, b7, d7⟩ := rd_arr ((hf 7 ⟨"Ammo", 49, 11, false, "", "", 88⟩ rfl).trans g7)
 obtain ⟨n8, e8, b8⟩ := rd_i Tryz.underlying3 ((hf 8 ⟨"Wait", 3, 13, false, "", "", 104⟩ rfl).trans g8)
 obtain ⟨n9, e9, b9⟩ := rd_i Tryz.underlying3 ((hf 9 ⟨"Dead", 3, 14, false, "", "", 112⟩ rfl).trans g9)
 simp only [cel3, cel4, cel48, cel49, List.drop_zero, List.drop_succ_cons, List.take_succ_cons, List.take_zero, List.cons.injEq, and_true] at e0 e1 e2 e3 e4 e5 e6 e7 e8 e9
 obtain ⟨x1, x2, x3⟩ := e1
 obtain ⟨y1, y2, y3⟩ := e2
 obtain ⟨w1, w2⟩ := e7
 subst e0 x1 x2 x3 y1 y2 y3 e3 e4 e5 e6 w1 w2 e8 e9
 exact ⟨⟨n0, p1, p2, p3, v1, v2, v3, q, n4, n5, n6, a1, a2, n8, n9⟩, rfl, b0, b1, b2, b3, d1, d2, d3, b4, b5, b6, b7, d7, b8, b9⟩
theorem rd_sh (h : DataW.trod enc Tryz.prog W 0 spare held fuel 54 cs = some x) : ∃ s : SH, cs = s.enc ∧ s.ok := by
 obtain ⟨xs, n, rfl, _, hl, hx, hf⟩ := DataW.trod_struct Tryz.underlying54 h
 rw [cel54] at hl
 obtain ⟨c0, c1, c2, c3, c4, c5, c6, c7, c8, c9, c10, rfl⟩ := list11 hl
 obtain ⟨z0, g0⟩ := get_some (i := 0) hx (by decide)
 obtain ⟨z1, g1⟩ := get_some (i := 1) hx (by decide)
 obtain ⟨z2, g2⟩ := get_some (i := 2) hx (by decide)
 obtain ⟨z3, g3⟩ := get_some (i := 3) hx (by decide)
 obtain ⟨z4, g4⟩ := get_some (i := 4) hx (by decide)
 obtain ⟨z5, g5⟩ := get_some (i := 5) hx (by decide)
 obtain ⟨z6, g6⟩ := get_some (i := 6) hx (by decide)
 obtain ⟨n0, e0, b0⟩ := rd_i Tryz.underlying3 ((hf 0 ⟨"ID", 3, 0, false, "", "", 0⟩ rfl).trans g0)
 obtain ⟨n1, e1, b1⟩ := rd_i Tryz.underlying3 ((hf 1 ⟨"Owner", 3, 1, false, "", "", 8⟩ rfl).trans g1)
 obtain ⟨n2, e2, b2⟩ := rd_i Tryz.underlying3 ((hf 2 ⟨"Kind", 3, 2, false, "", "", 16⟩ rfl).trans g2)
 obtain ⟨p1, p2, p3, e3, b3, b4, b5⟩ := rd_vec ((hf 3 ⟨"Pos", 48, 3, false, "", "", 24⟩ rfl).trans g3)
 obtain ⟨v1, v2, v3, e4, d3, d4, d5⟩ := rd_vec ((hf 4 ⟨"Vel", 48, 6, false, "", "", 48⟩ rfl).trans g4)
 obtain ⟨n5, e5, f5⟩ := rd_i Tryz.underlying3 ((hf 5 ⟨"Fuse", 3, 9, false, "", "", 72⟩ rfl).trans g5)
 obtain ⟨q, e6⟩ := rd_b ((hf 6 ⟨"Rest", 4, 10, false, "", "", 80⟩ rfl).trans g6)
 simp only [cel3, cel4, cel48, List.drop_zero, List.drop_succ_cons, List.take_succ_cons, List.take_zero, List.cons.injEq, and_true] at e0 e1 e2 e3 e4 e5 e6
 obtain ⟨x1, x2, x3⟩ := e3
 obtain ⟨y1, y2, y3⟩ := e4
 subst e0 e1 e2 x1 x2 x3 y1 y2 y3 e5 e6
 exact ⟨⟨n0, n1, n2, p1, p2, p3, v1, v2, v3, n5, q⟩, rfl, b0, b1, b2, b3, b4, b5, d3, d4, d5, f5⟩
theorem rd_u8 (h : DataW.trod enc Tryz.prog W 0 spare held fuel 5 cs = some x) : ∃ n : Nat, cs = [.int .u8 (n : Int)] ∧ n < 256 := by
 obtain ⟨n, e, _, hw⟩ := DataW.trod_int Tryz.underlying5 h
 have hb := bounds_u8 hw
 exact ⟨n.toNat, by rw [e]; congr 2; omega, by omega⟩
theorem list_of {α : Type} {Q : Nat → α → Prop} : ∀ {n : Nat}, (∀ i, i < n → ∃ p, Q i p) → ∃ l : List α, l.length = n ∧ ∀ i p, l[i]? = some p → Q i p
 | 0, _ => ⟨[], rfl, fun i p h => by cases h⟩
 | n + 1, h => by
  obtain ⟨l, h1, h2⟩ := list_of (n := n) fun i hi => h i (by omega)
  obtain ⟨p, hp⟩ := h n (by omega)
  refine ⟨l ++ [p], by simp [h1], fun i q hq => ?_⟩
  rcases Nat.lt_or_ge i n with hi | hi
  ·rw [List.getElem?_append_left (by omega)] at hq
   exact h2 i q hq
  ·have hi2 : i = n := by
    have := (List.getElem?_eq_some_iff.1 hq).1
    simp [h1] at this
    omega
   subst hi2
   rw [List.getElem?_append_right (by omega), h1, Nat.sub_self] at hq
   have : p = q := by simpa using hq
   rw [← this]
   exact hp
theorem spot_none {w : World} {a : Addr} {v : Value} (h : w.cell? a = some v) : a = ⟨a.block, a.off, none⟩ := by
 obtain ⟨b, o, s⟩ := a
 unfold World.cell? at h
 split at h
 ·split at h
  ·cases h
  ·rename_i hs
   cases s with
   | none => rfl
   | some s => exact absurd rfl hs
 ·cases h
theorem add_none (b o n : Nat) : (⟨b, o, none⟩ : Addr).add n = ⟨b, o + n, none⟩ := by
 unfold Addr.add
 split
 ·rename_i h; rw [h]; rfl
 ·rfl
/-- A slice of such things. -/
theorem rd_rows {α : Type} {f : α → List Value} {ok : α → Prop} {sz : Nat} {t e : TypeId} (ht : Tryz.prog.underlying t = some (.slice e)) (hc : Tryz.prog.cellsOf e = sz) (hsz : 0 < sz) (hf : ∀ a, (f a).length = sz)
  (he : ∀ {fuel : Nat} {cs : List Value} {x : DataW H × List MemPlace}, DataW.trod enc Tryz.prog W 0 spare held fuel e cs = some x → ∃ p, cs = f p ∧ ok p) (h : DataW.trod enc Tryz.prog W 0 spare held fuel t cs = some x) :
  ∃ (A : Option Addr) (n c : Nat) (l : List α), cs = [.slice A n c] ∧ n ≤ c ∧ Sl W none' A n sz (flat f l) ∧ ∀ p ∈ l, ok p := by
 rcases DataW.trod_slice ht h with ⟨rfl, _⟩ | ⟨a, len, cap, elems, rest, m, _, rfl, _, _, hl, hcap, hel, hi, _⟩
 ·exact ⟨none, 0, 0, [], rfl, Nat.le_refl _, Sl.nil _ _ _ _, fun p hp => by cases hp⟩
 ·rw [hc] at hi
  have hQ : ∀ i, i < len → ∃ p, W.cells? 0 (a.add (i * sz)) sz = some (f p) ∧ ok p := fun i hlt => by
   have h1 := hi i hlt
   obtain ⟨z, hz⟩ := get_some (i := i) hel hlt
   rw [hz] at h1
   obtain ⟨cs', h2, h3⟩ := Option.bind_eq_some_iff.1 h1
   obtain ⟨p, rfl, hp⟩ := he h3
   exact ⟨p, h2, hp⟩
  obtain ⟨l, hll, hlq⟩ := list_of hQ
  have hcell : ∀ i p, l[i]? = some p → ∀ j, j < sz → W.cell? ((a.add (i * sz)).add j) = (f p)[j]? := fun i p hp j hj => by
   have h1 := (hlq i p hp).1
   unfold World.cells? at h1
   rw [if_pos (Nat.zero_le _)] at h1
   exact mapM_some_get h1 j j (by simp [hj])
  have hpl : 0 < len → a = ⟨a.block, a.off, none⟩ := fun h0 => by
   obtain ⟨p, hp⟩ := get_some (i := 0) hll h0
   have h1 := hcell 0 p hp 0 hsz
   have h2 : (f p)[0]? = some ((f p)[0]'(by rw [hf]; exact hsz)) := List.getElem?_eq_getElem _
   rw [h2] at h1
   have h3 : (a.add (0 * sz)).add 0 = a := by rw [Nat.zero_mul]; rfl
   rw [h3] at h1
   exact spot_none h1
  refine ⟨some a, len, cap, l, rfl, hl, ⟨by rw [flat_len hf, hll], by simp only [maxLen] at hcap; omega, fun h0 => ?_, fun j hj => ?_, fun _ => none'_no _⟩, fun p hp => ?_⟩
  ·have := hpl h0
   unfold plainA ab ao
   rw [this]
   rfl
  ·have h0 : 0 < len := Nat.pos_of_ne_zero fun h => by rw [h, Nat.zero_mul] at hj; exact absurd hj (Nat.not_lt_zero _)
   have hd : j / sz < len := Nat.div_lt_of_lt_mul (by rw [Nat.mul_comm]; exact hj)
   obtain ⟨p, hp⟩ := get_some (i := j / sz) hll hd
   have h1 := hcell _ p hp (j % sz) (Nat.mod_lt _ hsz)
   have h2 := (flat_part hf l _ p hp).2 (j % sz) (Nat.mod_lt _ hsz)
   have e1 : j / sz * sz + j % sz = j := by rw [Nat.mul_comm]; exact Nat.div_add_mod _ _
   rw [e1] at h2
   rw [h2, ← h1]
   have e2 := hpl h0
   obtain ⟨b, o, s⟩ := a
   have e3 : s = none := by cases e2; rfl
   subst e3
   rw [add_none, add_none, Nat.add_assoc, e1]
   rfl
  ·obtain ⟨i, hi⟩ := List.getElem?_of_mem hp
   exact (hlq i p hi).2
theorem u8s_flat (l : List Nat) : flat (fun x : Nat => [.int .u8 (x : Int)]) l = u8s l := by
 induction l with
 | nil => rfl
 | cons x l ih => simp only [flat, u8s, List.map_cons, List.flatten_cons] at *; rw [ih]; rfl
/-- A state. -/
theorem rd_state {v : Value} {d : DataW H} {p : List MemPlace} (h : DataW.Trod enc Tryz.prog W 0 spare held 25 v d p) (hv : ∃ cs, v = .agg cs ∧ cs.size = Tryz.prog.cellsOf 25) :
  ∃ (A B : Option Addr) (n m c e : Nat) (ps : List PL) (ss : List SH), v = .agg #[.slice A n c, .slice B m e] ∧ Sl W none' A n 15 (flat PL.enc ps) ∧ Sl W none' B m 11 (flat SH.enc ss) ∧ n ≤ c ∧ m ≤ e ∧ (∀ p ∈ ps, p.ok) ∧ ∀ s ∈ ss, s.ok := by
 obtain ⟨cs, rfl, hsz⟩ := hv
 obtain ⟨fuel, h⟩ := h
 obtain ⟨xs, n, rfl, _, hl, hx, hf⟩ := DataW.trod_struct Tryz.underlying25 h
 rw [cel25] at hl
 obtain ⟨c0, c1, e⟩ := list2 hl
 have e : cs.toList = [c0, c1] := e
 have e' : cs = #[c0, c1] := by cases cs; simp_all
 subst e'
 obtain ⟨z0, g0⟩ := get_some (i := 0) hx (by decide)
 obtain ⟨z1, g1⟩ := get_some (i := 1) hx (by decide)
 obtain ⟨A, n, c, ps, e0, h1, h2, h3⟩ := rd_rows (f := PL.enc) (ok := PL.ok) Tryz.underlying22 cel51 (by decide) PL.enc_len (fun h => rd_pl h) ((hf 0 ⟨"Players", 22, 0, false, "", "", 0⟩ rfl).trans g0)
 obtain ⟨B, m, k, ss, e1, h4, h5, h6⟩ := rd_rows (f := SH.enc) (ok := SH.ok) Tryz.underlying23 cel54 (by decide) SH.enc_len (fun h => rd_sh h) ((hf 1 ⟨"Shots", 23, 1, false, "", "", 24⟩ rfl).trans g1)
 have e0 : [c0] = [.slice A n c] := by rw [← e0]; simp only [cel22]; rfl
 have e1 : [c1] = [.slice B m k] := by rw [← e1]; simp only [cel23]; rfl
 simp only [List.cons.injEq, and_true] at e0 e1
 exact ⟨A, B, n, m, c, k, ps, ss, by rw [e0, e1], h2, h5, h1, h4, h3, h6⟩
/-- Bytes. -/
theorem rd_bytes {v : Value} {d : DataW H} {p : List MemPlace} (h : DataW.Trod enc Tryz.prog W 0 spare held 37 v d p) (hv : ∃ a n c, v = .slice a n c) : ∃ (A : Option Addr) (n c : Nat) (l : List Nat), v = .slice A n c ∧ n ≤ c ∧ Sl W none' A n 1 (u8s l) ∧ ∀ x ∈ l, x < 256 := by
 obtain ⟨a, n, c, rfl⟩ := hv
 obtain ⟨fuel, h⟩ := h
 obtain ⟨A, n', c', l, e0, h1, h2, h3⟩ := rd_rows (f := fun x : Nat => [.int .u8 (x : Int)]) (ok := fun x => x < 256) Tryz.underlying37 cel5 (by decide) (fun _ => rfl) (fun h => rd_u8 h) h
 have e0 : [Value.slice a n c] = [.slice A n' c'] := e0
 simp only [List.cons.injEq, and_true] at e0
 rw [u8s_flat] at h2
 exact ⟨A, n', c', l, e0, h1, h2, h3⟩
end
theorem own : ownKnob Tryz.prog.godebug = none := by kernel_rfl
theorem laidOut : laidOutB Tryz.prog = true := by kernel_rfl
theorem gPl : Tryz.prog.globalNamed "embrasure/view.players" = some 0 := by kernel_rfl
theorem gSh : Tryz.prog.globalNamed "embrasure/view.shots" = some 1 := by kernel_rfl
theorem tPl : (Tryz.prog.globals[0]?).map (·.type) = some 78 := by kernel_rfl
theorem tSh : (Tryz.prog.globals[1]?).map (·.type) = some 78 := by kernel_rfl
def laid2 : List (String × DataW Unit) := [("embrasure/view.players", Rows.laid_embrasure_view_players), ("embrasure/view.shots", Rows.laid_embrasure_view_shots)]
theorem rd_sort {W : World} {fuel : Nat} {cs : List Value} {a b c : Int} {p : List MemPlace} (h : DataW.trod (fun _ => ()) Tryz.prog W 0 (fun _ => true) false fuel 78 cs = some (.agg [.lit (.int .i64 a), .lit (.int .i64 b), .lit (.int .i64 c)], p)) : cs = [.int .i64 a, .int .i64 b, .int .i64 c] := by
 obtain ⟨xs, n, rfl, he, hl, hx, hf⟩ := DataW.trod_struct Tryz.underlying78 h
 rw [cel78] at hl
 obtain ⟨c0, c1, c2, rfl⟩ := list3 hl
 obtain ⟨z0, z1, z2, rfl⟩ := list3 hx
 have f0 := hf 0 ⟨"fields", 3, 0, false, "", "embrasure/view", 0⟩ rfl
 have f1 := hf 1 ⟨"flag", 3, 1, false, "", "embrasure/view", 8⟩ rfl
 have f2 := hf 2 ⟨"most", 3, 2, false, "", "embrasure/view", 16⟩ rfl
 obtain ⟨n0, e0, y0, _⟩ := DataW.trod_int Tryz.underlying3 (f0.trans rfl)
 obtain ⟨n1, e1, y1, _⟩ := DataW.trod_int Tryz.underlying3 (f1.trans rfl)
 obtain ⟨n2, e2, y2, _⟩ := DataW.trod_int Tryz.underlying3 (f2.trans rfl)
 subst y0 y1 y2
 simp only [cel3, List.drop_zero, List.drop_succ_cons, List.take_succ_cons, List.take_zero, List.cons.injEq, and_true] at e0 e1 e2
 simp only [List.map_cons, List.map_nil, Prod.mk.injEq, DataW.agg.injEq, List.cons.injEq, DataW.lit.injEq, Lit.int.injEq, true_and, and_true] at he
 obtain ⟨⟨rfl, rfl, rfl⟩, _⟩ := he
 rw [e0, e1, e2]
/-- The two sorts, as1 they are listed. -/
theorem gl_of_laid {W : World} (h : laidMetH Tryz.prog laid2 W) : Gl W none' := by
 rw [MakeChecks.laidMetH_plain _ _ _ (by kernel_rfl)] at h
 obtain ⟨ps, ⟨g0, t0, cs0, f0, p0, q0, hg0, ht0, hv0, hd0, ⟨g1, t1, cs1, f1, p1, q1, hg1, ht1, hv1, hd1, _, _⟩, _⟩, _, _⟩ := h
 obtain rfl := Option.some.inj (gPl.symm.trans hg0)
 obtain rfl := Option.some.inj (gSh.symm.trans hg1)
 obtain rfl := Option.some.inj (tPl.symm.trans ht0)
 obtain rfl := Option.some.inj (tSh.symm.trans ht1)
 have e0 := rd_sort hd0
 have e1 := rd_sort hd1
 refine ⟨fun j v hv => ?_, fun j v hv => ?_, none'_no _, none'_no _⟩
 ·rw [World.var?_cell hg0 hv0, ← Array.getElem?_toList, e0, Nat.zero_add]
  exact hv
 ·rw [World.var?_cell hg1 hv1, ← Array.getElem?_toList, e1, Nat.zero_add]
  exact hv
/-- The door's own heap meets the condition. -/
theorem door_met (os : Os) (args : Array Value) : laidMetH Tryz.prog laid2 ((World.doorLaid Tryz.prog 400 os).forCall (fun _ _ => 0) ⟨#[], args, []⟩).memory :=
 laidMetH_of_parts3 (fuel := 8) (laidMet_of_run' 8 (by kernel_rfl) (by kernel_rfl)) (by kernel_rfl) (by kernel_rfl)
end Go.Proofs.YtfccnoccfhgcbaaGreatDoor
