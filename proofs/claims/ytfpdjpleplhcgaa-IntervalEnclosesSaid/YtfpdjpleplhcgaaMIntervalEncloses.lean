/- What the law law_law2_IntervalEncloses computes, without levels: it is true. -/
import Derived.Test.YtfpdjpleplhcgaaF0
import Derived.Test.YtfpdjpleplhcgaaAmRow2
import Derived.IntWalk
set_option linter.unusedVariables false
set_option linter.unusedSimpArgs false
set_option maxRecDepth 100000
namespace Go.Proofs.Ytfpdjpleplhcgaa.Am
open Go Go.IntWalk

theorem w64 {n : Int} (h : -9223372036854775808 ≤ n ∧ n ≤ 9223372036854775807) : IntKind.wrap .i64 n = n := i64_in n h
theorem wu64 {n : Int} (h : 0 ≤ n ∧ n ≤ 18446744073709551615) : IntKind.wrap .u64 n = n := u64_in n h
theorem fdiv_pos {a b : Int} (hb : 0 ≤ b) : Int.fdiv a b = a / b := Int.fdiv_eq_ediv_of_nonneg a hb
theorem den_const {α β : Type} {e : β → α} (inj : ∀ a b, e a = e b → a = b) {x : Nat → Option α} (k : Nat) {r : β} (h : ∀ n, x (n + k) = some (e r)) : den e x = some r :=
  den_of inj k (y := some r) (fun r' hr => by cases hr; exact ⟨0, fun n _ => h n⟩) rfl
theorem tdiv_bd {a b : Int} (b0 : -4611686018427387904 ≤ a) (b1 : a ≤ 4611686018427387904) : -4611686018427387904 ≤ Int.tdiv a b ∧ Int.tdiv a b ≤ 4611686018427387904 := by
  have h : (Int.tdiv a b).natAbs ≤ a.natAbs := by
    rw [Int.natAbs_tdiv]; exact Nat.div_le_self _ _
  omega
/-- the clamped number -/
def cl (a : Int) : Int := if a < -2147483648 then -2147483648 else if 2147483648 < a then 2147483648 else a
theorem cl_lo (a : Int) : -2147483648 ≤ cl a := by unfold cl; (repeat' split) <;> omega
theorem cl_hi (a : Int) : cl a ≤ 2147483648 := by unfold cl; (repeat' split) <;> omega
theorem cl_id {a : Int} (h0 : -2147483648 ≤ a) (h1 : a ≤ 2147483648) : cl a = a := by
  unfold cl; rw [if_neg (by omega), if_neg (by omega)]
theorem cl_mono {a b : Int} (h : a ≤ b) : cl a ≤ cl b := by unfold cl; (repeat' split) <;> omega
theorem mul_bd {x y : Int} {m n : Nat} (hx0 : -(m : Int) ≤ x) (hx1 : x ≤ m) (hy0 : -(n : Int) ≤ y) (hy1 : y ≤ n) : -((m * n : Nat) : Int) ≤ x * y ∧ x * y ≤ ((m * n : Nat) : Int) := by
  have h : (x * y).natAbs ≤ m * n := by
    rw [Int.natAbs_mul]; exact Nat.mul_le_mul (by omega) (by omega)
  omega
theorem cl_mul (a b : Int) : -4611686018427387904 ≤ cl a * cl b ∧ cl a * cl b ≤ 4611686018427387904 := by
  have := mul_bd (m := 2147483648) (n := 2147483648) (cl_lo a) (cl_hi a) (cl_lo b) (cl_hi b)
  omega
theorem ediv_uniq {a b q : Int} (hb : 0 < b) (h0 : q * b ≤ a) (h1 : a < (q + 1) * b) : a / b = q := by
  have h2 : q ≤ a / b := (Int.le_ediv_iff_mul_le hb).2 h0
  have h3 : a / b < q + 1 := (Int.ediv_lt_iff_lt_mul hb).2 h1
  omega
/-- Go's quotient, lowered where the remainder is negative: the floor. -/
theorem floor_pos {a b : Int} (hb : 0 < b) : (if Int.tmod a b < 0 then Int.tdiv a b - 1 else Int.tdiv a b) = a / b := by
  have h := Int.mul_tdiv_add_tmod a b
  have hm : Int.tmod a b < b := Int.tmod_lt_of_pos a hb
  have hm' : -b < Int.tmod a b := by
    have := Int.tmod_lt_of_pos (-a) hb
    rw [Int.neg_tmod] at this; omega
  have hc : b * Int.tdiv a b = Int.tdiv a b * b := Int.mul_comm _ _
  split
  · symm; refine ediv_uniq hb ?_ ?_
    · rw [Int.sub_mul]; omega
    · rw [show Int.tdiv a b - 1 + 1 = Int.tdiv a b by omega]; omega
  · symm; refine ediv_uniq hb ?_ ?_
    · omega
    · rw [Int.add_mul]; omega
theorem ceil_pos {a b : Int} (hb : 0 < b) : (if 0 < Int.tmod a b then Int.tdiv a b + 1 else Int.tdiv a b) = -((-a) / b) := by
  have h := floor_pos (a := -a) hb
  rw [Int.neg_tmod, Int.neg_tdiv] at h
  rw [← h]
  split
  · rw [if_pos (by omega)]; omega
  · rw [if_neg (by omega)]; omega
theorem tdiv_pos_eq {a b : Int} (ha : 0 ≤ a) : Int.tdiv a b = a / b := Int.tdiv_eq_ediv_of_nonneg ha
theorem pow_pos2 (n : Nat) : (0 : Int) < 2 ^ n := Int.pow_pos (by omega)
/-- the quotient rounded up -/
def cdiv (a b : Int) : Int := -((-a) / b)
theorem cdiv_split {a b : Int} (hb : 0 < b) : cdiv a b = if a / b * b = a then a / b else a / b + 1 := by
  unfold cdiv
  have h1 := Int.ediv_mul_le a (b := b) (by omega)
  have h2 : a < (a / b + 1) * b := by
    have := Int.lt_ediv_add_one_mul_self a hb; exact this
  split
  · rename_i h
    have : (-a) / b = -(a / b) := ediv_uniq hb (by rw [Int.neg_mul]; omega) (by rw [Int.add_mul, Int.neg_mul]; omega)
    omega
  · rename_i h
    have : (-a) / b = -(a / b) - 1 := by
      refine ediv_uniq hb ?_ ?_
      · rw [Int.sub_mul, Int.neg_mul]; rw [Int.add_mul] at h2; omega
      · rw [show -(a / b) - 1 + 1 = -(a / b) by omega, Int.neg_mul]; omega
    omega
theorem pb {x y : Int} (hx : -2147483648 ≤ x ∧ x ≤ 2147483648) (hy : -2147483648 ≤ y ∧ y ≤ 2147483648) : -4611686018427387904 ≤ x * y ∧ x * y ≤ 4611686018427387904 :=
  mul_bd (m := 2147483648) (n := 2147483648) hx.1 hx.2 hy.1 hy.2
def mn (x y : Int) : Int := if y < x then y else x
def mx (x y : Int) : Int := if y > x then y else x
theorem mn_self (x : Int) : mn x x = x := by unfold mn; split <;> rfl
theorem mx_self (x : Int) : mx x x = x := by unfold mx; split <;> rfl
/-- a valid interval -/
def V2 (a : I2) : Prop := -2147483648 ≤ a.c0 ∧ a.c0 ≤ a.c1 ∧ a.c1 ≤ 2147483648
instance V2.dec (a : I2) : Decidable (V2 a) := by unfold V2; exact inferInstance
theorem V2.b0 {a : I2} (h : V2 a) : -2147483648 ≤ a.c0 ∧ a.c0 ≤ 2147483648 := by unfold V2 at h; omega
theorem V2.b1 {a : I2} (h : V2 a) : -2147483648 ≤ a.c1 ∧ a.c1 ≤ 2147483648 := by unfold V2 at h; omega
def Z2 : I2 := ⟨0, 0⟩
theorem s_interval_Valid (a : I2) : F_interval_Valid a = some (decide (V2 a)) := by
  rw [F_interval_Valid_eq]; congr 1
  rw [Bool.eq_iff_iff, decide_eq_true_eq]
  simp [G_interval_Valid, V2, Bool.cond_decide]
theorem s_interval_both (a b : I2) : F_interval_both a b = some (decide (V2 a ∧ V2 b)) := F_interval_both_of a b _ (by
  simp only [s_interval_Valid, Option.bind_some, Bool.cond_decide]
  by_cases h : V2 a <;> simp [h])
theorem s_fixed_Clamp (a : Int) : F_fixed_Clamp a = some (cl a) := by
  rw [F_fixed_Clamp_eq]; congr 1
  simp only [G_fixed_Clamp, letIn, cl]
  (repeat' split) <;> omega
theorem s_ref1_Clamp (a : Int) : F_ref1_Clamp a = some (cl a) := by
  rw [F_ref1_Clamp_eq]; congr 1
  simp only [G_ref1_Clamp, letIn, cl]
  (repeat' split) <;> omega
theorem s_interval_limit (a b : Int) : F_interval_limit a b = some ⟨cl a, cl b⟩ := F_interval_limit_of a b _ (by simp only [s_fixed_Clamp, Option.bind_some])
def addI (a b : I2) : I2 := if V2 a ∧ V2 b then ⟨cl (a.c0 + b.c0), cl (a.c1 + b.c1)⟩ else Z2
def subI (a b : I2) : I2 := if V2 a ∧ V2 b then ⟨cl (a.c0 - b.c1), cl (a.c1 - b.c0)⟩ else Z2
def negI (a : I2) : I2 := if V2 a then ⟨-a.c1, -a.c0⟩ else Z2
theorem s_interval_Add (a b : I2) : F_interval_Add a b = some (addI a b) := F_interval_Add_of a b _ (by
  simp only [s_interval_both, Option.bind_some, addI]
  by_cases h : V2 a ∧ V2 b
  · have := h.1.b0; have := h.1.b1; have := h.2.b0; have := h.2.b1
    simp only [h, decide_true, Bool.not_true, cond_false, if_true, letIn]
    rw [w64 (by omega), w64 (by omega), s_interval_limit]; rfl
  · simp [h, Z2])
theorem s_interval_Sub (a b : I2) : F_interval_Sub a b = some (subI a b) := F_interval_Sub_of a b _ (by
  simp only [s_interval_both, Option.bind_some, subI]
  by_cases h : V2 a ∧ V2 b
  · have := h.1.b0; have := h.1.b1; have := h.2.b0; have := h.2.b1
    simp only [h, decide_true, Bool.not_true, cond_false, if_true, letIn]
    rw [w64 (by omega), w64 (by omega), s_interval_limit]; rfl
  · simp [h, Z2])
theorem s_interval_Neg (a : I2) : F_interval_Neg a = some (negI a) := F_interval_Neg_of a _ (by
  simp only [s_interval_Valid, Option.bind_some, negI]
  by_cases h : V2 a
  · have := h.b0; have := h.b1
    simp only [h, decide_true, Bool.not_true, cond_false, if_true, letIn]
    rw [w64 (by omega), w64 (by omega)]; simp
  · simp [h, Z2])
theorem s_ref1_Floor {a b : Int} (ha : -4611686018427387904 ≤ a ∧ a ≤ 4611686018427387904) (hb : 0 < b) : F_ref1_Floor a b = some (a / b) := F_ref1_Floor_of a b _ (by
  have hq := floor_pos (a := a) hb
  have ht := tdiv_bd (a := a) (b := b) ha.1 ha.2
  have hne : (b == 0) = false := by simp; omega
  simp only [hne, cond_false, letIn, Bool.cond_decide]
  rw [w64 (n := Int.tdiv a b) (by omega), w64 (n := Int.tdiv a b - 1) (by omega), ← hq]
  split <;> rfl)
theorem s_ref1_Ceil {a b : Int} (ha : -4611686018427387904 ≤ a ∧ a ≤ 4611686018427387904) (hb : 0 < b) : F_ref1_Ceil a b = some (cdiv a b) := F_ref1_Ceil_of a b _ (by
  have hq := ceil_pos (a := a) hb
  have ht := tdiv_bd (a := a) (b := b) ha.1 ha.2
  have hne : (b == 0) = false := by simp; omega
  simp only [hne, cond_false, letIn, Bool.cond_decide]
  unfold cdiv
  rw [w64 (n := Int.tdiv a b) (by omega), w64 (n := Int.tdiv a b + 1) (by omega), ← hq]
  by_cases h : Int.tmod a b > 0
  · rw [if_pos h, if_pos (by omega)]
  · rw [if_neg h, if_neg (by omega)])
theorem s_fixed_ShiftDown (a : Int) : F_fixed_ShiftDown a 16 = some (a / 65536) := F_fixed_ShiftDown_of a 16 _ (by
  have e : (2 : Int) ^ min (Int.toNat 16) 64 = 65536 := by decide
  simp only [letIn, e]
  rw [fdiv_pos (by omega)]; rfl)
theorem s_fixed_ShiftUp {a : Int} (ha : -4611686018427387904 ≤ a ∧ a ≤ 4611686018427387904) : F_fixed_ShiftUp a 16 = some (cdiv a 65536) := F_fixed_ShiftUp_of a 16 _ (by
  have e : (2 : Int) ^ min (Int.toNat 16) 64 = 65536 := by decide
  have hs := cdiv_split (a := a) (b := 65536) (by omega)
  simp only [s_fixed_ShiftDown, Option.bind_some, letIn, e]
  rw [w64 (by omega), w64 (n := a / 65536 + 1) (by omega), hs]
  by_cases h : a / 65536 * 65536 = a
  · simp [h]
  · have e2 : (a / 65536 * 65536 != a) = true := by simp; exact h
    rw [e2, if_neg h]; rfl)
theorem s_interval_outward {a b : Int} (hb : -4611686018427387904 ≤ b ∧ b ≤ 4611686018427387904) : F_interval_outward a b = some ⟨cl (a / 65536), cl (cdiv b 65536)⟩ := F_interval_outward_of a b _ (by
  simp only [s_fixed_ShiftDown, s_fixed_ShiftUp hb, s_interval_limit, Option.bind_some])
def mulI (a b : I2) : I2 := if V2 a ∧ V2 b then
  ⟨cl (mn (mn (mn (a.c0 * b.c0) (a.c0 * b.c1)) (a.c1 * b.c0)) (a.c1 * b.c1) / 65536), cl (cdiv (mx (mx (mx (a.c0 * b.c0) (a.c0 * b.c1)) (a.c1 * b.c0)) (a.c1 * b.c1)) 65536)⟩ else Z2
theorem mx_bd {l h x y : Int} (hx : l ≤ x ∧ x ≤ h) (hy : l ≤ y ∧ y ≤ h) : l ≤ mx x y ∧ mx x y ≤ h := by unfold mx; split <;> assumption
theorem wp {x y : Int} (hx : -2147483648 ≤ x ∧ x ≤ 2147483648) (hy : -2147483648 ≤ y ∧ y ≤ 2147483648) : IntKind.wrap .i64 (x * y) = x * y := by
  have := pb hx hy; exact w64 (by omega)
theorem s_interval_Mul (a b : I2) : F_interval_Mul a b = some (mulI a b) := F_interval_Mul_of a b _ (by
  simp only [s_interval_both, Option.bind_some, mulI]
  by_cases h : V2 a ∧ V2 b
  · have p1 := pb h.1.b0 h.2.b0; have p2 := pb h.1.b0 h.2.b1; have p3 := pb h.1.b1 h.2.b0; have p4 := pb h.1.b1 h.2.b1
    simp only [h, decide_true, Bool.not_true, cond_false, and_self, if_true, letIn]
    rw [wp h.1.b0 h.2.b0, wp h.1.b0 h.2.b1, wp h.1.b1 h.2.b0, wp h.1.b1 h.2.b1]
    show (F_interval_outward (mn (mn (mn (mn (a.c0 * b.c0) (a.c0 * b.c0)) (a.c0 * b.c1)) (a.c1 * b.c0)) (a.c1 * b.c1)) (mx (mx (mx (mx (a.c0 * b.c0) (a.c0 * b.c0)) (a.c0 * b.c1)) (a.c1 * b.c0)) (a.c1 * b.c1))).bind _ = _
    rw [mn_self, mx_self, s_interval_outward (mx_bd (mx_bd (mx_bd p1 p2) p3) p4)]
    rfl
  · simp [h, Z2])
def sqI (a : I2) : I2 := if V2 a then
  ⟨cl ((if a.c0 ≤ 0 ∧ a.c1 ≥ 0 then 0 else mn (a.c0 * a.c0) (a.c1 * a.c1)) / 65536), cl (cdiv (mx (a.c0 * a.c0) (a.c1 * a.c1)) 65536)⟩ else Z2
theorem s_interval_Square (a : I2) : F_interval_Square a = some (sqI a) := F_interval_Square_of a _ (by
  simp only [s_interval_Valid, Option.bind_some, sqI]
  by_cases h : V2 a
  · have p1 := pb h.b0 h.b0; have p4 := pb h.b1 h.b1
    simp only [h, decide_true, Bool.not_true, cond_false, if_true, letIn, Bool.cond_decide]
    rw [wp h.b0 h.b0, wp h.b1 h.b1]
    have e := @s_interval_outward (mn (a.c0 * a.c0) (a.c1 * a.c1)) _ (mx_bd p1 p4)
    have e0 := @s_interval_outward 0 _ (mx_bd p1 p4)
    simp only [mn, mx] at e e0 ⊢
    by_cases h0 : a.c0 ≤ 0
    · by_cases h1 : a.c1 ≥ 0
      · simp only [h0, h1, and_self, if_true, e0, Option.bind_some]
      · simp only [h0, h1, and_false, if_true, if_false, e, Option.bind_some]
    · simp only [h0, false_and, if_false, e, Option.bind_some]
  · simp [h, Z2])
theorem cl_b (k : Int) : -2147483648 ≤ cl k ∧ cl k ≤ 2147483648 := ⟨cl_lo k, cl_hi k⟩
theorem pow_small {d : Nat} (h : d ≤ 31) : (2 : Int) ^ d ≤ 2147483648 := by
  have h : (2 : Nat) ^ d ≤ 2 ^ 31 := Nat.pow_le_pow_right (by omega) h
  have h2 : ((2 ^ d : Nat) : Int) ≤ ((2 ^ 31 : Nat) : Int) := by omega
  simpa using h2
def WithinI (a b : I2) : Prop := V2 a ∧ V2 b ∧ b.c0 ≤ a.c0 ∧ a.c1 ≤ b.c1
instance WithinI.dec (a b : I2) : Decidable (WithinI a b) := by unfold WithinI; exact inferInstance
theorem mn_le_l (x y : Int) : mn x y ≤ x := by unfold mn; split <;> omega
theorem mn_le_r (x y : Int) : mn x y ≤ y := by unfold mn; split <;> omega
theorem le_mx_l (x y : Int) : x ≤ mx x y := by unfold mx; split <;> omega
theorem le_mx_r (x y : Int) : y ≤ mx x y := by unfold mx; split <;> omega
theorem le_mn {z x y : Int} (h1 : z ≤ x) (h2 : z ≤ y) : z ≤ mn x y := by unfold mn; split <;> assumption
theorem mx_le {z x y : Int} (h1 : x ≤ z) (h2 : y ≤ z) : mx x y ≤ z := by unfold mx; split <;> assumption
/-- a product is between those at the ends -/
theorem lin {c0 c1 x y : Int} (h0 : c0 ≤ x) (h1 : x ≤ c1) : mn (c0 * y) (c1 * y) ≤ x * y ∧ x * y ≤ mx (c0 * y) (c1 * y) := by
  rcases Int.le_total 0 y with hy | hy
  · have p := Int.mul_le_mul_of_nonneg_right h0 hy
    have q := Int.mul_le_mul_of_nonneg_right h1 hy
    exact ⟨Int.le_trans (mn_le_l _ _) p, Int.le_trans q (le_mx_r _ _)⟩
  · have p := Int.mul_le_mul_of_nonpos_right h0 hy
    have q := Int.mul_le_mul_of_nonpos_right h1 hy
    exact ⟨Int.le_trans (mn_le_r _ _) q, Int.le_trans p (le_mx_l _ _)⟩
def mn4 (a b c d : Int) : Int := mn (mn (mn a b) c) d
def mx4 (a b c d : Int) : Int := mx (mx (mx a b) c) d
theorem mn4_le (a b c d : Int) : mn4 a b c d ≤ a ∧ mn4 a b c d ≤ b ∧ mn4 a b c d ≤ c ∧ mn4 a b c d ≤ d := by
  have h1 := mn_le_l (mn (mn a b) c) d; have h2 := mn_le_r (mn (mn a b) c) d
  have h3 := mn_le_l (mn a b) c; have h4 := mn_le_r (mn a b) c
  have h5 := mn_le_l a b; have h6 := mn_le_r a b
  unfold mn4; omega
theorem le_mx4 (a b c d : Int) : a ≤ mx4 a b c d ∧ b ≤ mx4 a b c d ∧ c ≤ mx4 a b c d ∧ d ≤ mx4 a b c d := by
  have h1 := le_mx_l (mx (mx a b) c) d; have h2 := le_mx_r (mx (mx a b) c) d
  have h3 := le_mx_l (mx a b) c; have h4 := le_mx_r (mx a b) c
  have h5 := le_mx_l a b; have h6 := le_mx_r a b
  unfold mx4; omega
theorem prod_in {c0 c1 d0 d1 x y : Int} (h0 : c0 ≤ x) (h1 : x ≤ c1) (h2 : d0 ≤ y) (h3 : y ≤ d1) : mn4 (c0 * d0) (c0 * d1) (c1 * d0) (c1 * d1) ≤ x * y ∧ x * y ≤ mx4 (c0 * d0) (c0 * d1) (c1 * d0) (c1 * d1) := by
  obtain ⟨p, q⟩ := lin (y := y) h0 h1
  have a := lin (y := c0) h2 h3
  have b := lin (y := c1) h2 h3
  rw [Int.mul_comm d0 c0, Int.mul_comm d1 c0, Int.mul_comm y c0] at a
  rw [Int.mul_comm d0 c1, Int.mul_comm d1 c1, Int.mul_comm y c1] at b
  have m := mn4_le (c0 * d0) (c0 * d1) (c1 * d0) (c1 * d1)
  have n := le_mx4 (c0 * d0) (c0 * d1) (c1 * d0) (c1 * d1)
  have l1 := le_mn (z := mn4 (c0 * d0) (c0 * d1) (c1 * d0) (c1 * d1)) m.1 m.2.1
  have l2 := le_mn (z := mn4 (c0 * d0) (c0 * d1) (c1 * d0) (c1 * d1)) m.2.2.1 m.2.2.2
  have u1 := mx_le (z := mx4 (c0 * d0) (c0 * d1) (c1 * d0) (c1 * d1)) n.1 n.2.1
  have u2 := mx_le (z := mx4 (c0 * d0) (c0 * d1) (c1 * d0) (c1 * d1)) n.2.2.1 n.2.2.2
  have k := le_mn (Int.le_trans l1 a.1) (Int.le_trans l2 b.1)
  have k' := mx_le (Int.le_trans a.2 u1) (Int.le_trans b.2 u2)
  exact ⟨Int.le_trans k p, Int.le_trans q k'⟩
theorem mulI_eq {a b : I2} (ha : V2 a) (hb : V2 b) : mulI a b = ⟨cl (mn4 (a.c0 * b.c0) (a.c0 * b.c1) (a.c1 * b.c0) (a.c1 * b.c1) / 65536), cl (cdiv (mx4 (a.c0 * b.c0) (a.c0 * b.c1) (a.c1 * b.c0) (a.c1 * b.c1)) 65536)⟩ := by
  unfold mulI; rw [if_pos ⟨ha, hb⟩]; rfl
theorem addI_eq {a b : I2} (ha : V2 a) (hb : V2 b) : addI a b = ⟨cl (a.c0 + b.c0), cl (a.c1 + b.c1)⟩ := by unfold addI; rw [if_pos ⟨ha, hb⟩]
theorem subI_eq {a b : I2} (ha : V2 a) (hb : V2 b) : subI a b = ⟨cl (a.c0 - b.c1), cl (a.c1 - b.c0)⟩ := by unfold subI; rw [if_pos ⟨ha, hb⟩]
theorem negI_eq {a : I2} (ha : V2 a) : negI a = ⟨-a.c1, -a.c0⟩ := by unfold negI; rw [if_pos ha]
def sqlo (a : I2) : Int := if a.c0 ≤ 0 ∧ a.c1 ≥ 0 then 0 else mn (a.c0 * a.c0) (a.c1 * a.c1)
theorem sqI_eq {a : I2} (ha : V2 a) : sqI a = ⟨cl (sqlo a / 65536), cl (cdiv (mx (a.c0 * a.c0) (a.c1 * a.c1)) 65536)⟩ := by unfold sqI; rw [if_pos ha]; rfl
theorem sq_nonneg (x : Int) : 0 ≤ x * x := by
  rcases Int.le_total 0 x with h | h
  · exact Int.mul_nonneg h h
  · exact Int.mul_nonneg_of_nonpos_of_nonpos h h
theorem sq_in {c0 c1 x : Int} (h0 : c0 ≤ x) (h1 : x ≤ c1) : x * x ≤ mx (c0 * c0) (c1 * c1) := by
  rcases Int.le_total 0 x with h | h
  · exact Int.le_trans (Int.mul_le_mul h1 h1 h (by omega)) (le_mx_r _ _)
  · have : x * x ≤ c0 * c0 := by
      have := Int.mul_le_mul (a := -x) (b := -x) (c := -c0) (d := -c0) (by omega) (by omega) (by omega) (by omega)
      rwa [Int.neg_mul_neg, Int.neg_mul_neg] at this
    exact Int.le_trans this (le_mx_l _ _)
theorem sqlo_le {c : I2} {x : Int} (h0 : c.c0 ≤ x) (h1 : x ≤ c.c1) : sqlo c ≤ x * x := by
  unfold sqlo
  split
  · exact sq_nonneg x
  · rename_i h
    rcases Int.le_total 0 c.c0 with h2 | h2
    · exact Int.le_trans (mn_le_l _ _) (Int.mul_le_mul h0 h0 h2 (by omega))
    · have h3 : c.c1 < 0 := by omega
      have := Int.mul_le_mul (a := -c.c1) (b := -c.c1) (c := -x) (d := -x) (by omega) (by omega) (by omega) (by omega)
      refine Int.le_trans (mn_le_r _ _) ?_
      rwa [Int.neg_mul_neg, Int.neg_mul_neg] at this
theorem s_make_Round {n k : Int} (hk : 0 < k) (hk2 : k ≤ 4611686018427387904) : Ans (F_make_Round n k) (fun r => 0 ≤ r ∧ r < k) := Ans.of (F_make_Round_of n k) (by
  have hne : (k == 0) = false := by simp; omega
  simp only [hne, cond_false, letIn, Bool.cond_decide]
  have h1 := Int.tmod_lt_of_pos n hk
  have h2 : -k < Int.tmod n k := by
    have := Int.neg_tmod n k
    have h3 := Int.tmod_lt_of_pos (-n) hk
    omega
  by_cases h : Int.tmod n k < 0
  · rw [if_pos h, w64 (by omega)]; exact Ans.ret (by omega)
  · rw [if_neg h]; exact Ans.ret (by omega))
theorem s_make_Interval (k l : Int) : Ans (F_make_Interval k l) V2 := Ans.of (F_make_Interval_of k l) (by
  simp only [letIn, s_ref1_Clamp, Option.bind_some, Bool.cond_decide]
  refine Ans.bind (s_make_Round (by omega) (by omega)) fun y4 h4 => ?_
  rw [w64 (n := 4 + y4) (by omega), wu64 (n := 4 + y4) (by omega), if_neg (by omega)]
  have hp0 := pow_pos2 (min (4 + y4).toNat 64)
  have hp := pow_small (d := min (4 + y4).toNat 64) (by omega)
  generalize (2 : Int) ^ min (4 + y4).toNat 64 = p at *
  rw [w64 (n := 1 * p) (by omega), w64 (n := 2 * (1 * p)) (by omega), w64 (n := 2 * (1 * p) + 1) (by omega)]
  refine Ans.bind (s_make_Round (by omega) (by omega)) fun y10 h10 => ?_
  refine Ans.bind (s_make_Round (by omega) (by omega)) fun y14 h14 => ?_
  have key : ∀ x y : Int, V2 ⟨if cl y < cl x then cl y else cl x, if cl y > cl x then cl y else cl x⟩ := by
    intro x y
    have := cl_b x; have := cl_b y
    unfold V2; dsimp only
    refine ⟨?_, ?_, ?_⟩ <;> (repeat' split) <;> omega
  cases (IntKind.wrap .i64 ((BitVec.ofInt 64 l &&& BitVec.ofInt 64 1).toNat : Nat) == 0 : Bool) with
  | true =>
    rw [cond_true]
    have hq : Int.tdiv (1 * p) 8 = p / 8 := by rw [Int.one_mul, tdiv_pos_eq (by omega)]
    rw [hq, w64 (n := p / 8) (by omega), w64 (n := 1 + p / 8) (by omega)]
    refine Ans.bind (s_make_Round (by omega) (by omega)) fun y20 h20 => ?_
    exact Ans.ret (key _ _)
  | false => exact Ans.ret (key _ _))
theorem s_make_Part {a : I2} (h : V2 a) (m n : Int) : Ans (F_make_Part a m n) (fun r => WithinI r a) := Ans.of (F_make_Part_of a m n) (by
  have hb0 := h.b0; have hb1 := h.b1
  have hle : a.c0 ≤ a.c1 := h.2.1
  simp only [letIn]
  rw [w64 (n := a.c1 - a.c0) (by omega), w64 (n := a.c1 - a.c0 + 1) (by omega)]
  refine Ans.bind (s_make_Round (by omega) (by omega)) fun y6 h6 => ?_
  rw [w64 (n := a.c0 + y6) (by omega)]
  cases (IntKind.wrap .i64 ((BitVec.ofInt 64 n &&& BitVec.ofInt 64 1).toNat : Nat) == 0 : Bool) with
  | true =>
    refine Ans.ret ?_
    unfold WithinI V2; dsimp only; omega
  | false =>
    rw [cond_false]
    refine Ans.bind (s_make_Round (by omega) (by omega)) fun y10 h10 => ?_
    rw [w64 (n := a.c0 + y10) (by omega)]
    refine Ans.ret ?_
    unfold WithinI V2; dsimp only
    (repeat' split) <;> omega)
theorem law2_awake : F_law2_awake = some true := den_const (x := X_law2_awake) injO_law2_awake 30 (fun n => by kernel_rfl)
def HoldsI (a : I2) (x : Int) : Prop := x < -2147483648 ∨ x > 2147483648 ∨ (a.c0 ≤ x ∧ x ≤ a.c1)
theorem s_law2_holds {a : I2} {x : Int} (h : HoldsI a x) : F_law2_holds a x = some true := F_law2_holds_of a x _ (by
  unfold HoldsI at h
  simp only [Bool.cond_decide]
  (repeat' split) <;> simp <;> omega)
theorem s_ref1_MulDown (a b : Int) : F_ref1_MulDown a b = some (cl a * cl b / 65536) := F_ref1_MulDown_of a b _ (by
  have := cl_mul a b
  simp only [s_ref1_Clamp, Option.bind_some, letIn]
  rw [w64 (by omega), s_ref1_Floor (by omega) (by omega)]; rfl)
theorem s_ref1_MulUp (a b : Int) : F_ref1_MulUp a b = some (cdiv (cl a * cl b) 65536) := F_ref1_MulUp_of a b _ (by
  have := cl_mul a b
  simp only [s_ref1_Clamp, Option.bind_some, letIn]
  rw [w64 (by omega), s_ref1_Ceil (by omega) (by omega)]; rfl)
theorem holds_cl {l h x : Int} (h1 : l ≤ x) (h2 : x ≤ h) : HoldsI ⟨cl l, cl h⟩ x := by
  unfold HoldsI; dsimp only
  by_cases a : x < -2147483648
  · exact .inl a
  · by_cases b : x > 2147483648
    · exact .inr (.inl b)
    · right; right
      have p := cl_mono h1; have q := cl_mono h2
      rw [cl_id (a := x) (by omega) (by omega)] at p q
      exact ⟨p, q⟩
theorem law_law2_IntervalEncloses (k l m n i j : Int) (hk : I64 k) (hl : I64 l) (hm : I64 m) (hn : I64 n) (hi : I64 i) (hj : I64 j) : F_law2_IntervalEncloses k l m n i j = some true := F_law2_IntervalEncloses_of k l m n i j _ (by
  obtain ⟨a, ha, va⟩ := s_make_Interval k l
  obtain ⟨b, hb, vb⟩ := s_make_Interval m n
  obtain ⟨p, hp, wp⟩ := s_make_Part va i 0
  obtain ⟨q, hq, wq⟩ := s_make_Part vb j 0
  obtain ⟨vp, _, p1, p2⟩ := wp
  obtain ⟨vq, _, q1, q2⟩ := wq
  have p3 := vp.b0; have p4 : p.c0 ≤ p.c1 := vp.2.1; have q3 := vq.b0; have q4 : q.c0 ≤ q.c1 := vq.2.1
  have e1 : HoldsI (addI a b) (p.c0 + q.c0) := by rw [addI_eq va vb]; exact holds_cl (by omega) (by omega)
  have e2 : HoldsI (subI a b) (p.c0 - q.c0) := by rw [subI_eq va vb]; exact holds_cl (by omega) (by omega)
  have c1 : cl p.c0 = p.c0 := cl_id p3.1 p3.2
  have c2 : cl q.c0 = q.c0 := cl_id q3.1 q3.2
  obtain ⟨m1, m2⟩ := prod_in (c0 := a.c0) (c1 := a.c1) (d0 := b.c0) (d1 := b.c1) (x := p.c0) (y := q.c0) (by omega) (by omega) (by omega) (by omega)
  have s1 := sqlo_le (c := a) (x := p.c0) (by omega) (by omega)
  have s2 := sq_in (c0 := a.c0) (c1 := a.c1) (x := p.c0) (by omega) (by omega)
  have e3 : HoldsI (mulI a b) (p.c0 * q.c0 / 65536) := by
    rw [mulI_eq va vb]
    generalize p.c0 * q.c0 = z at *
    exact holds_cl (by omega) (by unfold cdiv; omega)
  have e4 : HoldsI (mulI a b) (cdiv (p.c0 * q.c0) 65536) := by
    rw [mulI_eq va vb]
    generalize p.c0 * q.c0 = z at *
    exact holds_cl (by unfold cdiv; omega) (by unfold cdiv; omega)
  have e5 : HoldsI (sqI a) (p.c0 * p.c0 / 65536) := by
    rw [sqI_eq va]
    generalize p.c0 * p.c0 = z at *
    exact holds_cl (by omega) (by unfold cdiv; omega)
  have e6 : HoldsI (negI a) (0 - p.c0) := by
    rw [negI_eq va]; unfold HoldsI; dsimp only; omega
  simp only [ha, hb, hp, hq, law2_awake, s_interval_Add, s_interval_Sub, s_interval_Mul, s_interval_Square, s_interval_Neg, s_ref1_MulDown, s_ref1_MulUp, Option.bind_some, letIn, cond_true, c1, c2]
  rw [w64 (n := p.c0 + q.c0) (by omega), w64 (n := p.c0 - q.c0) (by omega), w64 (n := 0 - p.c0) (by omega)]
  simp only [s_law2_holds e1, s_law2_holds e2, s_law2_holds e3, s_law2_holds e4, s_law2_holds e5, s_law2_holds e6, Option.bind_some, cond_true])
end Go.Proofs.Ytfpdjpleplhcgaa.Am
