/- What the law law_law2_IntervalRootSquares computes, without levels: it is true. -/
import Derived.Test.YtfpdjpleplhcgaaF0
import Derived.Test.YtfpdjpleplhcgaaAmRow2
import Derived.IntWalk
set_option linter.unusedVariables false
set_option linter.unusedSimpArgs false
set_option maxRecDepth 100000
namespace Go.Proofs.Ytfpdjpleplhcgaa.Am
open Go Go.IntWalk

theorem w64 {n : Int} (h : -9223372036854775808 ≤ n ∧ n ≤ 9223372036854775807) : IntKind.wrap .i64 n = n := i64_in n h
theorem wu64 {n : Int} (h : 0 ≤ n ∧ n ≤ 18446744073709551615) : IntKind.wrap .u64 n = n := u64_in n h
theorem fdiv_pos {a b : Int} (hb : 0 ≤ b) : Int.fdiv a b = a / b := Int.fdiv_eq_ediv_of_nonneg a hb
theorem den_const {α β : Type} {e : β → α} (inj : ∀ a b, e a = e b → a = b) {x : Nat → Option α} (k : Nat) {r : β} (h : ∀ n, x (n + k) = some (e r)) : den e x = some r :=
  den_of inj k (y := some r) (fun r' hr => by cases hr; exact ⟨0, fun n _ => h n⟩) rfl
/-- the clamped number -/
def cl (a : Int) : Int := if a < -2147483648 then -2147483648 else if 2147483648 < a then 2147483648 else a
theorem cl_lo (a : Int) : -2147483648 ≤ cl a := by unfold cl; (repeat' split) <;> omega
theorem cl_hi (a : Int) : cl a ≤ 2147483648 := by unfold cl; (repeat' split) <;> omega
theorem cl_id {a : Int} (h0 : -2147483648 ≤ a) (h1 : a ≤ 2147483648) : cl a = a := by
  unfold cl; rw [if_neg (by omega), if_neg (by omega)]
theorem cl_mono {a b : Int} (h : a ≤ b) : cl a ≤ cl b := by unfold cl; (repeat' split) <;> omega
theorem mul_bd {x y : Int} {m n : Nat} (hx0 : -(m : Int) ≤ x) (hx1 : x ≤ m) (hy0 : -(n : Int) ≤ y) (hy1 : y ≤ n) : -((m * n : Nat) : Int) ≤ x * y ∧ x * y ≤ ((m * n : Nat) : Int) := by
  have h : (x * y).natAbs ≤ m * n := by
    rw [Int.natAbs_mul]; exact Nat.mul_le_mul (by omega) (by omega)
  omega
theorem ediv_uniq {a b q : Int} (hb : 0 < b) (h0 : q * b ≤ a) (h1 : a < (q + 1) * b) : a / b = q := by
  have h2 : q ≤ a / b := (Int.le_ediv_iff_mul_le hb).2 h0
  have h3 : a / b < q + 1 := (Int.ediv_lt_iff_lt_mul hb).2 h1
  omega
theorem tdiv_pos_eq {a b : Int} (ha : 0 ≤ a) : Int.tdiv a b = a / b := Int.tdiv_eq_ediv_of_nonneg ha
/-- s <= n / s says that the square is at most n -/
theorem le_div_iff {s n : Int} (hs : 0 < s) (hn : 0 ≤ n) : s ≤ Int.tdiv n s ↔ s * s ≤ n := by
  rw [tdiv_pos_eq hn, Int.le_ediv_iff_mul_le hs]
/-- the root, counted up -/
def isq : Nat → Nat
  | 0 => 0
  | n + 1 => if (isq n + 1) * (isq n + 1) ≤ n + 1 then isq n + 1 else isq n
/-- the root of n, rounded down; 0 for what is not positive -/
def root (n : Int) : Int := (isq n.toNat : Nat)
/-- r is the root of n, rounded down -/
def IsRoot (n r : Int) : Prop := 0 ≤ r ∧ r * r ≤ n ∧ n < (r + 1) * (r + 1)
theorem sq_le {a b : Int} (ha : 0 ≤ a) (h : a ≤ b) : a * a ≤ b * b := Int.mul_le_mul h h ha (by omega)
theorem sq_lt {a b : Int} (_ha : 0 ≤ a) (h : a * a < b * b) (hb : 0 ≤ b) : a < b := by
  rcases Int.lt_or_le a b with k | k
  · exact k
  · have := sq_le hb k; omega
theorem IsRoot.uniq {n r s : Int} (hr : IsRoot n r) (hs : IsRoot n s) : r = s := by
  obtain ⟨r0, r1, r2⟩ := hr
  obtain ⟨s0, s1, s2⟩ := hs
  have h1 : r < s + 1 := sq_lt r0 (by omega) (by omega)
  have h2 : s < r + 1 := sq_lt s0 (by omega) (by omega)
  omega
theorem isq_spec (n : Nat) : isq n * isq n ≤ n ∧ n < (isq n + 1) * (isq n + 1) := by
  induction n with
  | zero => simp [isq]
  | succ n ih =>
    unfold isq
    split
    · rename_i h
      refine ⟨h, ?_⟩
      have e : (isq n + 1 + 1) * (isq n + 1 + 1) = (isq n + 1) * (isq n + 1) + 2 * isq n + 3 := by
        rw [Nat.add_mul, Nat.mul_add]; omega
      omega
    · omega
theorem root_is {n : Int} (h : 0 ≤ n) : IsRoot n (root n) := by
  have hs := isq_spec n.toNat
  unfold root IsRoot
  generalize hq : isq n.toNat = q at hs
  refine ⟨by omega, ?_, ?_⟩
  · have : ((q * q : Nat) : Int) ≤ n := by omega
    rwa [Int.natCast_mul] at this
  · have : n < (((q + 1) * (q + 1) : Nat) : Int) := by omega
    rwa [Int.natCast_mul, Int.natCast_add] at this
theorem root_eq {n r : Int} (h : IsRoot n r) : root n = r := by
  have hn : 0 ≤ n := by
    have := sq_le (Int.le_refl 0) h.1; have := h.2.1; omega
  exact (root_is hn).uniq h
theorem root_neg {n : Int} (h : n ≤ 0) : root n = 0 := by
  unfold root; rw [show n.toNat = 0 by omega]; rfl
theorem root_nonneg (n : Int) : 0 ≤ root n := by unfold root; omega
theorem root_lt {n : Int} (h : n ≤ 9223372036854775807) : root n < 3037000500 := by
  rcases Int.lt_or_le n 0 with k | k
  · rw [root_neg (by omega)]; omega
  · obtain ⟨h0, h1, _⟩ := root_is k
    exact sq_lt h0 (by omega) (by omega)
/-- the root, rounded up -/
def rootUp (n : Int) : Int := if root n * root n < n then root n + 1 else root n
theorem root_sq_bd {n : Int} (h : n ≤ 9223372036854775807) : 0 ≤ root n * root n ∧ root n * root n ≤ 9223372036854775807 := by
  rcases Int.lt_or_le n 0 with k | k
  · rw [root_neg (by omega)]; omega
  · obtain ⟨h0, h1, _⟩ := root_is k
    have := Int.mul_nonneg h0 h0; omega
theorem pow_pos2 (n : Nat) : (0 : Int) < 2 ^ n := Int.pow_pos (by omega)
theorem div_bd {a : Int} {m : Int} (hm : 0 < m) (h0 : -9223372036854775808 ≤ a) (h1 : a ≤ 9223372036854775807) : -9223372036854775808 ≤ a / m ∧ a / m ≤ 9223372036854775807 := by
  constructor
  · rw [Int.le_ediv_iff_mul_le hm]
    have : 9223372036854775808 ≤ 9223372036854775808 * m := by omega
    omega
  · have : a / m < 9223372036854775808 := by
      rw [Int.ediv_lt_iff_lt_mul hm]
      have : 9223372036854775808 ≤ 9223372036854775808 * m := by omega
      omega
    omega
/-- the quotient rounded up -/
def cdiv (a b : Int) : Int := -((-a) / b)
theorem cdiv_split {a b : Int} (hb : 0 < b) : cdiv a b = if a / b * b = a then a / b else a / b + 1 := by
  unfold cdiv
  have h1 := Int.ediv_mul_le a (b := b) (by omega)
  have h2 : a < (a / b + 1) * b := by
    have := Int.lt_ediv_add_one_mul_self a hb; exact this
  split
  · rename_i h
    have : (-a) / b = -(a / b) := ediv_uniq hb (by rw [Int.neg_mul]; omega) (by rw [Int.add_mul, Int.neg_mul]; omega)
    omega
  · rename_i h
    have : (-a) / b = -(a / b) - 1 := by
      refine ediv_uniq hb ?_ ?_
      · rw [Int.sub_mul, Int.neg_mul]; rw [Int.add_mul] at h2; omega
      · rw [show -(a / b) - 1 + 1 = -(a / b) by omega, Int.neg_mul]; omega
    omega
theorem pb {x y : Int} (hx : -2147483648 ≤ x ∧ x ≤ 2147483648) (hy : -2147483648 ≤ y ∧ y ≤ 2147483648) : -4611686018427387904 ≤ x * y ∧ x * y ≤ 4611686018427387904 :=
  mul_bd (m := 2147483648) (n := 2147483648) hx.1 hx.2 hy.1 hy.2
def mn (x y : Int) : Int := if y < x then y else x
def mx (x y : Int) : Int := if y > x then y else x
/-- a valid interval -/
def V2 (a : I2) : Prop := -2147483648 ≤ a.c0 ∧ a.c0 ≤ a.c1 ∧ a.c1 ≤ 2147483648
instance V2.dec (a : I2) : Decidable (V2 a) := by unfold V2; exact inferInstance
theorem V2.b0 {a : I2} (h : V2 a) : -2147483648 ≤ a.c0 ∧ a.c0 ≤ 2147483648 := by unfold V2 at h; omega
theorem V2.b1 {a : I2} (h : V2 a) : -2147483648 ≤ a.c1 ∧ a.c1 ≤ 2147483648 := by unfold V2 at h; omega
def Z2 : I2 := ⟨0, 0⟩
theorem s_interval_Valid (a : I2) : F_interval_Valid a = some (decide (V2 a)) := by
  rw [F_interval_Valid_eq]; congr 1
  rw [Bool.eq_iff_iff, decide_eq_true_eq]
  simp [G_interval_Valid, V2, Bool.cond_decide]
theorem s_interval_both (a b : I2) : F_interval_both a b = some (decide (V2 a ∧ V2 b)) := F_interval_both_of a b _ (by
  simp only [s_interval_Valid, Option.bind_some, Bool.cond_decide]
  by_cases h : V2 a <;> simp [h])
theorem s_fixed_Clamp (a : Int) : F_fixed_Clamp a = some (cl a) := by
  rw [F_fixed_Clamp_eq]; congr 1
  simp only [G_fixed_Clamp, letIn, cl]
  (repeat' split) <;> omega
theorem s_ref1_Clamp (a : Int) : F_ref1_Clamp a = some (cl a) := by
  rw [F_ref1_Clamp_eq]; congr 1
  simp only [G_ref1_Clamp, letIn, cl]
  (repeat' split) <;> omega
theorem s_interval_limit (a b : Int) : F_interval_limit a b = some ⟨cl a, cl b⟩ := F_interval_limit_of a b _ (by simp only [s_fixed_Clamp, Option.bind_some])
theorem s_fixed_ShiftDown (a : Int) : F_fixed_ShiftDown a 16 = some (a / 65536) := F_fixed_ShiftDown_of a 16 _ (by
  have e : (2 : Int) ^ min (Int.toNat 16) 64 = 65536 := by decide
  simp only [letIn, e]
  rw [fdiv_pos (by omega)]; rfl)
theorem s_fixed_ShiftUp {a : Int} (ha : -4611686018427387904 ≤ a ∧ a ≤ 4611686018427387904) : F_fixed_ShiftUp a 16 = some (cdiv a 65536) := F_fixed_ShiftUp_of a 16 _ (by
  have e : (2 : Int) ^ min (Int.toNat 16) 64 = 65536 := by decide
  have hs := cdiv_split (a := a) (b := 65536) (by omega)
  simp only [s_fixed_ShiftDown, Option.bind_some, letIn, e]
  rw [w64 (by omega), w64 (n := a / 65536 + 1) (by omega), hs]
  by_cases h : a / 65536 * 65536 = a
  · simp [h]
  · have e2 : (a / 65536 * 65536 != a) = true := by simp; exact h
    rw [e2, if_neg h]; rfl)
theorem s_interval_outward {a b : Int} (hb : -4611686018427387904 ≤ b ∧ b ≤ 4611686018427387904) : F_interval_outward a b = some ⟨cl (a / 65536), cl (cdiv b 65536)⟩ := F_interval_outward_of a b _ (by
  simp only [s_fixed_ShiftDown, s_fixed_ShiftUp hb, s_interval_limit, Option.bind_some])
theorem mx_bd {l h x y : Int} (hx : l ≤ x ∧ x ≤ h) (hy : l ≤ y ∧ y ≤ h) : l ≤ mx x y ∧ mx x y ≤ h := by unfold mx; split <;> assumption
theorem wp {x y : Int} (hx : -2147483648 ≤ x ∧ x ≤ 2147483648) (hy : -2147483648 ≤ y ∧ y ≤ 2147483648) : IntKind.wrap .i64 (x * y) = x * y := by
  have := pb hx hy; exact w64 (by omega)
def sqI (a : I2) : I2 := if V2 a then
  ⟨cl ((if a.c0 ≤ 0 ∧ a.c1 ≥ 0 then 0 else mn (a.c0 * a.c0) (a.c1 * a.c1)) / 65536), cl (cdiv (mx (a.c0 * a.c0) (a.c1 * a.c1)) 65536)⟩ else Z2
theorem s_interval_Square (a : I2) : F_interval_Square a = some (sqI a) := F_interval_Square_of a _ (by
  simp only [s_interval_Valid, Option.bind_some, sqI]
  by_cases h : V2 a
  · have p1 := pb h.b0 h.b0; have p4 := pb h.b1 h.b1
    simp only [h, decide_true, Bool.not_true, cond_false, if_true, letIn, Bool.cond_decide]
    rw [wp h.b0 h.b0, wp h.b1 h.b1]
    have e := @s_interval_outward (mn (a.c0 * a.c0) (a.c1 * a.c1)) _ (mx_bd p1 p4)
    have e0 := @s_interval_outward 0 _ (mx_bd p1 p4)
    simp only [mn, mx] at e e0 ⊢
    by_cases h0 : a.c0 ≤ 0
    · by_cases h1 : a.c1 ≥ 0
      · simp only [h0, h1, and_self, if_true, e0, Option.bind_some]
      · simp only [h0, h1, and_false, if_true, if_false, e, Option.bind_some]
    · simp only [h0, false_and, if_false, e, Option.bind_some]
  · simp [h, Z2])
theorem cl_b (k : Int) : -2147483648 ≤ cl k ∧ cl k ≤ 2147483648 := ⟨cl_lo k, cl_hi k⟩
theorem pow_small {d : Nat} (h : d ≤ 31) : (2 : Int) ^ d ≤ 2147483648 := by
  have h : (2 : Nat) ^ d ≤ 2 ^ 31 := Nat.pow_le_pow_right (by omega) h
  have h2 : ((2 ^ d : Nat) : Int) ≤ ((2 ^ 31 : Nat) : Int) := by omega
  simpa using h2
theorem wtdiv {n s : Int} (hn : 0 ≤ n) (hn1 : n ≤ 9223372036854775807) (hs : 0 < s) : IntKind.wrap .i64 (Int.tdiv n s) = Int.tdiv n s := by
  rw [tdiv_pos_eq hn]
  have := div_bd hs (a := n) (by omega) (by omega)
  exact w64 this
theorem s_fixed_Root_0 (n : Int) (hn : 1 ≤ n) (hn1 : n ≤ 9223372036854775807) : ∀ (d : Nat) (r i : Int), i + d = 32 → d ≤ 32 → 0 ≤ r → r * r ≤ n → n < (r + 2 ^ d) * (r + 2 ^ d) → r + 2 ^ d ≤ 4294967296 →
    L_fixed_Root_0 n r i = some (root n) := by
  intro d
  induction d with
  | zero =>
    intro r i hi hd h0 h1 h2 h3
    refine L_fixed_Root_0_of n r i _ ?_
    simp only [Bool.cond_decide]
    rw [if_neg (by omega), root_eq (n := n) (r := r) ⟨h0, h1, by simpa using h2⟩]
  | succ d ih =>
    intro r i hi hd h0 h1 h2 h3
    refine L_fixed_Root_0_of n r i _ ?_
    have hp := pow_pos2 d
    have hq : (2 : Int) ^ (d + 1) = 2 ^ d * 2 := Int.pow_succ 2 d
    have e1 : IntKind.wrap .i64 (31 - i) = d := by rw [w64 (by omega)]; omega
    have e2 : (2 : Int) ^ min (Int.toNat (d : Int)) 64 = 2 ^ d := by rw [Nat.min_eq_left (by omega)]; rfl
    have e4 : IntKind.wrap .i64 (i + 1) = i + 1 := w64 (by omega)
    have hs : (0 : Int) < r + 2 ^ d := by omega
    have hne : ((r + 2 ^ d) == 0) = false := by simp; omega
    simp only [letIn, Bool.cond_decide, e1, e2, e4, Int.one_mul]
    rw [w64 (n := 2 ^ d) (by omega), w64 (n := r + 2 ^ d) (by omega)]
    rw [if_pos (by omega), if_neg (by omega), hne, cond_false, wtdiv (by omega) (by omega) hs]
    by_cases h : r + 2 ^ d ≤ Int.tdiv n (r + 2 ^ d)
    · rw [if_pos h]
      rw [le_div_iff hs (by omega)] at h
      exact ih (r + 2 ^ d) (i + 1) (by omega) (by omega) (by omega) h (by rw [show r + 2 ^ d + 2 ^ d = r + 2 ^ (d + 1) by omega]; exact h2) (by omega)
    · rw [if_neg h]
      rw [le_div_iff hs (by omega)] at h
      exact ih r (i + 1) (by omega) (by omega) h0 h1 (by omega) (by omega)
theorem s_fixed_Root (n : Int) (hn1 : n ≤ 9223372036854775807) : F_fixed_Root n = some (root n) := F_fixed_Root_of n _ (by
  simp only [Bool.cond_decide]
  by_cases h : n ≤ 0
  · rw [if_pos h, root_neg h]
  · rw [if_neg h, s_fixed_Root_0 n (by omega) hn1 32 0 0 (by omega) (by omega) (by omega) (by omega) (by omega) (by omega)]; rfl)
theorem s_fixed_RootUp (n : Int) (hn1 : n ≤ 9223372036854775807) : F_fixed_RootUp n = some (rootUp n) := F_fixed_RootUp_of n _ (by
  have h1 := root_sq_bd hn1
  have h2 := root_lt hn1
  have h3 := root_nonneg n
  simp only [s_fixed_Root n hn1, Option.bind_some, letIn, Bool.cond_decide]
  rw [w64 (by omega), w64 (n := root n + 1) (by omega)]
  unfold rootUp
  split <;> rfl)
def pos (a : Int) : Int := if 0 > cl a then 0 else cl a
theorem pos_b (a : Int) : 0 ≤ pos a ∧ pos a ≤ 2147483648 := by
  have := cl_b a; unfold pos; split <;> omega
theorem s_fixed_SqrtDown (a : Int) : F_fixed_SqrtDown a = some (root (pos a * 65536)) := F_fixed_SqrtDown_of a _ (by
  have := pos_b a
  simp only [s_fixed_Clamp, Option.bind_some, letIn]
  show (F_fixed_Root (IntKind.wrap .i64 (pos a * 65536))).bind _ = _
  rw [w64 (by omega), s_fixed_Root _ (by omega)]; rfl)
theorem s_fixed_SqrtUp (a : Int) : F_fixed_SqrtUp a = some (rootUp (pos a * 65536)) := F_fixed_SqrtUp_of a _ (by
  have := pos_b a
  simp only [s_fixed_Clamp, Option.bind_some, letIn]
  show (F_fixed_RootUp (IntKind.wrap .i64 (pos a * 65536))).bind _ = _
  rw [w64 (by omega), s_fixed_RootUp _ (by omega)]; rfl)
def sqrtI (a : I2) : I2 := if V2 a then ⟨root (pos a.c0 * 65536), rootUp (pos a.c1 * 65536)⟩ else Z2
theorem s_interval_Sqrt (a : I2) : F_interval_Sqrt a = some (sqrtI a) := F_interval_Sqrt_of a _ (by
  simp only [s_interval_Valid, s_fixed_SqrtDown, s_fixed_SqrtUp, Option.bind_some, sqrtI]
  by_cases h : V2 a <;> simp [h, Z2])
def WithinI (a b : I2) : Prop := V2 a ∧ V2 b ∧ b.c0 ≤ a.c0 ∧ a.c1 ≤ b.c1
instance WithinI.dec (a b : I2) : Decidable (WithinI a b) := by unfold WithinI; exact inferInstance
theorem s_interval_Within (a b : I2) : F_interval_Within a b = some (decide (WithinI a b)) := F_interval_Within_of a b _ (by
  simp only [s_interval_both, Option.bind_some, WithinI, Bool.cond_decide]
  by_cases h : V2 a <;> by_cases h' : V2 b <;> by_cases h2 : b.c0 ≤ a.c0 <;> simp [h, h', h2])
theorem mn_le_l (x y : Int) : mn x y ≤ x := by unfold mn; split <;> omega
theorem mn_le_r (x y : Int) : mn x y ≤ y := by unfold mn; split <;> omega
theorem le_mx_l (x y : Int) : x ≤ mx x y := by unfold mx; split <;> omega
theorem le_mx_r (x y : Int) : y ≤ mx x y := by unfold mx; split <;> omega
theorem mn_le_mx (x y : Int) : mn x y ≤ mx x y := Int.le_trans (mn_le_l x y) (le_mx_l x y)
def sqlo (a : I2) : Int := if a.c0 ≤ 0 ∧ a.c1 ≥ 0 then 0 else mn (a.c0 * a.c0) (a.c1 * a.c1)
theorem sqI_eq {a : I2} (ha : V2 a) : sqI a = ⟨cl (sqlo a / 65536), cl (cdiv (mx (a.c0 * a.c0) (a.c1 * a.c1)) 65536)⟩ := by unfold sqI; rw [if_pos ha]; rfl
theorem sqrtI_eq {a : I2} (ha : V2 a) : sqrtI a = ⟨root (pos a.c0 * 65536), rootUp (pos a.c1 * 65536)⟩ := by unfold sqrtI; rw [if_pos ha]
theorem sq_nonneg (x : Int) : 0 ≤ x * x := by
  rcases Int.le_total 0 x with h | h
  · exact Int.mul_nonneg h h
  · exact Int.mul_nonneg_of_nonpos_of_nonpos h h
theorem sqlo_le {c : I2} {x : Int} (h0 : c.c0 ≤ x) (h1 : x ≤ c.c1) : sqlo c ≤ x * x := by
  unfold sqlo
  split
  · exact sq_nonneg x
  · rename_i h
    rcases Int.le_total 0 c.c0 with h2 | h2
    · exact Int.le_trans (mn_le_l _ _) (Int.mul_le_mul h0 h0 h2 (by omega))
    · have h3 : c.c1 < 0 := by omega
      have := Int.mul_le_mul (a := -c.c1) (b := -c.c1) (c := -x) (d := -x) (by omega) (by omega) (by omega) (by omega)
      refine Int.le_trans (mn_le_r _ _) ?_
      rwa [Int.neg_mul_neg, Int.neg_mul_neg] at this
theorem sqlo_hi (a : I2) : sqlo a ≤ mx (a.c0 * a.c0) (a.c1 * a.c1) := by
  unfold sqlo; split
  · exact Int.le_trans (sq_nonneg _) (le_mx_l _ _)
  · exact mn_le_mx _ _
theorem root_mono {m n : Int} (h : m ≤ n) : root m ≤ root n := by
  rcases Int.le_total 0 m with hm | hm
  · obtain ⟨a, b, c⟩ := root_is hm
    obtain ⟨d, e, f⟩ := root_is (n := n) (by omega)
    have hb := sq_lt (a := root m) (b := root n + 1) a (by omega) (by omega)
    omega
  · rw [root_neg hm]; exact root_nonneg n
theorem root_le_up (n : Int) : root n ≤ rootUp n := by unfold rootUp; split <;> omega
theorem rootUp_sq {n : Int} (h : 0 ≤ n) : n ≤ rootUp n * rootUp n := by
  obtain ⟨a, b, c⟩ := root_is h
  unfold rootUp; split <;> omega
theorem root_small {n : Int} (h : n ≤ 140737488355328) : rootUp n ≤ 16777216 := by
  have e : root 281474976710656 = 16777216 := root_eq ⟨by omega, by omega, by omega⟩
  have e2 : root n < 16777216 := by
    rcases Int.le_total 0 n with h0 | h0
    · obtain ⟨a, b, c⟩ := root_is h0
      have := sq_lt (a := root n) (b := 16777216) a (by omega) (by omega)
      exact this
    · rw [root_neg h0]; omega
  unfold rootUp; split <;> omega
theorem pos_mono {x y : Int} (h : x ≤ y) : pos x ≤ pos y := by
  have := cl_mono h
  unfold pos; (repeat' split) <;> omega
theorem sqrt_V2 {a : I2} (ha : V2 a) : V2 (sqrtI a) ∧ 0 ≤ (sqrtI a).c0 := by
  rw [sqrtI_eq ha]
  have h1 := root_nonneg (pos a.c0 * 65536)
  have h2 := pos_mono (x := a.c0) (y := a.c1) ha.2.1
  have h3 := root_mono (m := pos a.c0 * 65536) (n := pos a.c1 * 65536) (by omega)
  have h4 := root_le_up (pos a.c1 * 65536)
  have h5 := pos_b a.c1
  have h6 := root_small (n := pos a.c1 * 65536) (by omega)
  unfold V2; dsimp only; omega
theorem root_square {a : I2} (ha : V2 a) (h0 : 0 ≤ a.c0) : WithinI a (sqI (sqrtI a)) := by
  obtain ⟨hv, hs0⟩ := sqrt_V2 ha
  have a01 : a.c0 ≤ a.c1 := ha.2.1
  have b0 := ha.b0; have b1 := ha.b1
  rw [sqI_eq hv]
  have p0 : pos a.c0 = a.c0 := by unfold pos; rw [cl_id (by omega) (by omega), if_neg (by omega)]
  have p1 : pos a.c1 = a.c1 := by unfold pos; rw [cl_id (by omega) (by omega), if_neg (by omega)]
  obtain ⟨r0, r1, r2⟩ := root_is (n := a.c0 * 65536) (by omega)
  have u := rootUp_sq (n := a.c1 * 65536) (by omega)
  have e0 : (sqrtI a).c0 = root (a.c0 * 65536) := by rw [sqrtI_eq ha, p0]
  have e1 : (sqrtI a).c1 = rootUp (a.c1 * 65536) := by rw [sqrtI_eq ha, p1]
  have lo : sqlo (sqrtI a) ≤ a.c0 * 65536 := by
    refine Int.le_trans (sqlo_le (x := (sqrtI a).c0) (Int.le_refl _) hv.2.1) ?_
    rw [e0]; exact r1
  have hi : a.c1 * 65536 ≤ mx ((sqrtI a).c0 * (sqrtI a).c0) ((sqrtI a).c1 * (sqrtI a).c1) := Int.le_trans (by rw [e1]; exact u) (le_mx_r _ _)
  have l2 := sqlo_hi (sqrtI a)
  generalize sqlo (sqrtI a) = s at *
  generalize mx ((sqrtI a).c0 * (sqrtI a).c0) ((sqrtI a).c1 * (sqrtI a).c1) = t at *
  refine ⟨ha, ?_, ?_, ?_⟩
  · unfold V2; dsimp only
    exact ⟨cl_lo _, cl_mono (by unfold cdiv; omega), cl_hi _⟩
  · dsimp only
    have := cl_mono (a := s / 65536) (b := a.c0) (by omega)
    rw [cl_id (a := a.c0) (by omega) (by omega)] at this
    exact this
  · dsimp only
    have := cl_mono (a := a.c1) (b := cdiv t 65536) (by unfold cdiv; omega)
    rw [cl_id (a := a.c1) (by omega) (by omega)] at this
    exact this
theorem s_make_Round {n k : Int} (hk : 0 < k) (hk2 : k ≤ 4611686018427387904) : Ans (F_make_Round n k) (fun r => 0 ≤ r ∧ r < k) := Ans.of (F_make_Round_of n k) (by
  have hne : (k == 0) = false := by simp; omega
  simp only [hne, cond_false, letIn, Bool.cond_decide]
  have h1 := Int.tmod_lt_of_pos n hk
  have h2 : -k < Int.tmod n k := by
    have := Int.neg_tmod n k
    have h3 := Int.tmod_lt_of_pos (-n) hk
    omega
  by_cases h : Int.tmod n k < 0
  · rw [if_pos h, w64 (by omega)]; exact Ans.ret (by omega)
  · rw [if_neg h]; exact Ans.ret (by omega))
theorem s_make_Interval (k l : Int) : Ans (F_make_Interval k l) V2 := Ans.of (F_make_Interval_of k l) (by
  simp only [letIn, s_ref1_Clamp, Option.bind_some, Bool.cond_decide]
  refine Ans.bind (s_make_Round (by omega) (by omega)) fun y4 h4 => ?_
  rw [w64 (n := 4 + y4) (by omega), wu64 (n := 4 + y4) (by omega), if_neg (by omega)]
  have hp0 := pow_pos2 (min (4 + y4).toNat 64)
  have hp := pow_small (d := min (4 + y4).toNat 64) (by omega)
  generalize (2 : Int) ^ min (4 + y4).toNat 64 = p at *
  rw [w64 (n := 1 * p) (by omega), w64 (n := 2 * (1 * p)) (by omega), w64 (n := 2 * (1 * p) + 1) (by omega)]
  refine Ans.bind (s_make_Round (by omega) (by omega)) fun y10 h10 => ?_
  refine Ans.bind (s_make_Round (by omega) (by omega)) fun y14 h14 => ?_
  have key : ∀ x y : Int, V2 ⟨if cl y < cl x then cl y else cl x, if cl y > cl x then cl y else cl x⟩ := by
    intro x y
    have := cl_b x; have := cl_b y
    unfold V2; dsimp only
    refine ⟨?_, ?_, ?_⟩ <;> (repeat' split) <;> omega
  cases (IntKind.wrap .i64 ((BitVec.ofInt 64 l &&& BitVec.ofInt 64 1).toNat : Nat) == 0 : Bool) with
  | true =>
    rw [cond_true]
    have hq : Int.tdiv (1 * p) 8 = p / 8 := by rw [Int.one_mul, tdiv_pos_eq (by omega)]
    rw [hq, w64 (n := p / 8) (by omega), w64 (n := 1 + p / 8) (by omega)]
    refine Ans.bind (s_make_Round (by omega) (by omega)) fun y20 h20 => ?_
    exact Ans.ret (key _ _)
  | false => exact Ans.ret (key _ _))
theorem law2_awake : F_law2_awake = some true := den_const (x := X_law2_awake) injO_law2_awake 30 (fun n => by kernel_rfl)
theorem law_law2_IntervalRootSquares (k l : Int) (hk : I64 k) (hl : I64 l) : F_law2_IntervalRootSquares k l = some true := F_law2_IntervalRootSquares_of k l _ (by
  obtain ⟨a, ha, v⟩ := s_make_Interval k l
  simp only [ha, law2_awake, s_interval_Sqrt, s_interval_Square, s_interval_Within, Option.bind_some, letIn, Bool.cond_decide, cond_true]
  by_cases h : a.c0 < 0
  · rw [if_pos h]
    have b1 := v.b1
    have v2 : V2 ⟨0, if a.c1 > 0 then a.c1 else 0⟩ := by
      unfold V2; dsimp only; split <;> omega
    rw [decide_eq_true (root_square v2 (by simp))]
  · rw [if_neg h, decide_eq_true (root_square v (by omega))])
end Go.Proofs.Ytfpdjpleplhcgaa.Am
