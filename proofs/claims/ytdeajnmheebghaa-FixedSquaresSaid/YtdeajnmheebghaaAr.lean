/- Plain facts on whole numbers: rounding, integer square roots, products of clamped numbers. No Go in it. -/
import Derived.RowKit
import Derived.Test.YtdeajnmheebghaaWMore
namespace Go.Proofs.Ytdeajnmheebghaa.Ar
open Go.RowKit Go.Proofs.YtdeajnmheebghaaW.PrintMore Go.Proofs.YtdeajnmheebghaaW.PrintWords

theorem w64 {n : Int} (h0 : -9223372036854775808 ≤ n) (h1 : n ≤ 9223372036854775807) : wrap64 n = n := by
  unfold wrap64; omega

/-- the clamped number -/
def cl (a : Int) : Int := if a < -2147483648 then -2147483648 else if 2147483648 < a then 2147483648 else a

theorem cl_lo (a : Int) : -2147483648 ≤ cl a := by unfold cl; (repeat' split) <;> omega
theorem cl_hi (a : Int) : cl a ≤ 2147483648 := by unfold cl; (repeat' split) <;> omega
theorem cl_id {a : Int} (h0 : -2147483648 ≤ a) (h1 : a ≤ 2147483648) : cl a = a := by
  unfold cl; rw [if_neg (by omega), if_neg (by omega)]
theorem cl_neg (a : Int) : cl (-a) = -cl a := by unfold cl; (repeat' split) <;> omega
theorem cl_mono {a b : Int} (h : a ≤ b) : cl a ≤ cl b := by unfold cl; (repeat' split) <;> omega
theorem cl_zero {a : Int} : cl a = 0 ↔ a = 0 := by unfold cl; (repeat' split) <;> omega
theorem cl_nonneg {a : Int} (h : 0 ≤ a) : 0 ≤ cl a := by unfold cl; (repeat' split) <;> omega
theorem mnmx (a : Int) : mn (mx a (-2147483648)) 2147483648 = cl a := by
  unfold mn mx cl; (repeat' split) <;> omega
theorem mxmn (a : Int) : mx (-2147483648) (mn a 2147483648) = cl a := by
  unfold mn mx cl; (repeat' split) <;> omega

theorem mul_bd {x y : Int} {m n : Nat} (hx0 : -(m : Int) ≤ x) (hx1 : x ≤ m) (hy0 : -(n : Int) ≤ y) (hy1 : y ≤ n) : -((m * n : Nat) : Int) ≤ x * y ∧ x * y ≤ ((m * n : Nat) : Int) := by
  have h : (x * y).natAbs ≤ m * n := by
    rw [Int.natAbs_mul]; exact Nat.mul_le_mul (by omega) (by omega)
  omega
theorem cl_mul (a b : Int) : -4611686018427387904 ≤ cl a * cl b ∧ cl a * cl b ≤ 4611686018427387904 := by
  have := mul_bd (m := 2147483648) (n := 2147483648) (cl_lo a) (cl_hi a) (cl_lo b) (cl_hi b)
  omega

theorem ediv_uniq {a b q : Int} (hb : 0 < b) (h0 : q * b ≤ a) (h1 : a < (q + 1) * b) : a / b = q := by
  have h2 : q ≤ a / b := (Int.le_ediv_iff_mul_le hb).2 h0
  have h3 : a / b < q + 1 := (Int.ediv_lt_iff_lt_mul hb).2 h1
  omega

/-- Go's quotient, lowered where the remainder is negative: the floor. -/
theorem floor_pos {a b : Int} (hb : 0 < b) : (if Int.tmod a b < 0 then Int.tdiv a b - 1 else Int.tdiv a b) = a / b := by
  have h := Int.mul_tdiv_add_tmod a b
  have hm : Int.tmod a b < b := Int.tmod_lt_of_pos a hb
  have hm' : -b < Int.tmod a b := by
    have := Int.tmod_lt_of_pos (-a) hb
    rw [Int.neg_tmod] at this; omega
  have hc : b * Int.tdiv a b = Int.tdiv a b * b := Int.mul_comm _ _
  split
  · symm; refine ediv_uniq hb ?_ ?_
    · rw [Int.sub_mul]; omega
    · rw [show Int.tdiv a b - 1 + 1 = Int.tdiv a b by omega]; omega
  · symm; refine ediv_uniq hb ?_ ?_
    · omega
    · rw [Int.add_mul]; omega
theorem ceil_pos {a b : Int} (hb : 0 < b) : (if 0 < Int.tmod a b then Int.tdiv a b + 1 else Int.tdiv a b) = -((-a) / b) := by
  have h := floor_pos (a := -a) hb
  rw [Int.neg_tmod, Int.neg_tdiv] at h
  rw [← h]
  split
  · rw [if_pos (by omega)]; omega
  · rw [if_neg (by omega)]; omega
/-- with two signs: the floor of x / y for y other than 0 -/
theorem quot_floor {x y : Int} (hy : y ≠ 0) :
    (if Int.tmod x y = 0 then Int.tdiv x y else if ((decide (x < 0)) != (decide (y < 0))) = true then Int.tdiv x y - 1 else Int.tdiv x y) = (if y < 0 then (-x) / (-y) else x / y) := by
  by_cases hn : y < 0
  · rw [if_pos hn]
    have h := floor_pos (a := -x) (b := -y) (by omega)
    rw [Int.neg_tmod, Int.tmod_neg, Int.neg_tdiv, Int.tdiv_neg, Int.neg_neg] at h
    rw [← h]
    by_cases hz : Int.tmod x y = 0
    · rw [if_pos hz, if_neg (by omega)]
    · rw [if_neg hz]
      by_cases hx : x < 0
      · have : ¬ (-Int.tmod x y < 0) := by
          have := Int.tmod_nonneg (a := -x) y (by omega); rw [Int.neg_tmod] at this; omega
        rw [if_neg this]; simp [hx, hn]
      · have : -Int.tmod x y < 0 := by
          have := Int.tmod_nonneg (a := x) y (by omega); omega
        rw [if_pos this]; simp [hx, hn]
  · rw [if_neg hn]
    have h := floor_pos (a := x) (b := y) (by omega)
    rw [← h]
    by_cases hz : Int.tmod x y = 0
    · rw [if_pos hz, if_neg (by omega)]
    · rw [if_neg hz]
      by_cases hx : x < 0
      · have : Int.tmod x y < 0 := by
          have := Int.tmod_nonneg (a := -x) y (by omega); rw [Int.neg_tmod] at this; omega
        rw [if_pos this]; simp [hx, hn]
      · have : ¬ (Int.tmod x y < 0) := by
          have := Int.tmod_nonneg (a := x) y (by omega); omega
        rw [if_neg this]; simp [hx, hn]

theorem tdiv_pos_eq {a b : Int} (ha : 0 ≤ a) : Int.tdiv a b = a / b := Int.tdiv_eq_ediv_of_nonneg ha

/-- s <= n / s says that the square is at most n -/
theorem le_div_iff {s n : Int} (hs : 0 < s) (hn : 0 ≤ n) : s ≤ Int.tdiv n s ↔ s * s ≤ n := by
  rw [tdiv_pos_eq hn, Int.le_ediv_iff_mul_le hs]

/-- r is the root of n, rounded down -/
def IsRoot (n r : Int) : Prop := 0 ≤ r ∧ r * r ≤ n ∧ n < (r + 1) * (r + 1)
theorem sq_le {a b : Int} (ha : 0 ≤ a) (h : a ≤ b) : a * a ≤ b * b := Int.mul_le_mul h h ha (by omega)
theorem sq_lt {a b : Int} (_ha : 0 ≤ a) (h : a * a < b * b) (hb : 0 ≤ b) : a < b := by
  rcases Int.lt_or_le a b with k | k
  · exact k
  · have := sq_le hb k; omega
theorem IsRoot.uniq {n r s : Int} (hr : IsRoot n r) (hs : IsRoot n s) : r = s := by
  obtain ⟨r0, r1, r2⟩ := hr
  obtain ⟨s0, s1, s2⟩ := hs
  have h1 : r < s + 1 := sq_lt r0 (by omega) (by omega)
  have h2 : s < r + 1 := sq_lt s0 (by omega) (by omega)
  omega
/-- the root, counted up -/
def isq : Nat → Nat
  | 0 => 0
  | n + 1 => if (isq n + 1) * (isq n + 1) ≤ n + 1 then isq n + 1 else isq n
theorem isq_spec (n : Nat) : isq n * isq n ≤ n ∧ n < (isq n + 1) * (isq n + 1) := by
  induction n with
  | zero => simp [isq]
  | succ n ih =>
    unfold isq
    split
    · rename_i h
      refine ⟨h, ?_⟩
      have e : (isq n + 1 + 1) * (isq n + 1 + 1) = (isq n + 1) * (isq n + 1) + 2 * isq n + 3 := by
        rw [Nat.add_mul, Nat.mul_add]; omega
      omega
    · omega
/-- the root of n, rounded down; 0 for what is not positive -/
def root (n : Int) : Int := (isq n.toNat : Nat)
theorem root_is {n : Int} (h : 0 ≤ n) : IsRoot n (root n) := by
  have hs := isq_spec n.toNat
  unfold root IsRoot
  generalize hq : isq n.toNat = q at hs
  refine ⟨by omega, ?_, ?_⟩
  · have : ((q * q : Nat) : Int) ≤ n := by omega
    rwa [Int.natCast_mul] at this
  · have : n < (((q + 1) * (q + 1) : Nat) : Int) := by omega
    rwa [Int.natCast_mul, Int.natCast_add] at this
theorem root_eq {n r : Int} (h : IsRoot n r) : root n = r := by
  have hn : 0 ≤ n := by
    have := sq_le (Int.le_refl 0) h.1; have := h.2.1; omega
  exact (root_is hn).uniq h
theorem root_neg {n : Int} (h : n ≤ 0) : root n = 0 := by
  unfold root; rw [show n.toNat = 0 by omega]; rfl
theorem root_nonneg (n : Int) : 0 ≤ root n := by unfold root; omega
theorem root_lt {n : Int} (h : n ≤ 9223372036854775807) : root n < 3037000500 := by
  rcases Int.lt_or_le n 0 with k | k
  · rw [root_neg (by omega)]; omega
  · obtain ⟨h0, h1, _⟩ := root_is k
    exact sq_lt h0 (by omega) (by omega)
/-- the root, rounded up -/
def rootUp (n : Int) : Int := if root n * root n < n then root n + 1 else root n
theorem root_sq_bd {n : Int} (h : n ≤ 9223372036854775807) : 0 ≤ root n * root n ∧ root n * root n ≤ 9223372036854775807 := by
  rcases Int.lt_or_le n 0 with k | k
  · rw [root_neg (by omega)]; omega
  · obtain ⟨h0, h1, _⟩ := root_is k
    have := Int.mul_nonneg h0 h0; omega

theorem i64_bd {a : Int} (h : (Lit.int .i64 a).wf = true) : -9223372036854775808 ≤ a ∧ a ≤ 9223372036854775807 := by
  simp only [Lit.wf, IntKind.min, IntKind.max, IntKind.signed, IntKind.bits, Bool.and_eq_true, decide_eq_true_eq, if_true] at h
  omega
theorem u8_bd {a : Int} (h : (Lit.int .u8 a).wf = true) : 0 ≤ a ∧ a ≤ 255 := by
  simp only [Lit.wf, IntKind.min, IntKind.max, IntKind.signed, IntKind.bits, Bool.and_eq_true] at h
  simp at h
  omega
theorem pow_pos2 (n : Nat) : (0 : Int) < 2 ^ n := Int.pow_pos (by omega)
theorem div_bd {a : Int} {m : Int} (hm : 0 < m) (h0 : -9223372036854775808 ≤ a) (h1 : a ≤ 9223372036854775807) : -9223372036854775808 ≤ a / m ∧ a / m ≤ 9223372036854775807 := by
  constructor
  · rw [Int.le_ediv_iff_mul_le hm]
    have : 9223372036854775808 ≤ 9223372036854775808 * m := by omega
    omega
  · have : a / m < 9223372036854775808 := by
      rw [Int.ediv_lt_iff_lt_mul hm]
      have : 9223372036854775808 ≤ 9223372036854775808 * m := by omega
      omega
    omega
theorem shr_eq (a s : Int) : shr .i64 a s = a / 2 ^ min s.toNat 64 := rfl
theorem shr_bd {a : Int} (s : Int) (h0 : -9223372036854775808 ≤ a) (h1 : a ≤ 9223372036854775807) : -9223372036854775808 ≤ shr .i64 a s ∧ shr .i64 a s ≤ 9223372036854775807 := by
  rw [shr_eq]; exact div_bd (pow_pos2 _) h0 h1
theorem tmod64 {a : Int} (h : 0 ≤ a) : 0 ≤ Int.tmod a 64 ∧ Int.tmod a 64 ≤ 63 := by
  have h1 := Int.tmod_nonneg (a := a) 64 h
  have h2 := Int.tmod_lt_of_pos a (show (0 : Int) < 64 by omega)
  omega
/-- a number shifted down by 63 or more bits is 0 or -1 -/
theorem div_big {a : Int} {n : Nat} (hn : 63 ≤ n) (h0 : -9223372036854775808 ≤ a) (h1 : a ≤ 9223372036854775807) : a / 2 ^ n = if a < 0 then -1 else 0 := by
  have hp : (9223372036854775808 : Int) ≤ 2 ^ n := by
    have h : (2 : Nat) ^ 63 ≤ 2 ^ n := Nat.pow_le_pow_right (by omega) hn
    have h2 : ((2 ^ 63 : Nat) : Int) ≤ ((2 ^ n : Nat) : Int) := by omega
    simpa using h2
  split
  · exact ediv_uniq (pow_pos2 n) (by omega) (by omega)
  · exact ediv_uniq (pow_pos2 n) (by omega) (by omega)
theorem div_div_pow (a : Int) (m n : Nat) : a / 2 ^ m / 2 ^ n = a / 2 ^ (m + n) := by
  rw [Int.ediv_ediv_of_nonneg (by have := pow_pos2 m; omega), Int.pow_add]
/-- dividing by two to the power of a number or of that number and at most 64 -/
theorem div_min {a : Int} (n : Nat) (h0 : -9223372036854775808 ≤ a) (h1 : a ≤ 9223372036854775807) : a / 2 ^ min n 64 = a / 2 ^ n := by
  rcases Nat.lt_or_ge n 64 with h | h
  · rw [Nat.min_eq_left (by omega)]
  · rw [Nat.min_eq_right h, div_big (by omega) h0 h1, div_big (by omega) h0 h1]
/-- shifted down, then up again: no bit is lost beyond the width -/
theorem shl_back {a : Int} (n : Nat) (hn : n ≤ 63) (h0 : -9223372036854775808 ≤ a) (_h1 : a ≤ 9223372036854775807) : -9223372036854775808 ≤ a / 2 ^ n * 2 ^ n ∧ a / 2 ^ n * 2 ^ n ≤ a := by
  refine ⟨?_, Int.ediv_mul_le a (by have := pow_pos2 n; omega)⟩
  have he : (-9223372036854775808 : Int) = -2 ^ (63 - n) * 2 ^ n := by
    rw [Int.neg_mul, ← Int.pow_add, show 63 - n + n = 63 by omega]; rfl
  rw [he]
  refine Int.mul_le_mul_of_nonneg_right ?_ (by have := pow_pos2 n; omega)
  rw [Int.le_ediv_iff_mul_le (pow_pos2 n), ← he]
  exact h0
/-- the quotient rounded up -/
def cdiv (a b : Int) : Int := -((-a) / b)
theorem cdiv_split {a b : Int} (hb : 0 < b) : cdiv a b = if a / b * b = a then a / b else a / b + 1 := by
  unfold cdiv
  have h1 := Int.ediv_mul_le a (b := b) (by omega)
  have h2 : a < (a / b + 1) * b := by
    have := Int.lt_ediv_add_one_mul_self a hb; exact this
  split
  · rename_i h
    have : (-a) / b = -(a / b) := ediv_uniq hb (by rw [Int.neg_mul]; omega) (by rw [Int.add_mul, Int.neg_mul]; omega)
    omega
  · rename_i h
    have : (-a) / b = -(a / b) - 1 := by
      refine ediv_uniq hb ?_ ?_
      · rw [Int.sub_mul, Int.neg_mul]; rw [Int.add_mul] at h2; omega
      · rw [show -(a / b) - 1 + 1 = -(a / b) by omega, Int.neg_mul]; omega
    omega
theorem shl_is (d : Int) (n : Int) : shl .i64 d n = wrap64 (d * 2 ^ min n.toNat 64) := by
  unfold shl; rw [Go.Proofs.YtdeajnmheebghaaW.PrintLast.i64_w]; rfl
/-- Go's test whether shifting back gives the number again, for every count -/
theorem up_test {a : Int} (n : Nat) (h0 : -9223372036854775808 ≤ a) (h1 : a ≤ 9223372036854775807) : (if wrap64 (a / 2 ^ min n 64 * 2 ^ min n 64) = a then a / 2 ^ min n 64 else wrap64 (a / 2 ^ min n 64 + 1)) = cdiv a (2 ^ n) := by
  have hb := div_bd (pow_pos2 (min n 64)) h0 h1
  rcases Nat.lt_or_ge n 64 with h | h
  · rw [Nat.min_eq_left (by omega)] at *
    have hs := shl_back n (by omega) h0 h1
    rw [w64 hs.1 (by omega), cdiv_split (pow_pos2 n)]
    split
    · rfl
    · rename_i hne
      have : a / 2 ^ n ≠ 9223372036854775807 := by
        intro he
        have hp : (1 : Int) ≤ 2 ^ n := by have := pow_pos2 n; omega
        have : (9223372036854775807 : Int) * 1 ≤ 9223372036854775807 * 2 ^ n := Int.mul_le_mul_of_nonneg_left hp (by omega)
        rw [he] at hs hne; omega
      rw [w64 (by omega) (by omega)]
  · rw [Nat.min_eq_right h, div_big (by omega) h0 h1]
    unfold cdiv
    rcases Int.lt_or_le a (-9223372036854775807) with hm | hm
    · obtain rfl : a = -9223372036854775808 := by omega
      have hp : (18446744073709551616 : Int) ≤ 2 ^ n := by
        have h' : (2 : Nat) ^ 64 ≤ 2 ^ n := Nat.pow_le_pow_right (by omega) h
        have h2 : ((2 ^ 64 : Nat) : Int) ≤ ((2 ^ n : Nat) : Int) := by omega
        simpa using h2
      rw [show (- -9223372036854775808 : Int) / 2 ^ n = 0 from ediv_uniq (pow_pos2 n) (by omega) (by omega)]
      simp [wrap64]
    · rw [div_big (n := n) (a := -a) (by omega) (by omega) (by omega)]
      rcases Int.lt_trichotomy a 0 with hc | hc | hc
      · have e1 : ¬ (0 : Int) = a := by omega
        have e3 : ¬ 0 < a := by omega
        simp [wrap64, hc, e1, e3]
      · subst hc; simp [wrap64]
      · have e1 : ¬ (0 : Int) = a := by omega
        have e2 : ¬ a < 0 := by omega
        simp [wrap64, e1, e2, hc]
end Go.Proofs.Ytdeajnmheebghaa.Ar
