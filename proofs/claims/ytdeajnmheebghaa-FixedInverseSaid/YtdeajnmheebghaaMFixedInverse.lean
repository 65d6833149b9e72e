/- What the law law_law1_FixedInverse computes, without levels: it is true. -/
import Derived.Test.YtdeajnmheebghaaF0
import Derived.Test.YtdeajnmheebghaaAmRow2
import Derived.IntWalk
set_option linter.unusedVariables false
set_option linter.unusedSimpArgs false
set_option maxRecDepth 100000
namespace Go.Proofs.Ytdeajnmheebghaa.Am
open Go Go.IntWalk

theorem w64 {n : Int} (h : -9223372036854775808 ≤ n ∧ n ≤ 9223372036854775807) : IntKind.wrap .i64 n = n := i64_in n h
theorem fdiv_pos {a b : Int} (hb : 0 ≤ b) : Int.fdiv a b = a / b := Int.fdiv_eq_ediv_of_nonneg a hb
theorem den_const {α β : Type} {e : β → α} (inj : ∀ a b, e a = e b → a = b) {x : Nat → Option α} (k : Nat) {r : β} (h : ∀ n, x (n + k) = some (e r)) : den e x = some r :=
  den_of inj k (y := some r) (fun r' hr => by cases hr; exact ⟨0, fun n _ => h n⟩) rfl
theorem tdiv_bd {a b : Int} (b0 : -4611686018427387904 ≤ a) (b1 : a ≤ 4611686018427387904) : -4611686018427387904 ≤ Int.tdiv a b ∧ Int.tdiv a b ≤ 4611686018427387904 := by
  have h : (Int.tdiv a b).natAbs ≤ a.natAbs := by
    rw [Int.natAbs_tdiv]; exact Nat.div_le_self _ _
  omega
/-- the clamped number -/
def cl (a : Int) : Int := if a < -2147483648 then -2147483648 else if 2147483648 < a then 2147483648 else a
theorem cl_lo (a : Int) : -2147483648 ≤ cl a := by unfold cl; (repeat' split) <;> omega
theorem cl_hi (a : Int) : cl a ≤ 2147483648 := by unfold cl; (repeat' split) <;> omega
theorem cl_id {a : Int} (h0 : -2147483648 ≤ a) (h1 : a ≤ 2147483648) : cl a = a := by
  unfold cl; rw [if_neg (by omega), if_neg (by omega)]
theorem cl_zero {a : Int} : cl a = 0 ↔ a = 0 := by unfold cl; (repeat' split) <;> omega
theorem mul_bd {x y : Int} {m n : Nat} (hx0 : -(m : Int) ≤ x) (hx1 : x ≤ m) (hy0 : -(n : Int) ≤ y) (hy1 : y ≤ n) : -((m * n : Nat) : Int) ≤ x * y ∧ x * y ≤ ((m * n : Nat) : Int) := by
  have h : (x * y).natAbs ≤ m * n := by
    rw [Int.natAbs_mul]; exact Nat.mul_le_mul (by omega) (by omega)
  omega
theorem cl_mul (a b : Int) : -4611686018427387904 ≤ cl a * cl b ∧ cl a * cl b ≤ 4611686018427387904 := by
  have := mul_bd (m := 2147483648) (n := 2147483648) (cl_lo a) (cl_hi a) (cl_lo b) (cl_hi b)
  omega
theorem ediv_uniq {a b q : Int} (hb : 0 < b) (h0 : q * b ≤ a) (h1 : a < (q + 1) * b) : a / b = q := by
  have h2 : q ≤ a / b := (Int.le_ediv_iff_mul_le hb).2 h0
  have h3 : a / b < q + 1 := (Int.ediv_lt_iff_lt_mul hb).2 h1
  omega
/-- Go's quotient, lowered where the remainder is negative: the floor. -/
theorem floor_pos {a b : Int} (hb : 0 < b) : (if Int.tmod a b < 0 then Int.tdiv a b - 1 else Int.tdiv a b) = a / b := by
  have h := Int.mul_tdiv_add_tmod a b
  have hm : Int.tmod a b < b := Int.tmod_lt_of_pos a hb
  have hm' : -b < Int.tmod a b := by
    have := Int.tmod_lt_of_pos (-a) hb
    rw [Int.neg_tmod] at this; omega
  have hc : b * Int.tdiv a b = Int.tdiv a b * b := Int.mul_comm _ _
  split
  · symm; refine ediv_uniq hb ?_ ?_
    · rw [Int.sub_mul]; omega
    · rw [show Int.tdiv a b - 1 + 1 = Int.tdiv a b by omega]; omega
  · symm; refine ediv_uniq hb ?_ ?_
    · omega
    · rw [Int.add_mul]; omega
/-- with two signs: the floor of x / y for y other than 0 -/
theorem quot_floor {x y : Int} (hy : y ≠ 0) :
    (if Int.tmod x y = 0 then Int.tdiv x y else if ((decide (x < 0)) != (decide (y < 0))) = true then Int.tdiv x y - 1 else Int.tdiv x y) = (if y < 0 then (-x) / (-y) else x / y) := by
  by_cases hn : y < 0
  · rw [if_pos hn]
    have h := floor_pos (a := -x) (b := -y) (by omega)
    rw [Int.neg_tmod, Int.tmod_neg, Int.neg_tdiv, Int.tdiv_neg, Int.neg_neg] at h
    rw [← h]
    by_cases hz : Int.tmod x y = 0
    · rw [if_pos hz, if_neg (by omega)]
    · rw [if_neg hz]
      by_cases hx : x < 0
      · have : ¬ (-Int.tmod x y < 0) := by
          have := Int.tmod_nonneg (a := -x) y (by omega); rw [Int.neg_tmod] at this; omega
        rw [if_neg this]; simp [hx, hn]
      · have : -Int.tmod x y < 0 := by
          have := Int.tmod_nonneg (a := x) y (by omega); omega
        rw [if_pos this]; simp [hx, hn]
  · rw [if_neg hn]
    have h := floor_pos (a := x) (b := y) (by omega)
    rw [← h]
    by_cases hz : Int.tmod x y = 0
    · rw [if_pos hz, if_neg (by omega)]
    · rw [if_neg hz]
      by_cases hx : x < 0
      · have : Int.tmod x y < 0 := by
          have := Int.tmod_nonneg (a := -x) y (by omega); rw [Int.neg_tmod] at this; omega
        rw [if_pos this]; simp [hx, hn]
      · have : ¬ (Int.tmod x y < 0) := by
          have := Int.tmod_nonneg (a := x) y (by omega); omega
        rw [if_neg this]; simp [hx, hn]
theorem tdiv_pos_eq {a b : Int} (ha : 0 ≤ a) : Int.tdiv a b = a / b := Int.tdiv_eq_ediv_of_nonneg ha
theorem tmod64 {a : Int} (h : 0 ≤ a) : 0 ≤ Int.tmod a 64 ∧ Int.tmod a 64 ≤ 63 := by
  have h1 := Int.tmod_nonneg (a := a) 64 h
  have h2 := Int.tmod_lt_of_pos a (show (0 : Int) < 64 by omega)
  omega
theorem s_fixed_Clamp (a : Int) : F_fixed_Clamp a = some (cl a) := by
  rw [F_fixed_Clamp_eq]; congr 1
  simp only [G_fixed_Clamp, letIn, cl]
  (repeat' split) <;> omega
theorem s_fixed_product (a b : Int) : F_fixed_product a b = some (cl a * cl b) := F_fixed_product_of a b _ (by
  have := cl_mul a b
  simp only [s_fixed_Clamp, Option.bind_some, letIn]
  rw [w64 (by omega)])
theorem s_fixed_ShiftDown (a : Int) : F_fixed_ShiftDown a 16 = some (a / 65536) := F_fixed_ShiftDown_of a 16 _ (by
  have e : (2 : Int) ^ min (Int.toNat 16) 64 = 65536 := by decide
  simp only [letIn, e]
  rw [fdiv_pos (by omega)]; rfl)
theorem s_fixed_MulDown (a b : Int) : F_fixed_MulDown a b = some (cl a * cl b / 65536) := F_fixed_MulDown_of a b _ (by
  simp only [s_fixed_product, s_fixed_ShiftDown, Option.bind_some])
/-- the floor of a quotient, whatever the signs are -/
def fl (x y : Int) : Int := if y < 0 then (-x) / (-y) else x / y
theorem s_fixed_quotient {x y : Int} (hx : -4611686018427387904 ≤ x ∧ x ≤ 4611686018427387904) (hy : y ≠ 0) : F_fixed_quotient x y = some (fl x y) := F_fixed_quotient_of x y _ (by
  have hq := quot_floor (x := x) hy
  have ht := tdiv_bd (a := x) (b := y) hx.1 hx.2
  have hne : (y == 0) = false := by simp; omega
  unfold fl
  rw [← hq]
  simp only [hne, cond_false, letIn, Bool.cond_decide]
  rw [w64 (n := Int.tdiv x y) (by omega), w64 (n := Int.tdiv x y - 1) (by omega)]
  by_cases hz : Int.tmod x y = 0
  · simp [hz]
  · have hnz : (Int.tmod x y != 0) = true := by simpa using hz
    by_cases h1 : x < 0 <;> by_cases h2 : y < 0 <;> simp [hz, hnz, h1, h2])
def divD (a b : Int) : Int × Bool := if b = 0 then (0, false) else (fl (cl a * 65536) (cl b), true)
theorem cl_b (k : Int) : -2147483648 ≤ cl k ∧ cl k ≤ 2147483648 := ⟨cl_lo k, cl_hi k⟩
theorem s_fixed_DivDown (a b : Int) : F_fixed_DivDown a b = some (divD a b) := F_fixed_DivDown_of a b _ (by
  have e : (2 : Int) ^ min (Int.toNat 16) 64 = 65536 := by decide
  have := cl_b a
  simp only [s_fixed_Clamp, Option.bind_some, letIn, e, divD]
  by_cases h : b = 0
  · simp [h]
  · have hne : (b == 0) = false := by simpa using h
    have hc : cl b ≠ 0 := fun k => h (cl_zero.1 k)
    rw [hne, cond_false, if_neg h, w64 (by omega), s_fixed_quotient (by omega) hc]; rfl)
theorem law1_awake : F_law1_awake = some true := den_const (x := X_law1_awake) injO_law1_awake 60 (fun n => by kernel_rfl)
theorem sh_ok {s : Int} (h : 0 ≤ s) : ¬ (Int.tmod s 64 < 0) := by have := tmod64 h; omega
theorem sh_ok4 {s : Int} (h : 0 ≤ s ∧ s ≤ 255) : IntKind.wrap .u8 (Int.tdiv s 4) = s / 4 ∧ ¬ (Int.tmod (s / 4) 64 < 0) := by
  refine ⟨?_, ?_⟩
  · rw [tdiv_pos_eq h.1]; exact Go.IntWalk.u8_in _ (by omega)
  · have := tmod64 (a := s / 4) (by omega); omega
theorem s_ref1_Clamp (a : Int) : F_ref1_Clamp a = some (cl a) := by
  rw [F_ref1_Clamp_eq]; congr 1
  simp only [G_ref1_Clamp, letIn, cl]
  (repeat' split) <;> omega
theorem law_law1_FixedInverse (a b s : Int) (ha : I64 a) (hb : I64 b) (hsf : 0 ≤ s ∧ s ≤ 255) : F_law1_FixedInverse a b s = some true := F_law1_FixedInverse_of a b s _ (by
  obtain ⟨e1, e2⟩ := sh_ok4 hsf
  simp only [letIn, Bool.cond_decide, e1]
  simp only [if_neg (sh_ok hsf.1), if_neg e2]
  generalize Int.fdiv a _ = x
  generalize Int.fdiv b _ = y
  have bx := cl_b x
  have bz := cl_b y
  simp only [law1_awake, s_ref1_Clamp, s_fixed_MulDown, s_fixed_DivDown, Option.bind_some, cond_true]
  generalize cl x = u at *
  generalize cl y = v at *
  by_cases h : v < 1
  · rw [if_pos h]
  · rw [if_neg h]
    have e : divD u v = (u * 65536 / v, true) := by
      unfold divD fl
      rw [if_neg (by omega), cl_id (a := u) bx.1 bx.2, cl_id (a := v) bz.1 bz.2, if_neg (by omega)]
    simp only [e, cond_true]
    have q0 := Int.ediv_mul_le (u * 65536) (b := v) (by omega)
    have q1 := Int.lt_ediv_add_one_mul_self (u * 65536) (b := v) (by omega)
    rw [Int.add_mul] at q1
    generalize u * 65536 / v = q at *
    by_cases h1 : q < -2147483648
    · rw [if_pos h1]
    · rw [if_neg h1]
      by_cases h2 : q > 2147483648
      · rw [if_pos h2]
      · rw [if_neg h2, cl_id (a := q) (by omega) (by omega), cl_id (a := v) bz.1 bz.2]
        generalize q * v = p at *
        have t : Int.tdiv v 65536 = v / 65536 := tdiv_pos_eq (by omega)
        rw [if_pos (by omega), t, w64 (n := v / 65536) (by omega), w64 (n := v / 65536 + 1) (by omega), w64 (n := u - p / 65536) (by omega), decide_eq_true (by omega)])
end Go.Proofs.Ytdeajnmheebghaa.Am
