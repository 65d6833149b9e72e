/- What the law law_law1_FixedNegates computes, without levels: it is true. -/
import Derived.Test.YtdeajnmheebghaaF0
import Derived.Test.YtdeajnmheebghaaAmRow2
import Derived.IntWalk
set_option linter.unusedVariables false
set_option linter.unusedSimpArgs false
set_option maxRecDepth 100000
namespace Go.Proofs.Ytdeajnmheebghaa.Am
open Go Go.IntWalk

theorem w64 {n : Int} (h : -9223372036854775808 ≤ n ∧ n ≤ 9223372036854775807) : IntKind.wrap .i64 n = n := i64_in n h
theorem fdiv_pos {a b : Int} (hb : 0 ≤ b) : Int.fdiv a b = a / b := Int.fdiv_eq_ediv_of_nonneg a hb
theorem den_const {α β : Type} {e : β → α} (inj : ∀ a b, e a = e b → a = b) {x : Nat → Option α} (k : Nat) {r : β} (h : ∀ n, x (n + k) = some (e r)) : den e x = some r :=
  den_of inj k (y := some r) (fun r' hr => by cases hr; exact ⟨0, fun n _ => h n⟩) rfl
theorem tdiv_bd {a b : Int} (b0 : -4611686018427387904 ≤ a) (b1 : a ≤ 4611686018427387904) : -4611686018427387904 ≤ Int.tdiv a b ∧ Int.tdiv a b ≤ 4611686018427387904 := by
  have h : (Int.tdiv a b).natAbs ≤ a.natAbs := by
    rw [Int.natAbs_tdiv]; exact Nat.div_le_self _ _
  omega
/-- the clamped number -/
def cl (a : Int) : Int := if a < -2147483648 then -2147483648 else if 2147483648 < a then 2147483648 else a
theorem cl_lo (a : Int) : -2147483648 ≤ cl a := by unfold cl; (repeat' split) <;> omega
theorem cl_hi (a : Int) : cl a ≤ 2147483648 := by unfold cl; (repeat' split) <;> omega
theorem cl_neg (a : Int) : cl (-a) = -cl a := by unfold cl; (repeat' split) <;> omega
theorem cl_zero {a : Int} : cl a = 0 ↔ a = 0 := by unfold cl; (repeat' split) <;> omega
theorem mul_bd {x y : Int} {m n : Nat} (hx0 : -(m : Int) ≤ x) (hx1 : x ≤ m) (hy0 : -(n : Int) ≤ y) (hy1 : y ≤ n) : -((m * n : Nat) : Int) ≤ x * y ∧ x * y ≤ ((m * n : Nat) : Int) := by
  have h : (x * y).natAbs ≤ m * n := by
    rw [Int.natAbs_mul]; exact Nat.mul_le_mul (by omega) (by omega)
  omega
theorem cl_mul (a b : Int) : -4611686018427387904 ≤ cl a * cl b ∧ cl a * cl b ≤ 4611686018427387904 := by
  have := mul_bd (m := 2147483648) (n := 2147483648) (cl_lo a) (cl_hi a) (cl_lo b) (cl_hi b)
  omega
theorem ediv_uniq {a b q : Int} (hb : 0 < b) (h0 : q * b ≤ a) (h1 : a < (q + 1) * b) : a / b = q := by
  have h2 : q ≤ a / b := (Int.le_ediv_iff_mul_le hb).2 h0
  have h3 : a / b < q + 1 := (Int.ediv_lt_iff_lt_mul hb).2 h1
  omega
/-- Go's quotient, lowered where the remainder is negative: the floor. -/
theorem floor_pos {a b : Int} (hb : 0 < b) : (if Int.tmod a b < 0 then Int.tdiv a b - 1 else Int.tdiv a b) = a / b := by
  have h := Int.mul_tdiv_add_tmod a b
  have hm : Int.tmod a b < b := Int.tmod_lt_of_pos a hb
  have hm' : -b < Int.tmod a b := by
    have := Int.tmod_lt_of_pos (-a) hb
    rw [Int.neg_tmod] at this; omega
  have hc : b * Int.tdiv a b = Int.tdiv a b * b := Int.mul_comm _ _
  split
  · symm; refine ediv_uniq hb ?_ ?_
    · rw [Int.sub_mul]; omega
    · rw [show Int.tdiv a b - 1 + 1 = Int.tdiv a b by omega]; omega
  · symm; refine ediv_uniq hb ?_ ?_
    · omega
    · rw [Int.add_mul]; omega
/-- with two signs: the floor of x / y for y other than 0 -/
theorem quot_floor {x y : Int} (hy : y ≠ 0) :
    (if Int.tmod x y = 0 then Int.tdiv x y else if ((decide (x < 0)) != (decide (y < 0))) = true then Int.tdiv x y - 1 else Int.tdiv x y) = (if y < 0 then (-x) / (-y) else x / y) := by
  by_cases hn : y < 0
  · rw [if_pos hn]
    have h := floor_pos (a := -x) (b := -y) (by omega)
    rw [Int.neg_tmod, Int.tmod_neg, Int.neg_tdiv, Int.tdiv_neg, Int.neg_neg] at h
    rw [← h]
    by_cases hz : Int.tmod x y = 0
    · rw [if_pos hz, if_neg (by omega)]
    · rw [if_neg hz]
      by_cases hx : x < 0
      · have : ¬ (-Int.tmod x y < 0) := by
          have := Int.tmod_nonneg (a := -x) y (by omega); rw [Int.neg_tmod] at this; omega
        rw [if_neg this]; simp [hx, hn]
      · have : -Int.tmod x y < 0 := by
          have := Int.tmod_nonneg (a := x) y (by omega); omega
        rw [if_pos this]; simp [hx, hn]
  · rw [if_neg hn]
    have h := floor_pos (a := x) (b := y) (by omega)
    rw [← h]
    by_cases hz : Int.tmod x y = 0
    · rw [if_pos hz, if_neg (by omega)]
    · rw [if_neg hz]
      by_cases hx : x < 0
      · have : Int.tmod x y < 0 := by
          have := Int.tmod_nonneg (a := -x) y (by omega); rw [Int.neg_tmod] at this; omega
        rw [if_pos this]; simp [hx, hn]
      · have : ¬ (Int.tmod x y < 0) := by
          have := Int.tmod_nonneg (a := x) y (by omega); omega
        rw [if_neg this]; simp [hx, hn]
theorem tdiv_pos_eq {a b : Int} (ha : 0 ≤ a) : Int.tdiv a b = a / b := Int.tdiv_eq_ediv_of_nonneg ha
theorem pow_pos2 (n : Nat) : (0 : Int) < 2 ^ n := Int.pow_pos (by omega)
theorem div_bd {a : Int} {m : Int} (hm : 0 < m) (h0 : -9223372036854775808 ≤ a) (h1 : a ≤ 9223372036854775807) : -9223372036854775808 ≤ a / m ∧ a / m ≤ 9223372036854775807 := by
  constructor
  · rw [Int.le_ediv_iff_mul_le hm]
    have : 9223372036854775808 ≤ 9223372036854775808 * m := by omega
    omega
  · have : a / m < 9223372036854775808 := by
      rw [Int.ediv_lt_iff_lt_mul hm]
      have : 9223372036854775808 ≤ 9223372036854775808 * m := by omega
      omega
    omega
theorem tmod64 {a : Int} (h : 0 ≤ a) : 0 ≤ Int.tmod a 64 ∧ Int.tmod a 64 ≤ 63 := by
  have h1 := Int.tmod_nonneg (a := a) 64 h
  have h2 := Int.tmod_lt_of_pos a (show (0 : Int) < 64 by omega)
  omega
/-- the quotient rounded up -/
def cdiv (a b : Int) : Int := -((-a) / b)
theorem cdiv_split {a b : Int} (hb : 0 < b) : cdiv a b = if a / b * b = a then a / b else a / b + 1 := by
  unfold cdiv
  have h1 := Int.ediv_mul_le a (b := b) (by omega)
  have h2 : a < (a / b + 1) * b := by
    have := Int.lt_ediv_add_one_mul_self a hb; exact this
  split
  · rename_i h
    have : (-a) / b = -(a / b) := ediv_uniq hb (by rw [Int.neg_mul]; omega) (by rw [Int.add_mul, Int.neg_mul]; omega)
    omega
  · rename_i h
    have : (-a) / b = -(a / b) - 1 := by
      refine ediv_uniq hb ?_ ?_
      · rw [Int.sub_mul, Int.neg_mul]; rw [Int.add_mul] at h2; omega
      · rw [show -(a / b) - 1 + 1 = -(a / b) by omega, Int.neg_mul]; omega
    omega
theorem s_fixed_Clamp (a : Int) : F_fixed_Clamp a = some (cl a) := by
  rw [F_fixed_Clamp_eq]; congr 1
  simp only [G_fixed_Clamp, letIn, cl]
  (repeat' split) <;> omega
theorem s_fixed_product (a b : Int) : F_fixed_product a b = some (cl a * cl b) := F_fixed_product_of a b _ (by
  have := cl_mul a b
  simp only [s_fixed_Clamp, Option.bind_some, letIn]
  rw [w64 (by omega)])
theorem s_fixed_ShiftDown (a : Int) : F_fixed_ShiftDown a 16 = some (a / 65536) := F_fixed_ShiftDown_of a 16 _ (by
  have e : (2 : Int) ^ min (Int.toNat 16) 64 = 65536 := by decide
  simp only [letIn, e]
  rw [fdiv_pos (by omega)]; rfl)
theorem s_fixed_MulDown (a b : Int) : F_fixed_MulDown a b = some (cl a * cl b / 65536) := F_fixed_MulDown_of a b _ (by
  simp only [s_fixed_product, s_fixed_ShiftDown, Option.bind_some])
theorem s_fixed_ShiftUp {a : Int} (ha : -4611686018427387904 ≤ a ∧ a ≤ 4611686018427387904) : F_fixed_ShiftUp a 16 = some (cdiv a 65536) := F_fixed_ShiftUp_of a 16 _ (by
  have e : (2 : Int) ^ min (Int.toNat 16) 64 = 65536 := by decide
  have hs := cdiv_split (a := a) (b := 65536) (by omega)
  simp only [s_fixed_ShiftDown, Option.bind_some, letIn, e]
  rw [w64 (by omega), w64 (n := a / 65536 + 1) (by omega), hs]
  by_cases h : a / 65536 * 65536 = a
  · simp [h]
  · have e2 : (a / 65536 * 65536 != a) = true := by simp; exact h
    rw [e2, if_neg h]; rfl)
theorem s_fixed_MulUp (a b : Int) : F_fixed_MulUp a b = some (cdiv (cl a * cl b) 65536) := F_fixed_MulUp_of a b _ (by
  simp only [s_fixed_product, s_fixed_ShiftUp (cl_mul a b), Option.bind_some])
/-- the floor of a quotient, whatever the signs are -/
def fl (x y : Int) : Int := if y < 0 then (-x) / (-y) else x / y
theorem s_fixed_quotient {x y : Int} (hx : -4611686018427387904 ≤ x ∧ x ≤ 4611686018427387904) (hy : y ≠ 0) : F_fixed_quotient x y = some (fl x y) := F_fixed_quotient_of x y _ (by
  have hq := quot_floor (x := x) hy
  have ht := tdiv_bd (a := x) (b := y) hx.1 hx.2
  have hne : (y == 0) = false := by simp; omega
  unfold fl
  rw [← hq]
  simp only [hne, cond_false, letIn, Bool.cond_decide]
  rw [w64 (n := Int.tdiv x y) (by omega), w64 (n := Int.tdiv x y - 1) (by omega)]
  by_cases hz : Int.tmod x y = 0
  · simp [hz]
  · have hnz : (Int.tmod x y != 0) = true := by simpa using hz
    by_cases h1 : x < 0 <;> by_cases h2 : y < 0 <;> simp [hz, hnz, h1, h2])
def divD (a b : Int) : Int × Bool := if b = 0 then (0, false) else (fl (cl a * 65536) (cl b), true)
def divU (a b : Int) : Int × Bool := if b = 0 then (0, false) else (-fl (-cl a * 65536) (cl b), true)
theorem fl_bd {x y : Int} (hx : -4611686018427387904 ≤ x ∧ x ≤ 4611686018427387904) : -4611686018427387905 ≤ fl x y ∧ fl x y ≤ 4611686018427387904 := by
  by_cases hy : y = 0
  · subst hy; simp [fl]
  · have hq := quot_floor (x := x) hy
    have ht := tdiv_bd (a := x) (b := y) hx.1 hx.2
    unfold fl; rw [← hq]
    (repeat' split) <;> omega
theorem cl_b (k : Int) : -2147483648 ≤ cl k ∧ cl k ≤ 2147483648 := ⟨cl_lo k, cl_hi k⟩
theorem s_fixed_DivDown (a b : Int) : F_fixed_DivDown a b = some (divD a b) := F_fixed_DivDown_of a b _ (by
  have e : (2 : Int) ^ min (Int.toNat 16) 64 = 65536 := by decide
  have := cl_b a
  simp only [s_fixed_Clamp, Option.bind_some, letIn, e, divD]
  by_cases h : b = 0
  · simp [h]
  · have hne : (b == 0) = false := by simpa using h
    have hc : cl b ≠ 0 := fun k => h (cl_zero.1 k)
    rw [hne, cond_false, if_neg h, w64 (by omega), s_fixed_quotient (by omega) hc]; rfl)
theorem s_fixed_DivUp (a b : Int) : F_fixed_DivUp a b = some (divU a b) := F_fixed_DivUp_of a b _ (by
  have e : (2 : Int) ^ min (Int.toNat 16) 64 = 65536 := by decide
  have := cl_b a
  simp only [s_fixed_Clamp, Option.bind_some, letIn, e, divU]
  by_cases h : b = 0
  · simp [h]
  · have hne : (b == 0) = false := by simpa using h
    have hc : cl b ≠ 0 := fun k => h (cl_zero.1 k)
    have hb := fl_bd (x := -cl a * 65536) (y := cl b) (by omega)
    rw [hne, cond_false, if_neg h, w64 (n := 0 - cl a) (by omega), show 0 - cl a = -cl a by omega, w64 (n := -cl a * 65536) (by omega), s_fixed_quotient (by omega) hc]
    simp only [Option.bind_some]
    rw [w64 (by omega), show 0 - fl (-cl a * 65536) (cl b) = -fl (-cl a * 65536) (cl b) by omega])
theorem law1_awake : F_law1_awake = some true := den_const (x := X_law1_awake) injO_law1_awake 60 (fun n => by kernel_rfl)
theorem sh_ok {s : Int} (h : 0 ≤ s) : ¬ (Int.tmod s 64 < 0) := by have := tmod64 h; omega
theorem sh_ok4 {s : Int} (h : 0 ≤ s ∧ s ≤ 255) : IntKind.wrap .u8 (Int.tdiv s 4) = s / 4 ∧ ¬ (Int.tmod (s / 4) 64 < 0) := by
  refine ⟨?_, ?_⟩
  · rw [tdiv_pos_eq h.1]; exact Go.IntWalk.u8_in _ (by omega)
  · have := tmod64 (a := s / 4) (by omega); omega
theorem law_law1_FixedNegates (a b s : Int) (ha : I64 a) (hb : I64 b) (hsf : 0 ≤ s ∧ s ≤ 255) : F_law1_FixedNegates a b s = some true := F_law1_FixedNegates_of a b s _ (by
  obtain ⟨e1, e2⟩ := sh_ok4 hsf
  have hd : I64 (Int.fdiv a (2 ^ min (Int.tmod s 64).toNat 64)) := by
    unfold I64 at ha ⊢
    rw [fdiv_pos (by have := pow_pos2 (min (Int.tmod s 64).toNat 64); omega)]
    exact div_bd (pow_pos2 _) ha.1 ha.2
  simp only [letIn, Bool.cond_decide, e1]
  rw [if_neg (sh_ok hsf.1), if_neg e2]
  generalize Int.fdiv a _ = x at *
  generalize Int.fdiv b _ = y
  unfold I64 at hd
  by_cases h : x = -9223372036854775808
  · simp [h, law1_awake]
  · have hne : (x == -9223372036854775808) = false := by simpa using h
    have e3 : IntKind.wrap .i64 (0 - x) = -x := by rw [w64 (by omega)]; omega
    have hp := cl_mul x y
    have hfd := fl_bd (x := cl (-x) * 65536) (y := cl y) (by have := cl_b (-x); omega)
    simp only [hne, e3, cond_false, law1_awake, s_fixed_DivUp, s_fixed_DivDown, s_fixed_MulUp, s_fixed_MulDown, Option.bind_some, cond_true, cl_neg, Int.neg_mul, cdiv]
    rw [cl_neg] at hfd
    have e4 : IntKind.wrap .i64 (0 - -(cl x * cl y) / 65536) = -(-(cl x * cl y) / 65536) := by rw [w64 (by omega)]; omega
    have e4' : IntKind.wrap .i64 (-(-(cl x * cl y) / 65536)) = -(-(cl x * cl y) / 65536) := w64 (by omega)
    unfold divU divD
    by_cases hy : y = 0
    · subst hy
      have e0 : cl 0 = 0 := rfl
      have w0 : IntKind.wrap .i64 0 = 0 := w64 (by omega)
      simp [e0, w0]
    · have hyn : (y == 0) = false := by simpa using hy
      have e5 : IntKind.wrap .i64 (0 - fl (-cl x * 65536) (cl y)) = -fl (-cl x * 65536) (cl y) := by rw [w64 (by omega)]; omega
      have e6 : IntKind.wrap .i64 (-fl (-cl x * 65536) (cl y)) = -fl (-cl x * 65536) (cl y) := w64 (by omega)
      have hy2 : (y != 0) = true := by simpa using hy
      simp only [Int.neg_mul] at e6
      simp [hyn, hy, hy2, e6, cl_neg, e4', Int.neg_mul])
end Go.Proofs.Ytdeajnmheebghaa.Am
