/- What the law law_law1_FixedRoundings computes, without levels: it is true. -/
import Derived.Test.YtdeajnmheebghaaF0
import Derived.Test.YtdeajnmheebghaaAmRow2
import Derived.IntWalk
set_option linter.unusedVariables false
set_option linter.unusedSimpArgs false
set_option maxRecDepth 100000
namespace Go.Proofs.Ytdeajnmheebghaa.Am
open Go Go.IntWalk

theorem w64 {n : Int} (h : -9223372036854775808 ≤ n ∧ n ≤ 9223372036854775807) : IntKind.wrap .i64 n = n := i64_in n h
theorem fdiv_pos {a b : Int} (hb : 0 ≤ b) : Int.fdiv a b = a / b := Int.fdiv_eq_ediv_of_nonneg a hb
theorem den_const {α β : Type} {e : β → α} (inj : ∀ a b, e a = e b → a = b) {x : Nat → Option α} (k : Nat) {r : β} (h : ∀ n, x (n + k) = some (e r)) : den e x = some r :=
  den_of inj k (y := some r) (fun r' hr => by cases hr; exact ⟨0, fun n _ => h n⟩) rfl
/-- the clamped number -/
def cl (a : Int) : Int := if a < -2147483648 then -2147483648 else if 2147483648 < a then 2147483648 else a
theorem cl_lo (a : Int) : -2147483648 ≤ cl a := by unfold cl; (repeat' split) <;> omega
theorem cl_hi (a : Int) : cl a ≤ 2147483648 := by unfold cl; (repeat' split) <;> omega
theorem mul_bd {x y : Int} {m n : Nat} (hx0 : -(m : Int) ≤ x) (hx1 : x ≤ m) (hy0 : -(n : Int) ≤ y) (hy1 : y ≤ n) : -((m * n : Nat) : Int) ≤ x * y ∧ x * y ≤ ((m * n : Nat) : Int) := by
  have h : (x * y).natAbs ≤ m * n := by
    rw [Int.natAbs_mul]; exact Nat.mul_le_mul (by omega) (by omega)
  omega
theorem cl_mul (a b : Int) : -4611686018427387904 ≤ cl a * cl b ∧ cl a * cl b ≤ 4611686018427387904 := by
  have := mul_bd (m := 2147483648) (n := 2147483648) (cl_lo a) (cl_hi a) (cl_lo b) (cl_hi b)
  omega
theorem ediv_uniq {a b q : Int} (hb : 0 < b) (h0 : q * b ≤ a) (h1 : a < (q + 1) * b) : a / b = q := by
  have h2 : q ≤ a / b := (Int.le_ediv_iff_mul_le hb).2 h0
  have h3 : a / b < q + 1 := (Int.ediv_lt_iff_lt_mul hb).2 h1
  omega
theorem tdiv_pos_eq {a b : Int} (ha : 0 ≤ a) : Int.tdiv a b = a / b := Int.tdiv_eq_ediv_of_nonneg ha
theorem tmod64 {a : Int} (h : 0 ≤ a) : 0 ≤ Int.tmod a 64 ∧ Int.tmod a 64 ≤ 63 := by
  have h1 := Int.tmod_nonneg (a := a) 64 h
  have h2 := Int.tmod_lt_of_pos a (show (0 : Int) < 64 by omega)
  omega
/-- the quotient rounded up -/
def cdiv (a b : Int) : Int := -((-a) / b)
theorem cdiv_split {a b : Int} (hb : 0 < b) : cdiv a b = if a / b * b = a then a / b else a / b + 1 := by
  unfold cdiv
  have h1 := Int.ediv_mul_le a (b := b) (by omega)
  have h2 : a < (a / b + 1) * b := by
    have := Int.lt_ediv_add_one_mul_self a hb; exact this
  split
  · rename_i h
    have : (-a) / b = -(a / b) := ediv_uniq hb (by rw [Int.neg_mul]; omega) (by rw [Int.add_mul, Int.neg_mul]; omega)
    omega
  · rename_i h
    have : (-a) / b = -(a / b) - 1 := by
      refine ediv_uniq hb ?_ ?_
      · rw [Int.sub_mul, Int.neg_mul]; rw [Int.add_mul] at h2; omega
      · rw [show -(a / b) - 1 + 1 = -(a / b) by omega, Int.neg_mul]; omega
    omega
theorem s_fixed_Clamp (a : Int) : F_fixed_Clamp a = some (cl a) := by
  rw [F_fixed_Clamp_eq]; congr 1
  simp only [G_fixed_Clamp, letIn, cl]
  (repeat' split) <;> omega
theorem s_fixed_product (a b : Int) : F_fixed_product a b = some (cl a * cl b) := F_fixed_product_of a b _ (by
  have := cl_mul a b
  simp only [s_fixed_Clamp, Option.bind_some, letIn]
  rw [w64 (by omega)])
theorem s_fixed_ShiftDown (a : Int) : F_fixed_ShiftDown a 16 = some (a / 65536) := F_fixed_ShiftDown_of a 16 _ (by
  have e : (2 : Int) ^ min (Int.toNat 16) 64 = 65536 := by decide
  simp only [letIn, e]
  rw [fdiv_pos (by omega)]; rfl)
theorem s_fixed_MulDown (a b : Int) : F_fixed_MulDown a b = some (cl a * cl b / 65536) := F_fixed_MulDown_of a b _ (by
  simp only [s_fixed_product, s_fixed_ShiftDown, Option.bind_some])
theorem s_fixed_ShiftUp {a : Int} (ha : -4611686018427387904 ≤ a ∧ a ≤ 4611686018427387904) : F_fixed_ShiftUp a 16 = some (cdiv a 65536) := F_fixed_ShiftUp_of a 16 _ (by
  have e : (2 : Int) ^ min (Int.toNat 16) 64 = 65536 := by decide
  have hs := cdiv_split (a := a) (b := 65536) (by omega)
  simp only [s_fixed_ShiftDown, Option.bind_some, letIn, e]
  rw [w64 (by omega), w64 (n := a / 65536 + 1) (by omega), hs]
  by_cases h : a / 65536 * 65536 = a
  · simp [h]
  · have e2 : (a / 65536 * 65536 != a) = true := by simp; exact h
    rw [e2, if_neg h]; rfl)
theorem s_fixed_MulUp (a b : Int) : F_fixed_MulUp a b = some (cdiv (cl a * cl b) 65536) := F_fixed_MulUp_of a b _ (by
  simp only [s_fixed_product, s_fixed_ShiftUp (cl_mul a b), Option.bind_some])
theorem law1_awake : F_law1_awake = some true := den_const (x := X_law1_awake) injO_law1_awake 60 (fun n => by kernel_rfl)
theorem sh_ok {s : Int} (h : 0 ≤ s) : ¬ (Int.tmod s 64 < 0) := by have := tmod64 h; omega
theorem sh_ok4 {s : Int} (h : 0 ≤ s ∧ s ≤ 255) : IntKind.wrap .u8 (Int.tdiv s 4) = s / 4 ∧ ¬ (Int.tmod (s / 4) 64 < 0) := by
  refine ⟨?_, ?_⟩
  · rw [tdiv_pos_eq h.1]; exact Go.IntWalk.u8_in _ (by omega)
  · have := tmod64 (a := s / 4) (by omega); omega
theorem tmod0 {p : Int} : Int.tmod p 65536 = 0 ↔ p % 65536 = 0 := by
  rw [← Int.dvd_iff_tmod_eq_zero, ← Int.dvd_iff_emod_eq_zero]
theorem s_ref1_Clamp (a : Int) : F_ref1_Clamp a = some (cl a) := by
  rw [F_ref1_Clamp_eq]; congr 1
  simp only [G_ref1_Clamp, letIn, cl]
  (repeat' split) <;> omega
theorem law_law1_FixedRoundings (a b s : Int) (ha : I64 a) (hb : I64 b) (hsf : 0 ≤ s ∧ s ≤ 255) : F_law1_FixedRoundings a b s = some true := F_law1_FixedRoundings_of a b s _ (by
  obtain ⟨e1, e2⟩ := sh_ok4 hsf
  simp only [letIn, Bool.cond_decide, e1]
  rw [if_neg (sh_ok hsf.1), if_neg e2]
  generalize Int.fdiv a _ = x
  generalize Int.fdiv b _ = y
  have hp := cl_mul x y
  simp only [law1_awake, s_fixed_MulDown, s_fixed_MulUp, s_ref1_Clamp, Option.bind_some, cond_true]
  generalize cl x * cl y = p at *
  unfold cdiv
  rw [w64 (n := -(-p / 65536) - p / 65536) (by omega), w64 (n := p) (by omega)]
  by_cases h : p % 65536 = 0
  · have h1 : -(-p / 65536) - p / 65536 = 0 := by omega
    rw [h1, tmod0.2 h]; rfl
  · have h1 : -(-p / 65536) - p / 65536 = 1 := by omega
    have h2 : (Int.tmod p 65536 == 0) = false := by simp only [beq_eq_false_iff_ne, ne_eq, tmod0]; exact h
    rw [h1, h2]; rfl)
end Go.Proofs.Ytdeajnmheebghaa.Am
