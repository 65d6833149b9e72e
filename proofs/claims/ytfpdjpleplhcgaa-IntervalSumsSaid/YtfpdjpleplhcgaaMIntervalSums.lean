/- What the law law_law2_IntervalSums computes, without levels: it is true. -/
import Derived.Test.YtfpdjpleplhcgaaF0
import Derived.Test.YtfpdjpleplhcgaaAmRow2
import Derived.IntWalk
set_option linter.unusedVariables false
set_option linter.unusedSimpArgs false
set_option maxRecDepth 100000
namespace Go.Proofs.Ytfpdjpleplhcgaa.Am
open Go Go.IntWalk

theorem w64 {n : Int} (h : -9223372036854775808 ≤ n ∧ n ≤ 9223372036854775807) : IntKind.wrap .i64 n = n := i64_in n h
theorem wu64 {n : Int} (h : 0 ≤ n ∧ n ≤ 18446744073709551615) : IntKind.wrap .u64 n = n := u64_in n h
theorem den_const {α β : Type} {e : β → α} (inj : ∀ a b, e a = e b → a = b) {x : Nat → Option α} (k : Nat) {r : β} (h : ∀ n, x (n + k) = some (e r)) : den e x = some r :=
  den_of inj k (y := some r) (fun r' hr => by cases hr; exact ⟨0, fun n _ => h n⟩) rfl
/-- the clamped number -/
def cl (a : Int) : Int := if a < -2147483648 then -2147483648 else if 2147483648 < a then 2147483648 else a
theorem cl_lo (a : Int) : -2147483648 ≤ cl a := by unfold cl; (repeat' split) <;> omega
theorem cl_hi (a : Int) : cl a ≤ 2147483648 := by unfold cl; (repeat' split) <;> omega
theorem tdiv_pos_eq {a b : Int} (ha : 0 ≤ a) : Int.tdiv a b = a / b := Int.tdiv_eq_ediv_of_nonneg ha
theorem pow_pos2 (n : Nat) : (0 : Int) < 2 ^ n := Int.pow_pos (by omega)
/-- a valid interval -/
def V2 (a : I2) : Prop := -2147483648 ≤ a.c0 ∧ a.c0 ≤ a.c1 ∧ a.c1 ≤ 2147483648
instance V2.dec (a : I2) : Decidable (V2 a) := by unfold V2; exact inferInstance
theorem V2.b0 {a : I2} (h : V2 a) : -2147483648 ≤ a.c0 ∧ a.c0 ≤ 2147483648 := by unfold V2 at h; omega
theorem V2.b1 {a : I2} (h : V2 a) : -2147483648 ≤ a.c1 ∧ a.c1 ≤ 2147483648 := by unfold V2 at h; omega
def Z2 : I2 := ⟨0, 0⟩
theorem s_interval_Valid (a : I2) : F_interval_Valid a = some (decide (V2 a)) := by
  rw [F_interval_Valid_eq]; congr 1
  rw [Bool.eq_iff_iff, decide_eq_true_eq]
  simp [G_interval_Valid, V2, Bool.cond_decide]
theorem s_ref1_Valid (a : I2) : F_ref1_Valid a = some (decide (V2 a)) := by
  rw [F_ref1_Valid_eq]; congr 1
  rw [Bool.eq_iff_iff, decide_eq_true_eq]
  simp [G_ref1_Valid, V2, Bool.cond_decide]
theorem s_interval_both (a b : I2) : F_interval_both a b = some (decide (V2 a ∧ V2 b)) := F_interval_both_of a b _ (by
  simp only [s_interval_Valid, Option.bind_some, Bool.cond_decide]
  by_cases h : V2 a <;> simp [h])
theorem s_fixed_Clamp (a : Int) : F_fixed_Clamp a = some (cl a) := by
  rw [F_fixed_Clamp_eq]; congr 1
  simp only [G_fixed_Clamp, letIn, cl]
  (repeat' split) <;> omega
theorem s_ref1_Clamp (a : Int) : F_ref1_Clamp a = some (cl a) := by
  rw [F_ref1_Clamp_eq]; congr 1
  simp only [G_ref1_Clamp, letIn, cl]
  (repeat' split) <;> omega
theorem s_interval_limit (a b : Int) : F_interval_limit a b = some ⟨cl a, cl b⟩ := F_interval_limit_of a b _ (by simp only [s_fixed_Clamp, Option.bind_some])
theorem s_ref1_limited (a b : Int) : F_ref1_limited a b = some ⟨cl a, cl b⟩ := F_ref1_limited_of a b _ (by simp only [s_ref1_Clamp, Option.bind_some])
theorem s_interval_Of (a : Int) : F_interval_Of a = some ⟨cl a, cl a⟩ := F_interval_Of_of a _ (by simp only [s_interval_limit, Option.bind_some])
theorem s_ref1_Of (a : Int) : F_ref1_Of a = some ⟨cl a, cl a⟩ := F_ref1_Of_of a _ (by simp only [s_ref1_Clamp, Option.bind_some])
def addI (a b : I2) : I2 := if V2 a ∧ V2 b then ⟨cl (a.c0 + b.c0), cl (a.c1 + b.c1)⟩ else Z2
def subI (a b : I2) : I2 := if V2 a ∧ V2 b then ⟨cl (a.c0 - b.c1), cl (a.c1 - b.c0)⟩ else Z2
def negI (a : I2) : I2 := if V2 a then ⟨-a.c1, -a.c0⟩ else Z2
theorem s_interval_Add (a b : I2) : F_interval_Add a b = some (addI a b) := F_interval_Add_of a b _ (by
  simp only [s_interval_both, Option.bind_some, addI]
  by_cases h : V2 a ∧ V2 b
  · have := h.1.b0; have := h.1.b1; have := h.2.b0; have := h.2.b1
    simp only [h, decide_true, Bool.not_true, cond_false, if_true, letIn]
    rw [w64 (by omega), w64 (by omega), s_interval_limit]; rfl
  · simp [h, Z2])
theorem s_interval_Sub (a b : I2) : F_interval_Sub a b = some (subI a b) := F_interval_Sub_of a b _ (by
  simp only [s_interval_both, Option.bind_some, subI]
  by_cases h : V2 a ∧ V2 b
  · have := h.1.b0; have := h.1.b1; have := h.2.b0; have := h.2.b1
    simp only [h, decide_true, Bool.not_true, cond_false, if_true, letIn]
    rw [w64 (by omega), w64 (by omega), s_interval_limit]; rfl
  · simp [h, Z2])
theorem s_interval_Neg (a : I2) : F_interval_Neg a = some (negI a) := F_interval_Neg_of a _ (by
  simp only [s_interval_Valid, Option.bind_some, negI]
  by_cases h : V2 a
  · have := h.b0; have := h.b1
    simp only [h, decide_true, Bool.not_true, cond_false, if_true, letIn]
    rw [w64 (by omega), w64 (by omega)]; simp
  · simp [h, Z2])
theorem s_ref1_Add (a b : I2) : F_ref1_Add a b = some (addI a b) := F_ref1_Add_of a b _ (by
  simp only [s_ref1_Valid, Option.bind_some, addI]
  by_cases h : V2 a
  · by_cases h' : V2 b
    · have := h.b0; have := h.b1; have := h'.b0; have := h'.b1
      simp only [h, h', decide_true, Bool.not_true, cond_false, and_self, if_true, letIn]
      rw [w64 (by omega), w64 (by omega), s_ref1_limited]; rfl
    · simp [h, h', Z2]
  · simp [h, Z2])
theorem s_ref1_Sub (a b : I2) : F_ref1_Sub a b = some (subI a b) := F_ref1_Sub_of a b _ (by
  simp only [s_ref1_Valid, Option.bind_some, subI]
  by_cases h : V2 a
  · by_cases h' : V2 b
    · have := h.b0; have := h.b1; have := h'.b0; have := h'.b1
      simp only [h, h', decide_true, Bool.not_true, cond_false, and_self, if_true, letIn]
      rw [w64 (by omega), w64 (by omega), s_ref1_limited]; rfl
    · simp [h, h', Z2]
  · simp [h, Z2])
theorem s_ref1_Neg (a : I2) : F_ref1_Neg a = some (negI a) := F_ref1_Neg_of a _ (by
  simp only [s_ref1_Valid, Option.bind_some, negI]
  by_cases h : V2 a
  · have := h.b0; have := h.b1
    simp only [h, decide_true, Bool.not_true, cond_false, if_true, letIn]
    rw [w64 (by omega), w64 (by omega)]; simp
  · simp [h, Z2])
theorem cl_b (k : Int) : -2147483648 ≤ cl k ∧ cl k ≤ 2147483648 := ⟨cl_lo k, cl_hi k⟩
theorem pow_small {d : Nat} (h : d ≤ 31) : (2 : Int) ^ d ≤ 2147483648 := by
  have h : (2 : Nat) ^ d ≤ 2 ^ 31 := Nat.pow_le_pow_right (by omega) h
  have h2 : ((2 ^ d : Nat) : Int) ≤ ((2 ^ 31 : Nat) : Int) := by omega
  simpa using h2
def HasI (a : I2) (x : Int) : Prop := V2 a ∧ a.c0 ≤ x ∧ x ≤ a.c1
instance HasI.dec (a : I2) (x : Int) : Decidable (HasI a x) := by unfold HasI; exact inferInstance
def WithinI (a b : I2) : Prop := V2 a ∧ V2 b ∧ b.c0 ≤ a.c0 ∧ a.c1 ≤ b.c1
instance WithinI.dec (a b : I2) : Decidable (WithinI a b) := by unfold WithinI; exact inferInstance
theorem s_make_Round {n k : Int} (hk : 0 < k) (hk2 : k ≤ 4611686018427387904) : Ans (F_make_Round n k) (fun r => 0 ≤ r ∧ r < k) := Ans.of (F_make_Round_of n k) (by
  have hne : (k == 0) = false := by simp; omega
  simp only [hne, cond_false, letIn, Bool.cond_decide]
  have h1 := Int.tmod_lt_of_pos n hk
  have h2 : -k < Int.tmod n k := by
    have := Int.neg_tmod n k
    have h3 := Int.tmod_lt_of_pos (-n) hk
    omega
  by_cases h : Int.tmod n k < 0
  · rw [if_pos h, w64 (by omega)]; exact Ans.ret (by omega)
  · rw [if_neg h]; exact Ans.ret (by omega))
theorem s_make_Interval (k l : Int) : Ans (F_make_Interval k l) V2 := Ans.of (F_make_Interval_of k l) (by
  simp only [letIn, s_ref1_Clamp, Option.bind_some, Bool.cond_decide]
  refine Ans.bind (s_make_Round (by omega) (by omega)) fun y4 h4 => ?_
  rw [w64 (n := 4 + y4) (by omega), wu64 (n := 4 + y4) (by omega), if_neg (by omega)]
  have hp0 := pow_pos2 (min (4 + y4).toNat 64)
  have hp := pow_small (d := min (4 + y4).toNat 64) (by omega)
  generalize (2 : Int) ^ min (4 + y4).toNat 64 = p at *
  rw [w64 (n := 1 * p) (by omega), w64 (n := 2 * (1 * p)) (by omega), w64 (n := 2 * (1 * p) + 1) (by omega)]
  refine Ans.bind (s_make_Round (by omega) (by omega)) fun y10 h10 => ?_
  refine Ans.bind (s_make_Round (by omega) (by omega)) fun y14 h14 => ?_
  have key : ∀ x y : Int, V2 ⟨if cl y < cl x then cl y else cl x, if cl y > cl x then cl y else cl x⟩ := by
    intro x y
    have := cl_b x; have := cl_b y
    unfold V2; dsimp only
    refine ⟨?_, ?_, ?_⟩ <;> (repeat' split) <;> omega
  cases (IntKind.wrap .i64 ((BitVec.ofInt 64 l &&& BitVec.ofInt 64 1).toNat : Nat) == 0 : Bool) with
  | true =>
    rw [cond_true]
    have hq : Int.tdiv (1 * p) 8 = p / 8 := by rw [Int.one_mul, tdiv_pos_eq (by omega)]
    rw [hq, w64 (n := p / 8) (by omega), w64 (n := 1 + p / 8) (by omega)]
    refine Ans.bind (s_make_Round (by omega) (by omega)) fun y20 h20 => ?_
    exact Ans.ret (key _ _)
  | false => exact Ans.ret (key _ _))
theorem law2_awake : F_law2_awake = some true := den_const (x := X_law2_awake) injO_law2_awake 30 (fun n => by kernel_rfl)
theorem eq2 (a : I2) : ((a.c0 == a.c0) && ((a.c1 == a.c1) && true)) = true := by simp
theorem s_law2_sums (a b : I2) : F_law2_sums a b = some true := F_law2_sums_of a b _ (by
  simp only [s_interval_Valid, s_ref1_Valid, s_interval_Add, s_ref1_Add, s_interval_Sub, s_ref1_Sub, s_interval_Neg, s_ref1_Neg, Option.bind_some, letIn, eq2, beq_self_eq_true, Bool.and_self, Bool.and_true, cond_true])
theorem law_law2_IntervalSums (a b : I2) (x k l m n : Int) (ha : BI2 a) (hb : BI2 b) (hx : I64 x) (hk : I64 k) (hl : I64 l) (hm : I64 m) (hn : I64 n) : F_law2_IntervalSums a b x k l m n = some true := F_law2_IntervalSums_of a b x k l m n _ (by
  obtain ⟨c, hc, vc⟩ := s_make_Interval k l
  obtain ⟨d, hd, vd⟩ := s_make_Interval m n
  simp only [hc, hd, law2_awake, s_law2_sums, s_interval_Of, s_ref1_Of, s_interval_Valid, Option.bind_some, letIn, beq_self_eq_true, Bool.and_true, cond_true, vc, decide_true])
end Go.Proofs.Ytfpdjpleplhcgaa.Am
