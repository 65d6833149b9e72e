/- What the law law_law2_IntervalSets computes, without levels: it is true. -/
import Derived.Test.YtfpdjpleplhcgaaF0
import Derived.Test.YtfpdjpleplhcgaaAmRow2
import Derived.IntWalk
set_option linter.unusedVariables false
set_option linter.unusedSimpArgs false
set_option maxRecDepth 100000
namespace Go.Proofs.Ytfpdjpleplhcgaa.Am
open Go Go.IntWalk

theorem w64 {n : Int} (h : -9223372036854775808 ≤ n ∧ n ≤ 9223372036854775807) : IntKind.wrap .i64 n = n := i64_in n h
theorem wu64 {n : Int} (h : 0 ≤ n ∧ n ≤ 18446744073709551615) : IntKind.wrap .u64 n = n := u64_in n h
theorem fdiv_pos {a b : Int} (hb : 0 ≤ b) : Int.fdiv a b = a / b := Int.fdiv_eq_ediv_of_nonneg a hb
theorem den_const {α β : Type} {e : β → α} (inj : ∀ a b, e a = e b → a = b) {x : Nat → Option α} (k : Nat) {r : β} (h : ∀ n, x (n + k) = some (e r)) : den e x = some r :=
  den_of inj k (y := some r) (fun r' hr => by cases hr; exact ⟨0, fun n _ => h n⟩) rfl
theorem tdiv_bd {a b : Int} (b0 : -4611686018427387904 ≤ a) (b1 : a ≤ 4611686018427387904) : -4611686018427387904 ≤ Int.tdiv a b ∧ Int.tdiv a b ≤ 4611686018427387904 := by
  have h : (Int.tdiv a b).natAbs ≤ a.natAbs := by
    rw [Int.natAbs_tdiv]; exact Nat.div_le_self _ _
  omega
/-- the clamped number -/
def cl (a : Int) : Int := if a < -2147483648 then -2147483648 else if 2147483648 < a then 2147483648 else a
theorem cl_lo (a : Int) : -2147483648 ≤ cl a := by unfold cl; (repeat' split) <;> omega
theorem cl_hi (a : Int) : cl a ≤ 2147483648 := by unfold cl; (repeat' split) <;> omega
theorem mul_bd {x y : Int} {m n : Nat} (hx0 : -(m : Int) ≤ x) (hx1 : x ≤ m) (hy0 : -(n : Int) ≤ y) (hy1 : y ≤ n) : -((m * n : Nat) : Int) ≤ x * y ∧ x * y ≤ ((m * n : Nat) : Int) := by
  have h : (x * y).natAbs ≤ m * n := by
    rw [Int.natAbs_mul]; exact Nat.mul_le_mul (by omega) (by omega)
  omega
theorem ediv_uniq {a b q : Int} (hb : 0 < b) (h0 : q * b ≤ a) (h1 : a < (q + 1) * b) : a / b = q := by
  have h2 : q ≤ a / b := (Int.le_ediv_iff_mul_le hb).2 h0
  have h3 : a / b < q + 1 := (Int.ediv_lt_iff_lt_mul hb).2 h1
  omega
/-- Go's quotient, lowered where the remainder is negative: the floor. -/
theorem floor_pos {a b : Int} (hb : 0 < b) : (if Int.tmod a b < 0 then Int.tdiv a b - 1 else Int.tdiv a b) = a / b := by
  have h := Int.mul_tdiv_add_tmod a b
  have hm : Int.tmod a b < b := Int.tmod_lt_of_pos a hb
  have hm' : -b < Int.tmod a b := by
    have := Int.tmod_lt_of_pos (-a) hb
    rw [Int.neg_tmod] at this; omega
  have hc : b * Int.tdiv a b = Int.tdiv a b * b := Int.mul_comm _ _
  split
  · symm; refine ediv_uniq hb ?_ ?_
    · rw [Int.sub_mul]; omega
    · rw [show Int.tdiv a b - 1 + 1 = Int.tdiv a b by omega]; omega
  · symm; refine ediv_uniq hb ?_ ?_
    · omega
    · rw [Int.add_mul]; omega
theorem tdiv_pos_eq {a b : Int} (ha : 0 ≤ a) : Int.tdiv a b = a / b := Int.tdiv_eq_ediv_of_nonneg ha
theorem pow_pos2 (n : Nat) : (0 : Int) < 2 ^ n := Int.pow_pos (by omega)
theorem pb {x y : Int} (hx : -2147483648 ≤ x ∧ x ≤ 2147483648) (hy : -2147483648 ≤ y ∧ y ≤ 2147483648) : -4611686018427387904 ≤ x * y ∧ x * y ≤ 4611686018427387904 :=
  mul_bd (m := 2147483648) (n := 2147483648) hx.1 hx.2 hy.1 hy.2
def mn (x y : Int) : Int := if y < x then y else x
def mx (x y : Int) : Int := if y > x then y else x
/-- a valid interval -/
def V2 (a : I2) : Prop := -2147483648 ≤ a.c0 ∧ a.c0 ≤ a.c1 ∧ a.c1 ≤ 2147483648
instance V2.dec (a : I2) : Decidable (V2 a) := by unfold V2; exact inferInstance
theorem V2.b0 {a : I2} (h : V2 a) : -2147483648 ≤ a.c0 ∧ a.c0 ≤ 2147483648 := by unfold V2 at h; omega
theorem V2.b1 {a : I2} (h : V2 a) : -2147483648 ≤ a.c1 ∧ a.c1 ≤ 2147483648 := by unfold V2 at h; omega
def Z2 : I2 := ⟨0, 0⟩
theorem s_interval_Valid (a : I2) : F_interval_Valid a = some (decide (V2 a)) := by
  rw [F_interval_Valid_eq]; congr 1
  rw [Bool.eq_iff_iff, decide_eq_true_eq]
  simp [G_interval_Valid, V2, Bool.cond_decide]
theorem s_ref1_Valid (a : I2) : F_ref1_Valid a = some (decide (V2 a)) := by
  rw [F_ref1_Valid_eq]; congr 1
  rw [Bool.eq_iff_iff, decide_eq_true_eq]
  simp [G_ref1_Valid, V2, Bool.cond_decide]
theorem s_interval_both (a b : I2) : F_interval_both a b = some (decide (V2 a ∧ V2 b)) := F_interval_both_of a b _ (by
  simp only [s_interval_Valid, Option.bind_some, Bool.cond_decide]
  by_cases h : V2 a <;> simp [h])
theorem s_ref1_Clamp (a : Int) : F_ref1_Clamp a = some (cl a) := by
  rw [F_ref1_Clamp_eq]; congr 1
  simp only [G_ref1_Clamp, letIn, cl]
  (repeat' split) <;> omega
theorem s_ref1_Floor {a b : Int} (ha : -4611686018427387904 ≤ a ∧ a ≤ 4611686018427387904) (hb : 0 < b) : F_ref1_Floor a b = some (a / b) := F_ref1_Floor_of a b _ (by
  have hq := floor_pos (a := a) hb
  have ht := tdiv_bd (a := a) (b := b) ha.1 ha.2
  have hne : (b == 0) = false := by simp; omega
  simp only [hne, cond_false, letIn, Bool.cond_decide]
  rw [w64 (n := Int.tdiv a b) (by omega), w64 (n := Int.tdiv a b - 1) (by omega), ← hq]
  split <;> rfl)
theorem wp {x y : Int} (hx : -2147483648 ≤ x ∧ x ≤ 2147483648) (hy : -2147483648 ≤ y ∧ y ≤ 2147483648) : IntKind.wrap .i64 (x * y) = x * y := by
  have := pb hx hy; exact w64 (by omega)
theorem cl_b (k : Int) : -2147483648 ≤ cl k ∧ cl k ≤ 2147483648 := ⟨cl_lo k, cl_hi k⟩
theorem pow_small {d : Nat} (h : d ≤ 31) : (2 : Int) ^ d ≤ 2147483648 := by
  have h : (2 : Nat) ^ d ≤ 2 ^ 31 := Nat.pow_le_pow_right (by omega) h
  have h2 : ((2 ^ d : Nat) : Int) ≤ ((2 ^ 31 : Nat) : Int) := by omega
  simpa using h2
def hullI (a b : I2) : I2 := if V2 a ∧ V2 b then ⟨mn a.c0 b.c0, mx a.c1 b.c1⟩ else Z2
def meetI (a b : I2) : I2 × Bool := if V2 a ∧ V2 b ∧ mx a.c0 b.c0 ≤ mn a.c1 b.c1 then (⟨mx a.c0 b.c0, mn a.c1 b.c1⟩, true) else (Z2, false)
theorem s_interval_Hull (a b : I2) : F_interval_Hull a b = some (hullI a b) := F_interval_Hull_of a b _ (by
  simp only [s_interval_both, Option.bind_some, hullI, letIn]
  by_cases h : V2 a ∧ V2 b <;> simp [h, Z2, mn, mx])
theorem s_ref1_Hull (a b : I2) : F_ref1_Hull a b = some (hullI a b) := F_ref1_Hull_of a b _ (by
  simp only [s_ref1_Valid, Option.bind_some, hullI, letIn]
  by_cases h : V2 a <;> by_cases h' : V2 b <;> simp [h, h', Z2, mn, mx])
theorem s_interval_Meet (a b : I2) : F_interval_Meet a b = some (meetI a b) := F_interval_Meet_of a b _ (by
  show (F_interval_both a b).bind (fun y5 => bif !y5 then some (Z2, false) else bif decide (mx a.c0 b.c0 > mn a.c1 b.c1) then some (Z2, false) else some (I2.mk (mx a.c0 b.c0) (mn a.c1 b.c1), true)) = _
  simp only [s_interval_both, Option.bind_some, meetI, Bool.cond_decide]
  by_cases h : V2 a ∧ V2 b
  · by_cases h2 : mx a.c0 b.c0 ≤ mn a.c1 b.c1
    · simp [h, h2, show ¬ (mn a.c1 b.c1 < mx a.c0 b.c0) by omega]
    · simp [h, h2, show mn a.c1 b.c1 < mx a.c0 b.c0 by omega, Z2]
  · have : ¬ (V2 a ∧ V2 b ∧ mx a.c0 b.c0 ≤ mn a.c1 b.c1) := fun k => h ⟨k.1, k.2.1⟩
    simp [h, this, Z2])
theorem s_ref1_Meet (a b : I2) : F_ref1_Meet a b = some (meetI a b) := F_ref1_Meet_of a b _ (by
  show (F_ref1_Valid a).bind (fun y5 => bif !y5 then some (Z2, false) else (F_ref1_Valid b).bind fun y6 => bif !y6 then some (Z2, false) else bif decide (mx a.c0 b.c0 > mn a.c1 b.c1) then some (Z2, false) else some (I2.mk (mx a.c0 b.c0) (mn a.c1 b.c1), true)) = _
  simp only [s_ref1_Valid, Option.bind_some, meetI, Bool.cond_decide]
  by_cases h : V2 a
  · by_cases h' : V2 b
    · by_cases h2 : mx a.c0 b.c0 ≤ mn a.c1 b.c1
      · simp [h, h', h2, show ¬ (mn a.c1 b.c1 < mx a.c0 b.c0) by omega]
      · simp [h, h', h2, show mn a.c1 b.c1 < mx a.c0 b.c0 by omega, Z2]
    · simp [h, h', Z2]
  · simp [h, Z2])
def HasI (a : I2) (x : Int) : Prop := V2 a ∧ a.c0 ≤ x ∧ x ≤ a.c1
instance HasI.dec (a : I2) (x : Int) : Decidable (HasI a x) := by unfold HasI; exact inferInstance
def WithinI (a b : I2) : Prop := V2 a ∧ V2 b ∧ b.c0 ≤ a.c0 ∧ a.c1 ≤ b.c1
instance WithinI.dec (a b : I2) : Decidable (WithinI a b) := by unfold WithinI; exact inferInstance
theorem s_interval_Has (a : I2) (x : Int) : F_interval_Has a x = some (decide (HasI a x)) := F_interval_Has_of a x _ (by
  simp only [s_interval_Valid, Option.bind_some, HasI, Bool.cond_decide]
  by_cases h : V2 a <;> by_cases h2 : a.c0 ≤ x <;> simp [h, h2])
theorem s_ref1_Has (a : I2) (x : Int) : F_ref1_Has a x = some (decide (HasI a x)) := F_ref1_Has_of a x _ (by
  simp only [s_ref1_Valid, Option.bind_some, HasI, Bool.cond_decide]
  by_cases h : V2 a <;> by_cases h2 : a.c0 ≤ x <;> simp [h, h2])
theorem s_interval_Within (a b : I2) : F_interval_Within a b = some (decide (WithinI a b)) := F_interval_Within_of a b _ (by
  simp only [s_interval_both, Option.bind_some, WithinI, Bool.cond_decide]
  by_cases h : V2 a <;> by_cases h' : V2 b <;> by_cases h2 : b.c0 ≤ a.c0 <;> simp [h, h', h2])
theorem s_ref1_Within (a b : I2) : F_ref1_Within a b = some (decide (WithinI a b)) := F_ref1_Within_of a b _ (by
  simp only [s_ref1_Valid, Option.bind_some, WithinI, Bool.cond_decide]
  by_cases h : V2 a <;> by_cases h' : V2 b <;> by_cases h2 : b.c0 ≤ a.c0 <;> simp [h, h', h2])
def midI (a : I2) : Int := if V2 a then (a.c0 + a.c1) / 2 else 0
def widthI (a : I2) : Int := if V2 a then a.c1 - a.c0 else 0
theorem s_interval_Mid (a : I2) : F_interval_Mid a = some (midI a) := F_interval_Mid_of a _ (by
  simp only [s_interval_Valid, Option.bind_some, midI]
  by_cases h : V2 a
  · have := h.b0; have := h.b1
    simp only [h, decide_true, Bool.not_true, cond_false, if_true, letIn]
    rw [w64 (by omega), fdiv_pos (by omega)]
  · simp [h])
theorem s_ref1_Mid (a : I2) : F_ref1_Mid a = some (midI a) := F_ref1_Mid_of a _ (by
  simp only [s_ref1_Valid, Option.bind_some, midI]
  by_cases h : V2 a
  · have := h.b0; have := h.b1
    simp only [h, decide_true, Bool.not_true, cond_false, if_true, letIn]
    rw [w64 (by omega), s_ref1_Floor (by omega) (by omega)]; rfl
  · simp [h])
theorem s_interval_Width (a : I2) : F_interval_Width a = some (widthI a) := F_interval_Width_of a _ (by
  simp only [s_interval_Valid, Option.bind_some, widthI]
  by_cases h : V2 a
  · have := h.b0; have := h.b1
    simp only [h, decide_true, Bool.not_true, cond_false, if_true, letIn]
    rw [w64 (by omega)]
  · simp [h])
theorem s_ref1_Width (a : I2) : F_ref1_Width a = some (widthI a) := F_ref1_Width_of a _ (by
  simp only [s_ref1_Valid, Option.bind_some, widthI]
  by_cases h : V2 a
  · have := h.b0; have := h.b1
    simp only [h, decide_true, Bool.not_true, cond_false, if_true, letIn]
    rw [w64 (by omega)]
  · simp [h])
theorem WithinI.mk {a0 a1 b0 b1 : Int} (h0 : -2147483648 ≤ b0) (h1 : b0 ≤ a0) (h2 : a0 ≤ a1) (h3 : a1 ≤ b1) (h4 : b1 ≤ 2147483648) : WithinI ⟨a0, a1⟩ ⟨b0, b1⟩ := by
  unfold WithinI V2; dsimp only; omega
theorem s_make_Round {n k : Int} (hk : 0 < k) (hk2 : k ≤ 4611686018427387904) : Ans (F_make_Round n k) (fun r => 0 ≤ r ∧ r < k) := Ans.of (F_make_Round_of n k) (by
  have hne : (k == 0) = false := by simp; omega
  simp only [hne, cond_false, letIn, Bool.cond_decide]
  have h1 := Int.tmod_lt_of_pos n hk
  have h2 : -k < Int.tmod n k := by
    have := Int.neg_tmod n k
    have h3 := Int.tmod_lt_of_pos (-n) hk
    omega
  by_cases h : Int.tmod n k < 0
  · rw [if_pos h, w64 (by omega)]; exact Ans.ret (by omega)
  · rw [if_neg h]; exact Ans.ret (by omega))
theorem s_make_Interval (k l : Int) : Ans (F_make_Interval k l) V2 := Ans.of (F_make_Interval_of k l) (by
  simp only [letIn, s_ref1_Clamp, Option.bind_some, Bool.cond_decide]
  refine Ans.bind (s_make_Round (by omega) (by omega)) fun y4 h4 => ?_
  rw [w64 (n := 4 + y4) (by omega), wu64 (n := 4 + y4) (by omega), if_neg (by omega)]
  have hp0 := pow_pos2 (min (4 + y4).toNat 64)
  have hp := pow_small (d := min (4 + y4).toNat 64) (by omega)
  generalize (2 : Int) ^ min (4 + y4).toNat 64 = p at *
  rw [w64 (n := 1 * p) (by omega), w64 (n := 2 * (1 * p)) (by omega), w64 (n := 2 * (1 * p) + 1) (by omega)]
  refine Ans.bind (s_make_Round (by omega) (by omega)) fun y10 h10 => ?_
  refine Ans.bind (s_make_Round (by omega) (by omega)) fun y14 h14 => ?_
  have key : ∀ x y : Int, V2 ⟨if cl y < cl x then cl y else cl x, if cl y > cl x then cl y else cl x⟩ := by
    intro x y
    have := cl_b x; have := cl_b y
    unfold V2; dsimp only
    refine ⟨?_, ?_, ?_⟩ <;> (repeat' split) <;> omega
  cases (IntKind.wrap .i64 ((BitVec.ofInt 64 l &&& BitVec.ofInt 64 1).toNat : Nat) == 0 : Bool) with
  | true =>
    rw [cond_true]
    have hq : Int.tdiv (1 * p) 8 = p / 8 := by rw [Int.one_mul, tdiv_pos_eq (by omega)]
    rw [hq, w64 (n := p / 8) (by omega), w64 (n := 1 + p / 8) (by omega)]
    refine Ans.bind (s_make_Round (by omega) (by omega)) fun y20 h20 => ?_
    exact Ans.ret (key _ _)
  | false => exact Ans.ret (key _ _))
theorem s_make_Part {a : I2} (h : V2 a) (m n : Int) : Ans (F_make_Part a m n) (fun r => WithinI r a) := Ans.of (F_make_Part_of a m n) (by
  have hb0 := h.b0; have hb1 := h.b1
  have hle : a.c0 ≤ a.c1 := h.2.1
  simp only [letIn]
  rw [w64 (n := a.c1 - a.c0) (by omega), w64 (n := a.c1 - a.c0 + 1) (by omega)]
  refine Ans.bind (s_make_Round (by omega) (by omega)) fun y6 h6 => ?_
  rw [w64 (n := a.c0 + y6) (by omega)]
  cases (IntKind.wrap .i64 ((BitVec.ofInt 64 n &&& BitVec.ofInt 64 1).toNat : Nat) == 0 : Bool) with
  | true =>
    refine Ans.ret ?_
    unfold WithinI V2; dsimp only; omega
  | false =>
    rw [cond_false]
    refine Ans.bind (s_make_Round (by omega) (by omega)) fun y10 h10 => ?_
    rw [w64 (n := a.c0 + y10) (by omega)]
    refine Ans.ret ?_
    unfold WithinI V2; dsimp only
    (repeat' split) <;> omega)
theorem law2_awake : F_law2_awake = some true := den_const (x := X_law2_awake) injO_law2_awake 30 (fun n => by kernel_rfl)
theorem eq2 (a : I2) : ((a.c0 == a.c0) && ((a.c1 == a.c1) && true)) = true := by simp
theorem s_law2_sets (a b : I2) (x : Int) : F_law2_sets a b x = some true := F_law2_sets_of a b x _ (by
  simp only [s_interval_Meet, s_ref1_Meet, s_interval_Hull, s_ref1_Hull, s_interval_Has, s_ref1_Has, s_interval_Within, s_ref1_Within, s_interval_Mid, s_ref1_Mid, s_interval_Width, s_ref1_Width, Option.bind_some, letIn, eq2, beq_self_eq_true, Bool.and_self, Bool.and_true, cond_true])
theorem law_law2_IntervalSets (a b : I2) (x k l m n : Int) (ha : BI2 a) (hb : BI2 b) (hx : I64 x) (hk : I64 k) (hl : I64 l) (hm : I64 m) (hn : I64 n) : F_law2_IntervalSets a b x k l m n = some true := F_law2_IntervalSets_of a b x k l m n _ (by
  obtain ⟨c, hc, vc⟩ := s_make_Interval k l
  obtain ⟨d, hd, vd⟩ := s_make_Interval m n
  obtain ⟨e, he, h0, h1⟩ := s_make_Round (n := n) (k := 9) (by omega) (by omega)
  obtain ⟨p, hp, wp⟩ := s_make_Part vc m n
  simp only [hc, hd, he, hp, law2_awake, s_law2_sets, Option.bind_some, letIn, cond_true])
end Go.Proofs.Ytfpdjpleplhcgaa.Am
