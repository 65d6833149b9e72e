/- What the law law_law2_IntervalMeets computes, without levels: it is true. -/
import Derived.Test.YtfpdjpleplhcgaaF0
import Derived.Test.YtfpdjpleplhcgaaAmRow2
import Derived.IntWalk
set_option linter.unusedVariables false
set_option linter.unusedSimpArgs false
set_option maxRecDepth 100000
namespace Go.Proofs.Ytfpdjpleplhcgaa.Am
open Go Go.IntWalk

theorem w64 {n : Int} (h : -9223372036854775808 ≤ n ∧ n ≤ 9223372036854775807) : IntKind.wrap .i64 n = n := i64_in n h
theorem wu64 {n : Int} (h : 0 ≤ n ∧ n ≤ 18446744073709551615) : IntKind.wrap .u64 n = n := u64_in n h
theorem den_const {α β : Type} {e : β → α} (inj : ∀ a b, e a = e b → a = b) {x : Nat → Option α} (k : Nat) {r : β} (h : ∀ n, x (n + k) = some (e r)) : den e x = some r :=
  den_of inj k (y := some r) (fun r' hr => by cases hr; exact ⟨0, fun n _ => h n⟩) rfl
/-- the clamped number -/
def cl (a : Int) : Int := if a < -2147483648 then -2147483648 else if 2147483648 < a then 2147483648 else a
theorem cl_lo (a : Int) : -2147483648 ≤ cl a := by unfold cl; (repeat' split) <;> omega
theorem cl_hi (a : Int) : cl a ≤ 2147483648 := by unfold cl; (repeat' split) <;> omega
theorem tdiv_pos_eq {a b : Int} (ha : 0 ≤ a) : Int.tdiv a b = a / b := Int.tdiv_eq_ediv_of_nonneg ha
theorem pow_pos2 (n : Nat) : (0 : Int) < 2 ^ n := Int.pow_pos (by omega)
def mn (x y : Int) : Int := if y < x then y else x
def mx (x y : Int) : Int := if y > x then y else x
def Z2 : I2 := ⟨0, 0⟩
/-- a valid interval -/
def V2 (a : I2) : Prop := -2147483648 ≤ a.c0 ∧ a.c0 ≤ a.c1 ∧ a.c1 ≤ 2147483648
instance V2.dec (a : I2) : Decidable (V2 a) := by unfold V2; exact inferInstance
theorem s_interval_Valid (a : I2) : F_interval_Valid a = some (decide (V2 a)) := by
  rw [F_interval_Valid_eq]; congr 1
  rw [Bool.eq_iff_iff, decide_eq_true_eq]
  simp [G_interval_Valid, V2, Bool.cond_decide]
theorem s_interval_both (a b : I2) : F_interval_both a b = some (decide (V2 a ∧ V2 b)) := F_interval_both_of a b _ (by
  simp only [s_interval_Valid, Option.bind_some, Bool.cond_decide]
  by_cases h : V2 a <;> simp [h])
theorem s_ref1_Clamp (a : Int) : F_ref1_Clamp a = some (cl a) := by
  rw [F_ref1_Clamp_eq]; congr 1
  simp only [G_ref1_Clamp, letIn, cl]
  (repeat' split) <;> omega
theorem cl_b (k : Int) : -2147483648 ≤ cl k ∧ cl k ≤ 2147483648 := ⟨cl_lo k, cl_hi k⟩
theorem pow_small {d : Nat} (h : d ≤ 31) : (2 : Int) ^ d ≤ 2147483648 := by
  have h : (2 : Nat) ^ d ≤ 2 ^ 31 := Nat.pow_le_pow_right (by omega) h
  have h2 : ((2 ^ d : Nat) : Int) ≤ ((2 ^ 31 : Nat) : Int) := by omega
  simpa using h2
def hullI (a b : I2) : I2 := if V2 a ∧ V2 b then ⟨mn a.c0 b.c0, mx a.c1 b.c1⟩ else Z2
def meetI (a b : I2) : I2 × Bool := if V2 a ∧ V2 b ∧ mx a.c0 b.c0 ≤ mn a.c1 b.c1 then (⟨mx a.c0 b.c0, mn a.c1 b.c1⟩, true) else (Z2, false)
theorem s_interval_Hull (a b : I2) : F_interval_Hull a b = some (hullI a b) := F_interval_Hull_of a b _ (by
  simp only [s_interval_both, Option.bind_some, hullI, letIn]
  by_cases h : V2 a ∧ V2 b <;> simp [h, Z2, mn, mx])
def WithinI (a b : I2) : Prop := V2 a ∧ V2 b ∧ b.c0 ≤ a.c0 ∧ a.c1 ≤ b.c1
instance WithinI.dec (a b : I2) : Decidable (WithinI a b) := by unfold WithinI; exact inferInstance
theorem WithinI.mk {a0 a1 b0 b1 : Int} (h0 : -2147483648 ≤ b0) (h1 : b0 ≤ a0) (h2 : a0 ≤ a1) (h3 : a1 ≤ b1) (h4 : b1 ≤ 2147483648) : WithinI ⟨a0, a1⟩ ⟨b0, b1⟩ := by
  unfold WithinI V2; dsimp only; omega
theorem s_interval_Meet (a b : I2) : F_interval_Meet a b = some (meetI a b) := F_interval_Meet_of a b _ (by
  show (F_interval_both a b).bind (fun y5 => bif !y5 then some (Z2, false) else bif decide (mx a.c0 b.c0 > mn a.c1 b.c1) then some (Z2, false) else some (I2.mk (mx a.c0 b.c0) (mn a.c1 b.c1), true)) = _
  simp only [s_interval_both, Option.bind_some, meetI, Bool.cond_decide]
  by_cases h : V2 a ∧ V2 b
  · by_cases h2 : mx a.c0 b.c0 ≤ mn a.c1 b.c1
    · simp [h, h2, show ¬ (mn a.c1 b.c1 < mx a.c0 b.c0) by omega]
    · simp [h, h2, show mn a.c1 b.c1 < mx a.c0 b.c0 by omega, Z2]
  · have : ¬ (V2 a ∧ V2 b ∧ mx a.c0 b.c0 ≤ mn a.c1 b.c1) := fun k => h ⟨k.1, k.2.1⟩
    simp [h, this, Z2])
def HasI (a : I2) (x : Int) : Prop := V2 a ∧ a.c0 ≤ x ∧ x ≤ a.c1
instance HasI.dec (a : I2) (x : Int) : Decidable (HasI a x) := by unfold HasI; exact inferInstance
theorem s_interval_Has (a : I2) (x : Int) : F_interval_Has a x = some (decide (HasI a x)) := F_interval_Has_of a x _ (by
  simp only [s_interval_Valid, Option.bind_some, HasI, Bool.cond_decide]
  by_cases h : V2 a <;> by_cases h2 : a.c0 ≤ x <;> simp [h, h2])
theorem s_interval_Within (a b : I2) : F_interval_Within a b = some (decide (WithinI a b)) := F_interval_Within_of a b _ (by
  simp only [s_interval_both, Option.bind_some, WithinI, Bool.cond_decide]
  by_cases h : V2 a <;> by_cases h' : V2 b <;> by_cases h2 : b.c0 ≤ a.c0 <;> simp [h, h', h2])
theorem mn_le_l (x y : Int) : mn x y ≤ x := by unfold mn; split <;> omega
theorem mn_le_r (x y : Int) : mn x y ≤ y := by unfold mn; split <;> omega
theorem le_mx_l (x y : Int) : x ≤ mx x y := by unfold mx; split <;> omega
theorem le_mx_r (x y : Int) : y ≤ mx x y := by unfold mx; split <;> omega
theorem hullI_eq {a b : I2} (ha : V2 a) (hb : V2 b) : hullI a b = ⟨mn a.c0 b.c0, mx a.c1 b.c1⟩ := by unfold hullI; rw [if_pos ⟨ha, hb⟩]
theorem s_make_Round {n k : Int} (hk : 0 < k) (hk2 : k ≤ 4611686018427387904) : Ans (F_make_Round n k) (fun r => 0 ≤ r ∧ r < k) := Ans.of (F_make_Round_of n k) (by
  have hne : (k == 0) = false := by simp; omega
  simp only [hne, cond_false, letIn, Bool.cond_decide]
  have h1 := Int.tmod_lt_of_pos n hk
  have h2 : -k < Int.tmod n k := by
    have := Int.neg_tmod n k
    have h3 := Int.tmod_lt_of_pos (-n) hk
    omega
  by_cases h : Int.tmod n k < 0
  · rw [if_pos h, w64 (by omega)]; exact Ans.ret (by omega)
  · rw [if_neg h]; exact Ans.ret (by omega))
theorem s_make_Interval (k l : Int) : Ans (F_make_Interval k l) V2 := Ans.of (F_make_Interval_of k l) (by
  simp only [letIn, s_ref1_Clamp, Option.bind_some, Bool.cond_decide]
  refine Ans.bind (s_make_Round (by omega) (by omega)) fun y4 h4 => ?_
  rw [w64 (n := 4 + y4) (by omega), wu64 (n := 4 + y4) (by omega), if_neg (by omega)]
  have hp0 := pow_pos2 (min (4 + y4).toNat 64)
  have hp := pow_small (d := min (4 + y4).toNat 64) (by omega)
  generalize (2 : Int) ^ min (4 + y4).toNat 64 = p at *
  rw [w64 (n := 1 * p) (by omega), w64 (n := 2 * (1 * p)) (by omega), w64 (n := 2 * (1 * p) + 1) (by omega)]
  refine Ans.bind (s_make_Round (by omega) (by omega)) fun y10 h10 => ?_
  refine Ans.bind (s_make_Round (by omega) (by omega)) fun y14 h14 => ?_
  have key : ∀ x y : Int, V2 ⟨if cl y < cl x then cl y else cl x, if cl y > cl x then cl y else cl x⟩ := by
    intro x y
    have := cl_b x; have := cl_b y
    unfold V2; dsimp only
    refine ⟨?_, ?_, ?_⟩ <;> (repeat' split) <;> omega
  cases (IntKind.wrap .i64 ((BitVec.ofInt 64 l &&& BitVec.ofInt 64 1).toNat : Nat) == 0 : Bool) with
  | true =>
    rw [cond_true]
    have hq : Int.tdiv (1 * p) 8 = p / 8 := by rw [Int.one_mul, tdiv_pos_eq (by omega)]
    rw [hq, w64 (n := p / 8) (by omega), w64 (n := 1 + p / 8) (by omega)]
    refine Ans.bind (s_make_Round (by omega) (by omega)) fun y20 h20 => ?_
    exact Ans.ret (key _ _)
  | false => exact Ans.ret (key _ _))
theorem law2_awake : F_law2_awake = some true := den_const (x := X_law2_awake) injO_law2_awake 30 (fun n => by kernel_rfl)
theorem V2.b0 {a : I2} (h : V2 a) : -2147483648 ≤ a.c0 ∧ a.c0 ≤ 2147483648 := by unfold V2 at h; omega
theorem V2.b1 {a : I2} (h : V2 a) : -2147483648 ≤ a.c1 ∧ a.c1 ≤ 2147483648 := by unfold V2 at h; omega
theorem meet_has {a b : I2} (ha : V2 a) (hb : V2 b) (y : Int) : ((meetI a b).2 && decide (HasI (meetI a b).1 y)) = (decide (HasI a y) && decide (HasI b y)) := by
  have a0 := ha.b0; have a1 := ha.b1; have b0 := hb.b0; have b1 := hb.b1
  have hla : a.c0 ≤ a.c1 := ha.2.1; have hlb : b.c0 ≤ b.c1 := hb.2.1
  rw [Bool.eq_iff_iff]
  simp only [Bool.and_eq_true, decide_eq_true_eq]
  unfold meetI
  by_cases h : mx a.c0 b.c0 ≤ mn a.c1 b.c1
  · rw [if_pos ⟨ha, hb, h⟩]
    unfold HasI V2 at *
    unfold mx mn at *
    dsimp only
    simp only [true_and]
    (repeat' split at *) <;> omega
  · rw [if_neg (fun q => h q.2.2)]
    unfold HasI V2 at *
    unfold mx mn at *
    dsimp only
    (repeat' split at *) <;> simp <;> omega
theorem hull_l {a b : I2} (ha : V2 a) (hb : V2 b) : WithinI a (hullI a b) := by
  rw [hullI_eq ha hb]
  have a0 := ha.b0; have a1 := ha.b1; have b0 := hb.b0; have b1 := hb.b1
  have hla : a.c0 ≤ a.c1 := ha.2.1; have hlb : b.c0 ≤ b.c1 := hb.2.1
  refine ⟨ha, ?_, ?_, ?_⟩
  · unfold V2 mn mx; dsimp only; (repeat' split) <;> omega
  · dsimp only; exact mn_le_l _ _
  · dsimp only; exact le_mx_l _ _
theorem meet_within {a b : I2} (ha : V2 a) (hb : V2 b) (h : (meetI a b).2 = true) : WithinI (meetI a b).1 a ∧ WithinI (meetI a b).1 b := by
  have a0 := ha.b0; have a1 := ha.b1; have b0 := hb.b0; have b1 := hb.b1
  unfold meetI at *
  by_cases k : mx a.c0 b.c0 ≤ mn a.c1 b.c1
  · rw [if_pos ⟨ha, hb, k⟩]
    have := le_mx_l a.c0 b.c0; have := le_mx_r a.c0 b.c0; have := mn_le_l a.c1 b.c1; have := mn_le_r a.c1 b.c1
    constructor
    · refine ⟨?_, ha, ?_, ?_⟩
      · unfold V2; dsimp only; omega
      · dsimp only; omega
      · dsimp only; omega
    · refine ⟨?_, hb, ?_, ?_⟩
      · unfold V2; dsimp only; omega
      · dsimp only; omega
      · dsimp only; omega
  · rw [if_neg (fun q => k q.2.2)] at h; cases h
theorem law_law2_IntervalMeets (k l m n x : Int) (hk : I64 k) (hl : I64 l) (hm : I64 m) (hn : I64 n) (hx : I64 x) : F_law2_IntervalMeets k l m n x = some true := F_law2_IntervalMeets_of k l m n x _ (by
  obtain ⟨a, ha, va⟩ := s_make_Interval k l
  obtain ⟨b, hb, vb⟩ := s_make_Interval m n
  have a0 := va.b0; have a1 := va.b1; have hla : a.c0 ≤ a.c1 := va.2.1
  obtain ⟨r, hr, r0, r1⟩ := s_make_Round (n := x) (k := a.c1 - a.c0 + 3) (by omega) (by omega)
  have w1 : IntKind.wrap .i64 (IntKind.wrap .i64 (a.c1 - a.c0) + 3) = a.c1 - a.c0 + 3 := by
    rw [w64 (n := a.c1 - a.c0) (by omega), w64 (by omega)]
  simp only [ha, hb, w1, hr, law2_awake, Option.bind_some, letIn]
  generalize IntKind.wrap .i64 (IntKind.wrap .i64 (a.c0 + r) - 1) = y
  have key : ∀ (b : I2), V2 b → ∀ (c1 c2 c3 c4 c5 c6 : Option Bool), True := fun _ _ _ _ _ _ _ _ => trivial
  cases (IntKind.wrap .i64 ((BitVec.ofInt 64 x &&& BitVec.ofInt 64 1).toNat : Nat) == 1 : Bool) with
  | true =>
    have vb' : V2 ⟨a.c0, if b.c1 > a.c0 then b.c1 else a.c0⟩ := by
      have := vb.b1
      unfold V2; dsimp only; split <;> omega
    generalize (I2.mk a.c0 (if b.c1 > a.c0 then b.c1 else a.c0)) = d at *
    have e := meet_has va vb' y
    have h1 := hull_l va vb'
    have h2 := hull_l vb' va
    have h3 := meet_within va vb'
    simp only [cond_true, s_interval_Meet, s_interval_Has, s_interval_Hull, s_interval_Within, Option.bind_some, h1, h2, decide_true]
    generalize meetI a d = u at *
    obtain ⟨u, ok⟩ := u
    dsimp only at *
    cases ok <;> by_cases p1 : HasI a y <;> by_cases p2 : HasI d y <;> by_cases p3 : HasI u y <;> simp_all
  | false =>
    have e := meet_has va vb y
    have h1 := hull_l va vb
    have h2 := hull_l vb va
    have h3 := meet_within va vb
    simp only [cond_false, cond_true, s_interval_Meet, s_interval_Has, s_interval_Hull, s_interval_Within, Option.bind_some, h1, h2, decide_true]
    generalize meetI a b = u at *
    obtain ⟨u, ok⟩ := u
    dsimp only at *
    cases ok <;> by_cases p1 : HasI a y <;> by_cases p2 : HasI b y <;> by_cases p3 : HasI u y <;> simp_all)
end Go.Proofs.Ytfpdjpleplhcgaa.Am
