/- What the law law_law13_SupportNormals computes, without levels: it is true. -/
import Derived.Test.YtceaambiagobbaaF0
import Derived.Test.YtceaambiagobbaaAmRow2
import Derived.IntWalk
set_option linter.unusedVariables false
set_option linter.unusedSimpArgs false
set_option maxRecDepth 100000
namespace Go.Proofs.Ytceaambiagobbaa.Am
open Go Go.IntWalk

theorem w64 {n : Int} (h : -9223372036854775808 ≤ n ∧ n ≤ 9223372036854775807) : IntKind.wrap .i64 n = n := i64_in n h
theorem fdiv_pos {a b : Int} (hb : 0 ≤ b) : Int.fdiv a b = a / b := Int.fdiv_eq_ediv_of_nonneg a hb
theorem den_const {α β : Type} {e : β → α} (inj : ∀ a b, e a = e b → a = b) {x : Nat → Option α} (k : Nat) {r : β} (h : ∀ n, x (n + k) = some (e r)) : den e x = some r :=
  den_of inj k (y := some r) (fun r' hr => by cases hr; exact ⟨0, fun n _ => h n⟩) rfl
/-- the clamped number -/
def cl (a : Int) : Int := if a < -2147483648 then -2147483648 else if 2147483648 < a then 2147483648 else a
theorem mul_bd {x y : Int} {m n : Nat} (hx0 : -(m : Int) ≤ x) (hx1 : x ≤ m) (hy0 : -(n : Int) ≤ y) (hy1 : y ≤ n) : -((m * n : Nat) : Int) ≤ x * y ∧ x * y ≤ ((m * n : Nat) : Int) := by
  have h : (x * y).natAbs ≤ m * n := by
    rw [Int.natAbs_mul]; exact Nat.mul_le_mul (by omega) (by omega)
  omega
theorem tdiv_pos_eq {a b : Int} (ha : 0 ≤ a) : Int.tdiv a b = a / b := Int.tdiv_eq_ediv_of_nonneg ha
/-- s <= n / s says that the square is at most n -/
theorem le_div_iff {s n : Int} (hs : 0 < s) (hn : 0 ≤ n) : s ≤ Int.tdiv n s ↔ s * s ≤ n := by
  rw [tdiv_pos_eq hn, Int.le_ediv_iff_mul_le hs]
/-- the root, counted up -/
def isq : Nat → Nat
  | 0 => 0
  | n + 1 => if (isq n + 1) * (isq n + 1) ≤ n + 1 then isq n + 1 else isq n
/-- the root of n, rounded down; 0 for what is not positive -/
def root (n : Int) : Int := (isq n.toNat : Nat)
/-- r is the root of n, rounded down -/
def IsRoot (n r : Int) : Prop := 0 ≤ r ∧ r * r ≤ n ∧ n < (r + 1) * (r + 1)
theorem sq_le {a b : Int} (ha : 0 ≤ a) (h : a ≤ b) : a * a ≤ b * b := Int.mul_le_mul h h ha (by omega)
theorem sq_lt {a b : Int} (_ha : 0 ≤ a) (h : a * a < b * b) (hb : 0 ≤ b) : a < b := by
  rcases Int.lt_or_le a b with k | k
  · exact k
  · have := sq_le hb k; omega
theorem IsRoot.uniq {n r s : Int} (hr : IsRoot n r) (hs : IsRoot n s) : r = s := by
  obtain ⟨r0, r1, r2⟩ := hr
  obtain ⟨s0, s1, s2⟩ := hs
  have h1 : r < s + 1 := sq_lt r0 (by omega) (by omega)
  have h2 : s < r + 1 := sq_lt s0 (by omega) (by omega)
  omega
theorem isq_spec (n : Nat) : isq n * isq n ≤ n ∧ n < (isq n + 1) * (isq n + 1) := by
  induction n with
  | zero => simp [isq]
  | succ n ih =>
    unfold isq
    split
    · rename_i h
      refine ⟨h, ?_⟩
      have e : (isq n + 1 + 1) * (isq n + 1 + 1) = (isq n + 1) * (isq n + 1) + 2 * isq n + 3 := by
        rw [Nat.add_mul, Nat.mul_add]; omega
      omega
    · omega
theorem root_is {n : Int} (h : 0 ≤ n) : IsRoot n (root n) := by
  have hs := isq_spec n.toNat
  unfold root IsRoot
  generalize hq : isq n.toNat = q at hs
  refine ⟨by omega, ?_, ?_⟩
  · have : ((q * q : Nat) : Int) ≤ n := by omega
    rwa [Int.natCast_mul] at this
  · have : n < (((q + 1) * (q + 1) : Nat) : Int) := by omega
    rwa [Int.natCast_mul, Int.natCast_add] at this
theorem root_eq {n r : Int} (h : IsRoot n r) : root n = r := by
  have hn : 0 ≤ n := by
    have := sq_le (Int.le_refl 0) h.1; have := h.2.1; omega
  exact (root_is hn).uniq h
theorem root_neg {n : Int} (h : n ≤ 0) : root n = 0 := by
  unfold root; rw [show n.toNat = 0 by omega]; rfl
theorem root_nonneg (n : Int) : 0 ≤ root n := by unfold root; omega
theorem root_lt {n : Int} (h : n ≤ 9223372036854775807) : root n < 3037000500 := by
  rcases Int.lt_or_le n 0 with k | k
  · rw [root_neg (by omega)]; omega
  · obtain ⟨h0, h1, _⟩ := root_is k
    exact sq_lt h0 (by omega) (by omega)
/-- the root, rounded up -/
def rootUp (n : Int) : Int := if root n * root n < n then root n + 1 else root n
theorem root_sq_bd {n : Int} (h : n ≤ 9223372036854775807) : 0 ≤ root n * root n ∧ root n * root n ≤ 9223372036854775807 := by
  rcases Int.lt_or_le n 0 with k | k
  · rw [root_neg (by omega)]; omega
  · obtain ⟨h0, h1, _⟩ := root_is k
    have := Int.mul_nonneg h0 h0; omega
theorem pow_pos2 (n : Nat) : (0 : Int) < 2 ^ n := Int.pow_pos (by omega)
theorem div_bd {a : Int} {m : Int} (hm : 0 < m) (h0 : -9223372036854775808 ≤ a) (h1 : a ≤ 9223372036854775807) : -9223372036854775808 ≤ a / m ∧ a / m ≤ 9223372036854775807 := by
  constructor
  · rw [Int.le_ediv_iff_mul_le hm]
    have : 9223372036854775808 ≤ 9223372036854775808 * m := by omega
    omega
  · have : a / m < 9223372036854775808 := by
      rw [Int.ediv_lt_iff_lt_mul hm]
      have : 9223372036854775808 ≤ 9223372036854775808 * m := by omega
      omega
    omega
theorem tmod64 {a : Int} (h : 0 ≤ a) : 0 ≤ Int.tmod a 64 ∧ Int.tmod a 64 ≤ 63 := by
  have h1 := Int.tmod_nonneg (a := a) 64 h
  have h2 := Int.tmod_lt_of_pos a (show (0 : Int) < 64 by omega)
  omega
theorem wtdiv {n s : Int} (hn : 0 ≤ n) (hn1 : n ≤ 9223372036854775807) (hs : 0 < s) : IntKind.wrap .i64 (Int.tdiv n s) = Int.tdiv n s := by
  rw [tdiv_pos_eq hn]
  have := div_bd hs (a := n) (by omega) (by omega)
  exact w64 this
theorem s_fixed_Root_0 (n : Int) (hn : 1 ≤ n) (hn1 : n ≤ 9223372036854775807) : ∀ (d : Nat) (r i : Int), i + d = 32 → d ≤ 32 → 0 ≤ r → r * r ≤ n → n < (r + 2 ^ d) * (r + 2 ^ d) → r + 2 ^ d ≤ 4294967296 →
    L_fixed_Root_0 n r i = some (root n) := by
  intro d
  induction d with
  | zero =>
    intro r i hi hd h0 h1 h2 h3
    refine L_fixed_Root_0_of n r i _ ?_
    simp only [Bool.cond_decide]
    rw [if_neg (by omega), root_eq (n := n) (r := r) ⟨h0, h1, by simpa using h2⟩]
  | succ d ih =>
    intro r i hi hd h0 h1 h2 h3
    refine L_fixed_Root_0_of n r i _ ?_
    have hp := pow_pos2 d
    have hq : (2 : Int) ^ (d + 1) = 2 ^ d * 2 := Int.pow_succ 2 d
    have e1 : IntKind.wrap .i64 (31 - i) = d := by rw [w64 (by omega)]; omega
    have e2 : (2 : Int) ^ min (Int.toNat (d : Int)) 64 = 2 ^ d := by rw [Nat.min_eq_left (by omega)]; rfl
    have e4 : IntKind.wrap .i64 (i + 1) = i + 1 := w64 (by omega)
    have hs : (0 : Int) < r + 2 ^ d := by omega
    have hne : ((r + 2 ^ d) == 0) = false := by simp; omega
    simp only [letIn, Bool.cond_decide, e1, e2, e4, Int.one_mul]
    rw [w64 (n := 2 ^ d) (by omega), w64 (n := r + 2 ^ d) (by omega)]
    rw [if_pos (by omega), if_neg (by omega), hne, cond_false, wtdiv (by omega) (by omega) hs]
    by_cases h : r + 2 ^ d ≤ Int.tdiv n (r + 2 ^ d)
    · rw [if_pos h]
      rw [le_div_iff hs (by omega)] at h
      exact ih (r + 2 ^ d) (i + 1) (by omega) (by omega) (by omega) h (by rw [show r + 2 ^ d + 2 ^ d = r + 2 ^ (d + 1) by omega]; exact h2) (by omega)
    · rw [if_neg h]
      rw [le_div_iff hs (by omega)] at h
      exact ih r (i + 1) (by omega) (by omega) h0 h1 (by omega) (by omega)
theorem s_fixed_Root (n : Int) (hn1 : n ≤ 9223372036854775807) : F_fixed_Root n = some (root n) := F_fixed_Root_of n _ (by
  simp only [Bool.cond_decide]
  by_cases h : n ≤ 0
  · rw [if_pos h, root_neg h]
  · rw [if_neg h, s_fixed_Root_0 n (by omega) hn1 32 0 0 (by omega) (by omega) (by omega) (by omega) (by omega) (by omega)]; rfl)
theorem s_fixed_RootUp (n : Int) (hn1 : n ≤ 9223372036854775807) : F_fixed_RootUp n = some (rootUp n) := F_fixed_RootUp_of n _ (by
  have h1 := root_sq_bd hn1
  have h2 := root_lt hn1
  have h3 := root_nonneg n
  simp only [s_fixed_Root n hn1, Option.bind_some, letIn, Bool.cond_decide]
  rw [w64 (by omega), w64 (n := root n + 1) (by omega)]
  unfold rootUp
  split <;> rfl)
theorem s_ref1_Root_0 (n : Int) (hn : 1 ≤ n) (hn1 : n ≤ 9223372036854775807) : ∀ (d : Nat) (a b : Int), b - a ≤ 2 ^ d → 1 ≤ a → a < b → b ≤ 4294967296 → a * a ≤ n → n < b * b →
    L_ref1_Root_0 n a b = some (root n) := by
  intro d
  induction d with
  | zero =>
    intro a b hd h0 hab hb h1 h2
    refine L_ref1_Root_0_of n a b _ ?_
    simp only [letIn, Bool.cond_decide]
    rw [w64 (n := b - a) (by omega), if_neg (by omega)]
    obtain rfl : b = a + 1 := by omega
    rw [root_eq (n := n) (r := a) ⟨by omega, h1, h2⟩]
  | succ d ih =>
    intro a b hd h0 hab hb h1 h2
    refine L_ref1_Root_0_of n a b _ ?_
    have hq : (2 : Int) ^ (d + 1) = 2 ^ d * 2 := Int.pow_succ 2 d
    have hp := pow_pos2 d
    simp only [letIn, Bool.cond_decide]
    rw [w64 (n := b - a) (by omega)]
    by_cases h : b - a > 1
    · rw [if_pos h, tdiv_pos_eq (a := b - a) (by omega)]
      rw [w64 (n := (b - a) / 2) (by omega), w64 (n := a + (b - a) / 2) (by omega)]
      have hs : 0 < a + (b - a) / 2 := by omega
      have hne : ((a + (b - a) / 2) == 0) = false := by simp; omega
      rw [hne, cond_false, wtdiv (by omega) (by omega) hs]
      by_cases hc : a + (b - a) / 2 ≤ Int.tdiv n (a + (b - a) / 2)
      · rw [if_pos hc]
        rw [le_div_iff hs (by omega)] at hc
        exact ih _ b (by omega) (by omega) (by omega) hb hc h2
      · rw [if_neg hc]
        rw [le_div_iff hs (by omega)] at hc
        exact ih a _ (by omega) h0 (by omega) (by omega) h1 (by omega)
    · rw [if_neg h]
      obtain rfl : b = a + 1 := by omega
      rw [root_eq (n := n) (r := a) ⟨by omega, h1, h2⟩]
theorem s_ref1_Root (n : Int) (hn1 : n ≤ 9223372036854775807) : F_ref1_Root n = some (root n) := F_ref1_Root_of n _ (by
  simp only [Bool.cond_decide]
  by_cases h : n < 1
  · rw [if_pos h, root_neg (by omega)]
  · rw [if_neg h, s_ref1_Root_0 n (by omega) hn1 32 1 4294967296 (by omega) (by omega) (by omega) (by omega) (by omega) (by omega)]; rfl)
theorem s_ref1_RootUp (n : Int) (hn1 : n ≤ 9223372036854775807) : F_ref1_RootUp n = some (rootUp n) := F_ref1_RootUp_of n _ (by
  have h1 := root_sq_bd hn1
  have h2 := root_lt hn1
  have h3 := root_nonneg n
  simp only [s_ref1_Root n hn1, Option.bind_some, letIn, Bool.cond_decide]
  rw [w64 (by omega), w64 (n := root n + 1) (by omega)]
  unfold rootUp
  by_cases hn : n > 0
  · rw [if_pos hn]; split <;> rfl
  · rw [if_neg hn, if_neg (by omega)])
def pos (a : Int) : Int := if 0 > cl a then 0 else cl a
/-- a valid interval -/
def V2 (a : I2) : Prop := -2147483648 ≤ a.c0 ∧ a.c0 ≤ a.c1 ∧ a.c1 ≤ 2147483648
instance V2.dec (a : I2) : Decidable (V2 a) := by unfold V2; exact inferInstance
def WithinI (a b : I2) : Prop := V2 a ∧ V2 b ∧ b.c0 ≤ a.c0 ∧ a.c1 ≤ b.c1
instance WithinI.dec (a b : I2) : Decidable (WithinI a b) := by unfold WithinI; exact inferInstance
theorem WithinI.mk {a0 a1 b0 b1 : Int} (h0 : -2147483648 ≤ b0) (h1 : b0 ≤ a0) (h2 : a0 ≤ a1) (h3 : a1 ≤ b1) (h4 : b1 ≤ 2147483648) : WithinI ⟨a0, a1⟩ ⟨b0, b1⟩ := by
  unfold WithinI V2; dsimp only; omega
theorem tdiv_b {x p : Int} (hp : 1 ≤ p) : (0 ≤ x → 0 ≤ Int.tdiv x p ∧ Int.tdiv x p ≤ x) ∧ (x ≤ 0 → x ≤ Int.tdiv x p ∧ Int.tdiv x p ≤ 0) := by
  have pos : ∀ y : Int, 0 ≤ y → 0 ≤ Int.tdiv y p ∧ Int.tdiv y p ≤ y := fun y hy => by
    rw [tdiv_pos_eq hy]
    exact ⟨Int.ediv_nonneg hy (by omega), Int.ediv_le_self _ hy⟩
  refine ⟨pos x, fun hx => ?_⟩
  have h := pos (-x) (by omega)
  rw [Int.neg_tdiv] at h
  omega
theorem tdiv_I64 {x p : Int} (hx : I64 x) (hp : 1 ≤ p) : I64 (Int.tdiv x p) := by
  have h := tdiv_b (x := x) hp
  unfold I64 at *
  rcases Int.le_total 0 x with k | k
  · have := h.1 k; omega
  · have := h.2 k; omega
theorem tdiv_wrap {x p : Int} (hx : I64 x) (hp : 1 ≤ p) : IntKind.wrap .i64 (Int.tdiv x p) = Int.tdiv x p := w64 (tdiv_I64 hx hp)
theorem tdiv_49 {x : Int} (hx : I64 x) : -16384 ≤ Int.tdiv x 562949953421312 ∧ Int.tdiv x 562949953421312 ≤ 16384 := by
  unfold I64 at hx
  rcases Int.le_total 0 x with k | k
  · rw [tdiv_pos_eq k]; omega
  · have e : Int.tdiv x 562949953421312 = -((-x) / 562949953421312) := by
      have := Int.neg_tdiv (-x) 562949953421312
      rw [Int.neg_neg] at this
      rw [this, tdiv_pos_eq (by omega)]
    rw [e]; omega
theorem tdiv_half {x p : Int} (hp : 1 ≤ p) (h : Int.tdiv x p < -16384 ∨ 16384 < Int.tdiv x p) : Int.tdiv x (p * 2) ≠ 0 := by
  have pos : ∀ y : Int, 0 ≤ y → 16384 < Int.tdiv y p → 0 < Int.tdiv y (p * 2) := fun y hy hh => by
    rw [tdiv_pos_eq hy] at hh ⊢
    rw [← Int.ediv_ediv_of_nonneg (by omega)]
    omega
  have b := tdiv_b (x := x) hp
  rcases Int.le_total 0 x with k | k
  · have := b.1 k
    have := pos x k (by omega)
    omega
  · have := b.2 k
    have h2 := pos (-x) (by omega) (by rw [Int.neg_tdiv]; omega)
    rw [Int.neg_tdiv] at h2
    omega
def BI3' (v : I3) : Prop := I64 v.c0 ∧ I64 v.c1 ∧ I64 v.c2
def dv3 (v : I3) (p : Int) : I3 := ⟨Int.tdiv v.c0 p, Int.tdiv v.c1 p, Int.tdiv v.c2 p⟩
theorem dv3_one (v : I3) : dv3 v 1 = v := by unfold dv3; simp only [Int.tdiv_one]
def Fit3 (n : I3) : Prop := (-16384 ≤ n.c0 ∧ n.c0 ≤ 16384) ∧ (-16384 ≤ n.c1 ∧ n.c1 ≤ 16384) ∧ (-16384 ≤ n.c2 ∧ n.c2 ≤ 16384)
instance Fit3.dec (n : I3) : Decidable (Fit3 n) := by unfold Fit3; exact inferInstance
def nrmF (v : I3) : Nat → Nat → I3
  | 0, k => dv3 v (2 ^ k)
  | d + 1, k => if Fit3 (dv3 v (2 ^ k)) then dv3 v (2 ^ k) else nrmF v d (k + 1)
def nrmS (v : I3) : I3 := nrmF v 49 0
theorem fit_49 {v : I3} (h : BI3' v) : Fit3 (dv3 v (2 ^ 49)) := by
  have e : (2 : Int) ^ 49 = 562949953421312 := by decide
  rw [e]
  exact ⟨tdiv_49 h.1, tdiv_49 h.2.1, tdiv_49 h.2.2⟩
theorem p2_b {k : Nat} (h : k ≤ 50) : (1 : Int) ≤ 2 ^ k ∧ (2 : Int) ^ k ≤ 1125899906842624 := by
  have h1 := pow_pos2 k
  have h2 : (2 : Nat) ^ k ≤ 2 ^ 50 := Nat.pow_le_pow_right (by omega) h
  have h3 : ((2 ^ k : Nat) : Int) ≤ ((2 ^ 50 : Nat) : Int) := by omega
  have h4 : (2 : Int) ^ k ≤ 1125899906842624 := by simpa using h3
  omega
theorem s_support_fits (n : I3) : F_support_fits n = some (decide (Fit3 n)) := by
  rw [F_support_fits_eq]; congr 1
  simp only [G_support_fits, letIn, Bool.cond_decide]
  by_cases h : Fit3 n
  · rw [decide_eq_true h]
    unfold Fit3 at h
    rw [if_neg (by omega), if_neg (by omega), if_neg (by omega), if_neg (by omega), if_neg (by omega), if_neg (by omega)]
  · rw [decide_eq_false h]
    unfold Fit3 at h
    split
    · rename_i e he
      (repeat' split at he) <;> first | (cases he; rfl) | (cases he; done)
    · rename_i e he
      exfalso
      (repeat' split at he) <;> first | (cases he; done) | (apply h; omega)
theorem s_support_Normal_0 {v : I3} (hv : BI3' v) (c : I3) : ∀ (d k : Nat), k + d = 49 → L_support_Normal_0 (((k : Nat) : Int) + 1) v c (dv3 v (2 ^ k)) = some (c, nrmF v d k) := by
  intro d
  induction d with
  | zero =>
    intro k hk
    refine L_support_Normal_0_of _ _ _ _ _ ?_
    obtain rfl : k = 49 := by omega
    simp only [s_support_fits, Option.bind_some, decide_eq_true (fit_49 hv), Bool.not_true, cond_false, nrmF]
  | succ d ih =>
    intro k hk
    refine L_support_Normal_0_of _ _ _ _ _ ?_
    simp only [s_support_fits, Option.bind_some, nrmF]
    by_cases h : Fit3 (dv3 v (2 ^ k))
    · simp only [decide_eq_true h, Bool.not_true, cond_false, if_pos h]
    · have hp := p2_b (k := k + 1) (by omega)
      have e1 : min (((k : Nat) : Int) + 1).toNat 64 = k + 1 := by omega
      have e2 : IntKind.wrap .i64 (1 * (2 : Int) ^ (k + 1)) = 2 ^ (k + 1) := by rw [Int.one_mul]; exact w64 (by omega)
      have hne : ((2 : Int) ^ (k + 1) == 0) = false := by simp only [beq_eq_false_iff_ne, ne_eq]; omega
      have e3 : IntKind.wrap .i64 (((k : Nat) : Int) + 1 + 1) = ((k + 1 : Nat) : Int) + 1 := by rw [w64 (by omega)]; omega
      have i := ih (k + 1) (by omega)
      simp only [decide_eq_false h, Bool.not_false, cond_true, if_neg h, letIn, Bool.cond_decide, if_neg (show ¬ (((k : Nat) : Int) + 1 < 0) by omega), e1, e2, hne, cond_false, tdiv_wrap hv.1 hp.1, tdiv_wrap hv.2.1 hp.1, tdiv_wrap hv.2.2 hp.1, Option.bind_some, e3]
      exact i
theorem zero3 (n : I3) : (!((n.c0 == 0) && ((n.c1 == 0) && ((n.c2 == 0) && true)))) = decide (¬ (n.c0 = 0 ∧ n.c1 = 0 ∧ n.c2 = 0)) := by
  by_cases h0 : n.c0 = 0 <;> by_cases h1 : n.c1 = 0 <;> by_cases h2 : n.c2 = 0 <;> simp [h0, h1, h2]
theorem s_support_Normal {v : I3} (hv : BI3' v) : F_support_Normal v = some (nrmS v, decide (¬ ((nrmS v).c0 = 0 ∧ (nrmS v).c1 = 0 ∧ (nrmS v).c2 = 0))) := F_support_Normal_of _ _ (by
  have h := s_support_Normal_0 hv ⟨0, 0, 0⟩ 49 0 (by omega)
  rw [Int.pow_zero, dv3_one] at h
  simp only [Int.natCast_zero, Int.zero_add] at h
  rw [h]
  simp only [Option.bind_some, letIn, zero3]; rfl)
theorem s_ref6_Near (n : I3) : F_ref6_Near n 16384 = some (decide (Fit3 n)) := by
  rw [F_ref6_Near_eq]; congr 1
  have e : IntKind.wrap .i64 (0 - 16384) = -16384 := by rw [w64 (by omega)]; rfl
  simp only [G_ref6_Near, letIn, Bool.cond_decide, e]
  by_cases h : Fit3 n
  · rw [decide_eq_true h]
    unfold Fit3 at h
    rw [if_neg (by omega), if_neg (by omega), if_neg (by omega), if_neg (by omega), if_neg (by omega), if_neg (by omega)]
  · rw [decide_eq_false h]
    unfold Fit3 at h
    split
    · rename_i e he
      (repeat' split at he) <;> first | (cases he; rfl) | (cases he; done)
    · rename_i e he
      exfalso
      (repeat' split at he) <;> first | (cases he; done) | (apply h; omega)
theorem s_ref10_Normal_0 {v : I3} (hv : BI3' v) (c : I3) : ∀ (d k : Nat), k + d = 49 → L_ref10_Normal_0 (2 ^ k) v c = some (true, nrmF v d k) := by
  intro d
  induction d with
  | zero =>
    intro k hk
    refine L_ref10_Normal_0_of _ _ _ _ ?_
    obtain rfl : k = 49 := by omega
    have hp := p2_b (k := 49) (by omega)
    have hne : ((2 : Int) ^ 49 == 0) = false := by decide
    have hf := fit_49 hv
    have e : F_ref6_Near (dv3 v (2 ^ 49)) 16384 = some true := by rw [s_ref6_Near, decide_eq_true hf]
    unfold dv3 at e
    simp only [hne, cond_false, letIn, tdiv_wrap hv.1 hp.1, tdiv_wrap hv.2.1 hp.1, tdiv_wrap hv.2.2 hp.1, e, Option.bind_some, cond_true, nrmF, dv3]
  | succ d ih =>
    intro k hk
    refine L_ref10_Normal_0_of _ _ _ _ ?_
    have hp := p2_b (k := k) (by omega)
    have hne : ((2 : Int) ^ k == 0) = false := by simp only [beq_eq_false_iff_ne, ne_eq]; omega
    have e : F_ref6_Near (dv3 v (2 ^ k)) 16384 = some (decide (Fit3 (dv3 v (2 ^ k)))) := s_ref6_Near _
    have i := ih (k + 1) (by omega)
    rw [Int.pow_succ] at i
    have hd : I3.mk (Int.tdiv v.c0 (2 ^ k)) (Int.tdiv v.c1 (2 ^ k)) (Int.tdiv v.c2 (2 ^ k)) = dv3 v (2 ^ k) := rfl
    simp only [hne, cond_false, letIn, tdiv_wrap hv.1 hp.1, tdiv_wrap hv.2.1 hp.1, tdiv_wrap hv.2.2 hp.1, hd, e, Option.bind_some, nrmF]
    by_cases h : Fit3 (dv3 v (2 ^ k))
    · simp only [decide_eq_true h, cond_true, if_pos h]
    · simp only [decide_eq_false h, cond_false, if_neg h]
      rw [w64 (n := 2 ^ k * 2) (by omega), i]
def Zero3 (v : I3) : Prop := v.c0 = 0 ∧ v.c1 = 0 ∧ v.c2 = 0
instance Zero3.dec (v : I3) : Decidable (Zero3 v) := by unfold Zero3; exact inferInstance
theorem zero3' (n : I3) : ((n.c0 == 0) && ((n.c1 == 0) && ((n.c2 == 0) && true))) = decide (Zero3 n) := by
  unfold Zero3
  by_cases h0 : n.c0 = 0 <;> by_cases h1 : n.c1 = 0 <;> by_cases h2 : n.c2 = 0 <;> simp [h0, h1, h2]
theorem nrmF_spec {v : I3} (hv : BI3' v) : ∀ (d k : Nat), k + d = 49 → (k = 0 ∨ ¬ Fit3 (dv3 v (2 ^ (k - 1)))) → ∃ j : Nat, j ≤ 49 ∧ nrmF v d k = dv3 v (2 ^ j) ∧ Fit3 (dv3 v (2 ^ j)) ∧ (j = 0 ∨ ¬ Fit3 (dv3 v (2 ^ (j - 1)))) := by
  intro d
  induction d with
  | zero =>
    intro k hk h
    obtain rfl : k = 49 := by omega
    exact ⟨49, by omega, rfl, fit_49 hv, h⟩
  | succ d ih =>
    intro k hk h
    simp only [nrmF]
    by_cases hf : Fit3 (dv3 v (2 ^ k))
    · rw [if_pos hf]; exact ⟨k, by omega, rfl, hf, h⟩
    · rw [if_neg hf]; exact ih (k + 1) (by omega) (.inr hf)
theorem nrmS_spec {v : I3} (hv : BI3' v) : Fit3 (nrmS v) ∧ (∃ j : Nat, j ≤ 49 ∧ nrmS v = dv3 v (2 ^ j)) ∧ (Zero3 (nrmS v) ↔ Zero3 v) := by
  obtain ⟨j, h1, h2, h3, h4⟩ := nrmF_spec hv 49 0 rfl (.inl rfl)
  change nrmS v = _ at h2
  have hp := p2_b (k := j) (by omega)
  refine ⟨by rw [h2]; exact h3, ⟨j, h1, h2⟩, ?_⟩
  rw [h2]
  constructor
  · intro hz
    rcases h4 with rfl | h4
    · rw [Int.pow_zero, dv3_one] at hz; exact hz
    · exfalso
      obtain ⟨i, rfl⟩ : ∃ i, j = i + 1 := by
        cases j with
        | zero => exact absurd h3 h4
        | succ i => exact ⟨i, rfl⟩
      have hq := p2_b (k := i) (by omega)
      rw [Nat.add_sub_cancel] at h4
      apply h4
      obtain ⟨z0, z1, z2⟩ := hz
      unfold dv3 at z0 z1 z2
      dsimp only at z0 z1 z2
      rw [Int.pow_succ] at z0 z1 z2
      have one : ∀ x : Int, Int.tdiv x (2 ^ i * 2) = 0 → -16384 ≤ Int.tdiv x (2 ^ i) ∧ Int.tdiv x (2 ^ i) ≤ 16384 := fun x hx => by
        rcases Int.lt_or_le (Int.tdiv x (2 ^ i)) (-16384) with k | k
        · exact absurd hx (tdiv_half hq.1 (.inl k))
        · rcases Int.lt_or_le 16384 (Int.tdiv x (2 ^ i)) with k2 | k2
          · exact absurd hx (tdiv_half hq.1 (.inr k2))
          · exact ⟨k, k2⟩
      exact ⟨one _ z0, one _ z1, one _ z2⟩
  · rintro ⟨z0, z1, z2⟩
    unfold Zero3 dv3; dsimp only
    rw [z0, z1, z2, Int.zero_tdiv]; exact ⟨rfl, rfl, rfl⟩
def normalS (v : I3) : I3 × Bool := (nrmS v, decide (¬ Zero3 v))
theorem s_support_Normal' {v : I3} (hv : BI3' v) : F_support_Normal v = some (normalS v) := by
  rw [s_support_Normal hv]
  have h := (nrmS_spec hv).2.2
  unfold normalS
  have e : (¬ ((nrmS v).c0 = 0 ∧ (nrmS v).c1 = 0 ∧ (nrmS v).c2 = 0)) = ¬ Zero3 v := by
    rw [← h]; rfl
  simp only [e]
theorem s_ref10_Normal {v : I3} (hv : BI3' v) : F_ref10_Normal v = some (normalS v) := F_ref10_Normal_of _ _ (by
  have h := s_ref10_Normal_0 hv ⟨0, 0, 0⟩ 49 0 (by omega)
  rw [Int.pow_zero] at h
  simp only [letIn, zero3', normalS, h, Option.bind_some]
  by_cases hz : Zero3 v
  · have e : nrmS v = v := by
      have h1 := (nrmS_spec hv).2.2.2 hz
      obtain ⟨a0, a1, a2⟩ := h1
      obtain ⟨b0, b1, b2⟩ := hz
      have : ∀ p q : I3, p.c0 = q.c0 → p.c1 = q.c1 → p.c2 = q.c2 → p = q := by
        rintro ⟨x, y, z⟩ ⟨x', y', z'⟩ rfl rfl rfl; rfl
      exact this _ _ (by omega) (by omega) (by omega)
    have d1 : decide (Zero3 v) = true := decide_eq_true hz
    have d2 : decide (¬ Zero3 v) = false := decide_eq_false (fun k => k hz)
    simp only [d1, d2, cond_true, e]
  · have d1 : decide (Zero3 v) = false := decide_eq_false hz
    have d2 : decide (¬ Zero3 v) = true := decide_eq_true hz
    simp only [d1, d2, cond_false]; rfl)
def sqn (n : I3) : Int := n.c0 * n.c0 + n.c1 * n.c1 + n.c2 * n.c2
def UsableP (n : I3) : Prop := Fit3 n ∧ ¬ (n.c0 = 0 ∧ n.c1 = 0 ∧ n.c2 = 0)
instance UsableP.dec (n : I3) : Decidable (UsableP n) := by unfold UsableP; exact inferInstance
def normS (n : I3) : Int := if UsableP n then rootUp (sqn n) else 0
theorem sq_b {x : Int} (h : -16384 ≤ x ∧ x ≤ 16384) : 0 ≤ x * x ∧ x * x ≤ 268435456 := by
  have h1 := mul_bd (x := x) (y := x) (m := 16384) (n := 16384) (by omega) (by omega) (by omega) (by omega)
  have h2 : 0 ≤ x * x := by
    rcases Int.le_total 0 x with k | k
    · exact Int.mul_nonneg k k
    · exact Int.mul_nonneg_of_nonpos_of_nonpos k k
  omega
theorem s_support_Usable (n : I3) : F_support_Usable n = some (decide (UsableP n)) := F_support_Usable_of n _ (by
  simp only [s_support_fits, Option.bind_some, letIn, zero3, UsableP]
  by_cases h : Fit3 n <;> simp [h])
theorem s_support_Norm (n : I3) : F_support_Norm n = some (normS n) := F_support_Norm_of n _ (by
  simp only [s_support_Usable, Option.bind_some, normS]
  by_cases h : UsableP n
  · have b0 := sq_b h.1.1; have b1 := sq_b h.1.2.1; have b2 := sq_b h.1.2.2
    simp only [h, decide_true, Bool.not_true, cond_false, if_true, letIn]
    rw [w64 (n := n.c0 * n.c0) (by omega), w64 (n := n.c1 * n.c1) (by omega), w64 (n := n.c2 * n.c2) (by omega), w64 (n := n.c0 * n.c0 + n.c1 * n.c1) (by omega), w64 (n := n.c0 * n.c0 + n.c1 * n.c1 + n.c2 * n.c2) (by omega), s_fixed_RootUp _ (by omega)]; rfl
  · simp [h])
theorem s_ref10_Usable (n : I3) : F_ref10_Usable n = some (decide (UsableP n)) := F_ref10_Usable_of n _ (by
  simp only [s_ref6_Near, Option.bind_some, letIn, zero3, UsableP]
  by_cases h : Fit3 n <;> by_cases h2 : n.c0 = 0 ∧ n.c1 = 0 ∧ n.c2 = 0 <;> simp [h, h2])
theorem s_ref10_Norm (n : I3) : F_ref10_Norm n = some (normS n) := F_ref10_Norm_of n _ (by
  simp only [s_ref10_Usable, Option.bind_some, normS]
  by_cases h : UsableP n
  · have b0 := sq_b h.1.1; have b1 := sq_b h.1.2.1; have b2 := sq_b h.1.2.2
    simp only [h, decide_true, Bool.not_true, cond_false, if_true, letIn]
    rw [w64 (n := n.c0 * n.c0) (by omega), w64 (n := n.c1 * n.c1) (by omega), w64 (n := n.c2 * n.c2) (by omega), w64 (n := n.c0 * n.c0 + n.c1 * n.c1) (by omega), w64 (n := n.c0 * n.c0 + n.c1 * n.c1 + n.c2 * n.c2) (by omega), s_ref1_RootUp _ (by omega)]; rfl
  · simp [h])
theorem s_law13_normals {v : I3} (hv : BI3' v) : F_law13_normals v = some true := F_law13_normals_of _ _ (by
  simp only [s_support_Normal' hv, s_ref10_Normal hv, s_support_Usable, s_ref10_Usable, s_support_Norm, s_ref10_Norm, Option.bind_some, letIn, beq_self_eq_true, Bool.and_self, Bool.and_true, cond_true])
theorem shr_I64 {x : Int} (k : Nat) (h : I64 x) : I64 (Int.fdiv x (2 ^ k)) := by
  unfold I64 at h ⊢
  rw [fdiv_pos (by have := pow_pos2 k; omega)]
  exact div_bd (pow_pos2 k) h.1 h.2
theorem shok {s : Int} (h : 0 ≤ s) : ¬ (Int.tmod s 64 < 0) := by have := tmod64 h; omega
theorem shok4 {s : Int} (h : 0 ≤ s ∧ s ≤ 255) : IntKind.wrap .u8 (Int.tdiv s 4) = s / 4 ∧ ¬ (Int.tmod (s / 4) 64 < 0) := by
  refine ⟨?_, ?_⟩
  · rw [tdiv_pos_eq h.1]; exact Go.IntWalk.u8_in _ (by omega)
  · have := tmod64 (a := s / 4) (by omega); omega
theorem s_make_Round {n k : Int} (hk : 0 < k) (hk2 : k ≤ 4611686018427387904) : Ans (F_make_Round n k) (fun r => 0 ≤ r ∧ r < k) := Ans.of (F_make_Round_of n k) (by
  have hne : (k == 0) = false := by simp; omega
  simp only [hne, cond_false, letIn, Bool.cond_decide]
  have h1 := Int.tmod_lt_of_pos n hk
  have h2 : -k < Int.tmod n k := by
    have := Int.neg_tmod n k
    have h3 := Int.tmod_lt_of_pos (-n) hk
    omega
  by_cases h : Int.tmod n k < 0
  · rw [if_pos h, w64 (by omega)]; exact Ans.ret (by omega)
  · rw [if_neg h]; exact Ans.ret (by omega))
theorem s_make_Normal (a b c : Int) : Ans (F_make_Normal a b c) UsableP := Ans.of (F_make_Normal_of a b c) (by
  simp only [letIn, s_ref10_Usable, Option.bind_some]
  have one : UsableP ⟨1, 0, 0⟩ := by decide
  refine Ans.bind (s_make_Round (by omega) (by omega)) fun y4 h4 => ?_
  refine Ans.bind (s_make_Round (by omega) (by omega)) fun y6 h6 => ?_
  refine Ans.bind (s_make_Round (by omega) (by omega)) fun y8 h8 => ?_
  have key : ∀ v : I3, Ans (bif !decide (UsableP v) then some (I3.mk 1 0 0) else some v) UsableP := by
    intro v
    by_cases h : UsableP v
    · simp only [h, decide_true, Bool.not_true, cond_false]; exact Ans.ret h
    · simp only [h, decide_false, Bool.not_false, cond_true]; exact Ans.ret one
  cases (IntKind.wrap .i64 ((BitVec.ofInt 64 a &&& BitVec.ofInt 64 8).toNat : Nat) == 8 : Bool) with
  | true =>
    rw [cond_true]
    refine Ans.bind (s_make_Round (by omega) (by omega)) fun y11 h11 => ?_
    refine Ans.bind (s_make_Round (by omega) (by omega)) fun y13 h13 => ?_
    refine Ans.bind (s_make_Round (by omega) (by omega)) fun y15 h15 => ?_
    exact key _
  | false => exact key _)
theorem law13_awake : F_law13_awake = some true := den_const (x := X_law13_awake) injO_law13_awake 60 (fun n => by kernel_rfl)
theorem law_law13_SupportNormals (v : I3) (a b c s : Int) (hv : BI3 v) (ha : I64 a) (hb : I64 b) (hc : I64 c) (h8 : 0 ≤ s ∧ s ≤ 255) : F_law13_SupportNormals v a b c s = some true := F_law13_SupportNormals_of _ _ _ _ _ _ (by
  obtain ⟨n, hn, un⟩ := s_make_Normal a b c
  obtain ⟨e1, e2⟩ := shok4 h8
  have hv' : BI3' v := hv
  have hn' : BI3' n := by
    have := un.1
    unfold Fit3 at this
    unfold BI3' I64; omega
  have hs : BI3' ⟨Int.fdiv v.c0 (2 ^ min (Int.tmod s 64).toNat 64), Int.fdiv v.c1 (2 ^ min (Int.tmod s 64).toNat 64), Int.fdiv v.c2 (2 ^ min (Int.tmod (s / 4) 64).toNat 64)⟩ := ⟨shr_I64 _ hv'.1, shr_I64 _ hv'.2.1, shr_I64 _ hv'.2.2⟩
  simp only [hn, letIn, Bool.cond_decide, e1, if_neg (shok h8.1), if_neg e2, law13_awake, s_law13_normals hv', s_law13_normals hn', s_law13_normals hs, s_support_Usable, decide_eq_true un, Option.bind_some, cond_true])
end Go.Proofs.Ytceaambiagobbaa.Am
