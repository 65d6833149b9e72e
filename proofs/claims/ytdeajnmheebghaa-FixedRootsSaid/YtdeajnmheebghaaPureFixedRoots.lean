/- Root, RootUp, SqrtDown and SqrtUp agree with the reference at every number. No conditions. -/
import Derived.Test.YtdeajnmheebghaaPFixedRootsx2
import Derived.Test.YtdeajnmheebghaaAr
namespace Go.Proofs.Ytdeajnmheebghaa.Pure
namespace FixedRoots
open Go.RowKit Go.Proofs.Ytdeajnmheebghaa.PFixedRoots Go.Proofs.YtdeajnmheebghaaW.PrintWords Go.Proofs.YtdeajnmheebghaaW.PrintLast Go.Proofs.Ytdeajnmheebghaa.Ar
set_option linter.unusedVariables false

theorem fixed_Clamp_eq (a : Int) : fixed_Clamp.f a = some (cl a) := by unfold fixed_Clamp.f; rw [mnmx]

theorem armplanref1_Clamp_eq (a : Int) : armplanref1_Clamp.f a = some (cl a) := by unfold armplanref1_Clamp.f; rw [mxmn]

theorem fixed_product_eq (a b : Int) : fixed_product.f a b = some (cl a * cl b) := by
  unfold fixed_product.f
  have h := cl_mul a b
  simp only [fixed_Clamp_eq, Option.bind_some]
  rw [w64 (by omega) (by omega)]

theorem fixed_ShiftDown_eq (a s : Int) (h0 : -9223372036854775808 ≤ a) (h1 : a ≤ 9223372036854775807) : fixed_ShiftDown.f a s = some (a / 2 ^ s.toNat) := by
  unfold fixed_ShiftDown.f
  by_cases h : s < 0
  · rw [if_pos h, show s.toNat = 0 by omega]; simp
  · rw [if_neg h, if_pos (by omega), shr_eq, div_min _ h0 h1]

theorem fixed_MulDown_eq (a b : Int) : fixed_MulDown.f a b = some (cl a * cl b / 65536) := by
  unfold fixed_MulDown.f
  have h := cl_mul a b
  rw [fixed_product_eq]
  simp only [Option.bind_some]
  rw [fixed_ShiftDown_eq _ _ (by omega) (by omega)]
  rfl

theorem shl_one {e : Int} (h0 : 0 ≤ e) (h1 : e ≤ 31) : shl .i64 1 e = 2 ^ e.toNat := by
  rw [shl_is, Nat.min_eq_left (by omega), Int.one_mul]
  have h : (2 : Nat) ^ e.toNat ≤ 2 ^ 31 := Nat.pow_le_pow_right (by omega) (by omega)
  have h2 : ((2 ^ e.toNat : Nat) : Int) ≤ ((2 ^ 31 : Nat) : Int) := by omega
  have h3 : (2 : Int) ^ e.toNat ≤ 2147483648 := by simpa using h2
  have := pow_pos2 e.toNat
  exact w64 (by omega) (by omega)
theorem fixed_Root_l0 (n : Int) (hn : 1 ≤ n) (hn1 : n ≤ 9223372036854775807) : ∀ (d k : Nat) (r i : Int), i + d = 32 → d ≤ 32 → d < k → 0 ≤ r → r * r ≤ n → n < (r + 2 ^ d) * (r + 2 ^ d) → r + 2 ^ d ≤ 4294967296 →
    fixed_Root.l0 k n r i = some (root n) := by
  intro d
  induction d with
  | zero =>
    intro k r i hi hd hk h0 h1 h2 h3
    obtain ⟨k, rfl⟩ : ∃ m, k = m + 1 := ⟨k - 1, by omega⟩
    simp only [fixed_Root.l0]
    rw [if_neg (by omega)]
    rw [root_eq (n := n) (r := r) ⟨h0, h1, by simpa using h2⟩]
  | succ d ih =>
    intro k r i hi hd hk h0 h1 h2 h3
    obtain ⟨k, rfl⟩ : ∃ m, k = m + 1 := ⟨k - 1, by omega⟩
    simp only [fixed_Root.l0]
    have hp := pow_pos2 d
    have hq : (2 : Int) ^ (d + 1) = 2 ^ d * 2 := Int.pow_succ 2 d
    have e1 : wrap64 (31 - i) = d := by rw [w64 (by omega) (by omega)]; omega
    have e2 : shl .i64 1 (d : Int) = 2 ^ d := by rw [shl_one (by omega) (by omega)]; rfl
    rw [if_pos (by omega), e1, if_pos (by omega), e2]
    have e3 : wrap64 (r + 2 ^ d) = r + 2 ^ d := w64 (by omega) (by omega)
    have e4 : wrap64 (i + 1) = i + 1 := w64 (by omega) (by omega)
    have hs : (0 : Int) < r + 2 ^ d := by omega
    have e5 : wrap64 (Int.tdiv n (r + 2 ^ d)) = Int.tdiv n (r + 2 ^ d) := by
      rw [tdiv_pos_eq (by omega)]
      have := div_bd hs (a := n) (by omega) (by omega)
      exact w64 this.1 this.2
    rw [e3, if_neg (by omega), e5, e4]
    by_cases h : r + 2 ^ d ≤ Int.tdiv n (r + 2 ^ d)
    · rw [if_pos h]
      rw [le_div_iff hs (by omega)] at h
      exact ih k (r + 2 ^ d) (i + 1) (by omega) (by omega) (by omega) (by omega) h (by rw [show r + 2 ^ d + 2 ^ d = r + 2 ^ (d + 1) by omega]; exact h2) (by omega)
    · rw [if_neg h]
      rw [le_div_iff hs (by omega)] at h
      exact ih k r (i + 1) (by omega) (by omega) (by omega) h0 h1 (by omega) (by omega)
theorem fixed_Root_eq (k : Nat) (hk : 70 ≤ k) (n : Int) (hn1 : n ≤ 9223372036854775807) : fixed_Root.f k n = some (root n) := by
  unfold fixed_Root.f
  by_cases h : n ≤ 0
  · rw [if_pos h, root_neg h]
  · rw [if_neg h]
    exact fixed_Root_l0 n (by omega) hn1 32 k 0 0 (by omega) (by omega) (by omega) (by omega) (by omega) (by omega) (by omega)

theorem fixed_RootUp_eq (k : Nat) (hk : 70 ≤ k) (n : Int) (hn1 : n ≤ 9223372036854775807) : fixed_RootUp.f k n = some (rootUp n) := by
  unfold fixed_RootUp.f rootUp
  have h1 := root_sq_bd hn1
  have h2 := root_lt hn1
  have h3 := root_nonneg n
  rw [fixed_Root_eq k hk n hn1]
  simp only [Option.bind_some]
  rw [w64 (by omega) (by omega), w64 (n := root n + 1) (by omega) (by omega)]
  split <;> rfl

theorem armplanref1_Root_l0 (n : Int) (hn : 1 ≤ n) (hn1 : n ≤ 9223372036854775807) : ∀ (d k : Nat) (a b : Int), b - a ≤ 2 ^ d → d < k → 1 ≤ a → a < b → b ≤ 4294967296 → a * a ≤ n → n < b * b →
    armplanref1_Root.l0 k n a b = some (root n) := by
  intro d
  induction d with
  | zero =>
    intro k a b hd hk h0 hab hb h1 h2
    obtain ⟨k, rfl⟩ : ∃ m, k = m + 1 := ⟨k - 1, by omega⟩
    simp only [armplanref1_Root.l0]
    rw [w64 (n := b - a) (by omega) (by omega), if_neg (by omega)]
    obtain rfl : b = a + 1 := by omega
    rw [root_eq (n := n) (r := a) ⟨by omega, h1, h2⟩]
  | succ d ih =>
    intro k a b hd hk h0 hab hb h1 h2
    obtain ⟨k, rfl⟩ : ∃ m, k = m + 1 := ⟨k - 1, by omega⟩
    have hq : (2 : Int) ^ (d + 1) = 2 ^ d * 2 := Int.pow_succ 2 d
    have hp := pow_pos2 d
    simp only [armplanref1_Root.l0]
    rw [w64 (n := b - a) (by omega) (by omega)]
    by_cases h : b - a > 1
    · rw [if_pos h, tdiv_pos_eq (a := b - a) (by omega)]
      rw [w64 (n := (b - a) / 2) (by omega) (by omega), w64 (n := a + (b - a) / 2) (by omega) (by omega)]
      have hs : 0 < a + (b - a) / 2 := by omega
      have e5 : wrap64 (Int.tdiv n (a + (b - a) / 2)) = Int.tdiv n (a + (b - a) / 2) := by
        rw [tdiv_pos_eq (by omega)]
        have := div_bd hs (a := n) (by omega) (by omega)
        exact w64 this.1 this.2
      rw [if_neg (by omega), e5]
      by_cases hc : a + (b - a) / 2 ≤ Int.tdiv n (a + (b - a) / 2)
      · rw [if_pos hc]
        rw [le_div_iff hs (by omega)] at hc
        exact ih k _ b (by omega) (by omega) (by omega) (by omega) hb hc h2
      · rw [if_neg hc]
        rw [le_div_iff hs (by omega)] at hc
        exact ih k a _ (by omega) (by omega) h0 (by omega) (by omega) h1 (by omega)
    · rw [if_neg h]
      obtain rfl : b = a + 1 := by omega
      rw [root_eq (n := n) (r := a) ⟨by omega, h1, h2⟩]
theorem armplanref1_Root_eq (k : Nat) (hk : 70 ≤ k) (n : Int) (hn1 : n ≤ 9223372036854775807) : armplanref1_Root.f k n = some (root n) := by
  unfold armplanref1_Root.f
  by_cases h : n < 1
  · rw [if_pos h, root_neg (by omega)]
  · rw [if_neg h]
    exact armplanref1_Root_l0 n (by omega) hn1 32 k 1 4294967296 (by omega) (by omega) (by omega) (by omega) (by omega) (by omega) (by omega)

theorem armplanref1_RootUp_eq (k : Nat) (hk : 70 ≤ k) (n : Int) (hn1 : n ≤ 9223372036854775807) : armplanref1_RootUp.f k n = some (rootUp n) := by
  unfold armplanref1_RootUp.f rootUp
  have h1 := root_sq_bd hn1
  have h2 := root_lt hn1
  have h3 := root_nonneg n
  rw [armplanref1_Root_eq k hk n hn1]
  simp only [Option.bind_some]
  rw [w64 (by omega) (by omega), w64 (n := root n + 1) (by omega) (by omega)]
  by_cases hn : n > 0
  · rw [if_pos hn]; split <;> rfl
  · rw [if_neg hn, if_neg (by omega)]

theorem fixed_SqrtDown_eq (k : Nat) (hk : 70 ≤ k) (a : Int) : fixed_SqrtDown.f k a = some (root ((if 0 < cl a then cl a else 0) * 65536)) := by
  unfold fixed_SqrtDown.f
  have h0 := cl_lo a
  have h1 := cl_hi a
  have e : mx (cl a) 0 = if 0 < cl a then cl a else 0 := by unfold mx; (repeat' split) <;> omega
  simp only [fixed_Clamp_eq, Option.bind_some, e]
  have hb : 0 ≤ (if 0 < cl a then cl a else 0) ∧ (if 0 < cl a then cl a else 0) ≤ 2147483648 := by split <;> omega
  rw [w64 (by omega) (by omega), fixed_Root_eq k hk _ (by omega)]
  rfl

theorem fixed_SqrtUp_eq (k : Nat) (hk : 70 ≤ k) (a : Int) : fixed_SqrtUp.f k a = some (rootUp ((if 0 < cl a then cl a else 0) * 65536)) := by
  unfold fixed_SqrtUp.f
  have h0 := cl_lo a
  have h1 := cl_hi a
  have e : mx (cl a) 0 = if 0 < cl a then cl a else 0 := by unfold mx; (repeat' split) <;> omega
  simp only [fixed_Clamp_eq, Option.bind_some, e]
  have hb : 0 ≤ (if 0 < cl a then cl a else 0) ∧ (if 0 < cl a then cl a else 0) ≤ 2147483648 := by split <;> omega
  rw [w64 (by omega) (by omega), fixed_RootUp_eq k hk _ (by omega)]
  rfl

theorem armplanref1_SqrtDown_eq (k : Nat) (hk : 70 ≤ k) (a : Int) : armplanref1_SqrtDown.f k a = some (root ((if 0 < cl a then cl a else 0) * 65536)) := by
  unfold armplanref1_SqrtDown.f
  have h0 := cl_lo a
  have h1 := cl_hi a
  have e : mx (cl a) 0 = if 0 < cl a then cl a else 0 := by unfold mx; (repeat' split) <;> omega
  simp only [armplanref1_Clamp_eq, Option.bind_some, e]
  have hb : 0 ≤ (if 0 < cl a then cl a else 0) ∧ (if 0 < cl a then cl a else 0) ≤ 2147483648 := by split <;> omega
  rw [w64 (by omega) (by omega), armplanref1_Root_eq k hk _ (by omega)]
  rfl

theorem armplanref1_SqrtUp_eq (k : Nat) (hk : 70 ≤ k) (a : Int) : armplanref1_SqrtUp.f k a = some (rootUp ((if 0 < cl a then cl a else 0) * 65536)) := by
  unfold armplanref1_SqrtUp.f
  have h0 := cl_lo a
  have h1 := cl_hi a
  have e : mx (cl a) 0 = if 0 < cl a then cl a else 0 := by unfold mx; (repeat' split) <;> omega
  simp only [armplanref1_Clamp_eq, Option.bind_some, e]
  have hb : 0 ≤ (if 0 < cl a then cl a else 0) ∧ (if 0 < cl a then cl a else 0) ≤ 2147483648 := by split <;> omega
  rw [w64 (by omega) (by omega), armplanref1_RootUp_eq k hk _ (by omega)]
  rfl

theorem armplanlaw1_awake_eq (k : Nat) (hk : 70 ≤ k) : armplanlaw1_awake.f k = some true := by
  unfold armplanlaw1_awake.f
  rw [fixed_MulDown_eq]
  simp only [Option.bind_some]
  have e1 : cl 98304 * cl 32768 / 65536 = 49152 := by
    rw [cl_id (by omega) (by omega), cl_id (by omega) (by omega)]; omega
  have e2 : root 15 = 3 := root_eq ⟨by omega, by omega, by omega⟩
  rw [if_pos e1, fixed_Root_eq k hk 15 (by omega), e2]
  rfl

end FixedRoots
open Go.RowKit Go.Proofs.Ytdeajnmheebghaa.PFixedRoots Go.Proofs.YtdeajnmheebghaaW.PrintWords Go.Proofs.YtdeajnmheebghaaW.PrintLast Go.Proofs.Ytdeajnmheebghaa.Ar FixedRoots
/-- The law, over numbers alone. -/
theorem FixedRoots : armplanlaw1_FixedRoots.Pure := by
  intro a0 a1 h0 h1
  obtain ⟨p0, p1⟩ := i64_bd h0
  obtain ⟨s0, _⟩ := u8_bd h1
  obtain ⟨_, x1⟩ := shr_bd (Int.tmod a1 64) p0 p1
  refine ⟨100, ?_⟩
  have hk : 70 ≤ 100 := by omega
  unfold armplanlaw1_FixedRoots.f
  rw [if_pos (tmod64 s0).1, armplanlaw1_awake_eq 100 hk, fixed_Root_eq 100 hk _ p1, fixed_Root_eq 100 hk _ x1, fixed_RootUp_eq 100 hk _ p1, fixed_RootUp_eq 100 hk _ x1,
    armplanref1_Root_eq 100 hk _ p1, armplanref1_Root_eq 100 hk _ x1, armplanref1_RootUp_eq 100 hk _ p1, armplanref1_RootUp_eq 100 hk _ x1]
  simp only [Option.bind_some, fixed_SqrtDown_eq 100 hk, fixed_SqrtUp_eq 100 hk, armplanref1_SqrtDown_eq 100 hk, armplanref1_SqrtUp_eq 100 hk, if_true, beq_self_eq_true]

end Go.Proofs.Ytdeajnmheebghaa.Pure
