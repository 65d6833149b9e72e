/- Root and RootUp are the roots rounded down and up, at every number. No conditions. -/
import Derived.Test.YtdeajnmheebghaaPFixedSquaresx1
import Derived.Test.YtdeajnmheebghaaAr
namespace Go.Proofs.Ytdeajnmheebghaa.Pure
namespace FixedSquares
open Go.RowKit Go.Proofs.Ytdeajnmheebghaa.PFixedSquares Go.Proofs.YtdeajnmheebghaaW.PrintWords Go.Proofs.YtdeajnmheebghaaW.PrintLast Go.Proofs.Ytdeajnmheebghaa.Ar
set_option linter.unusedVariables false

theorem fixed_Clamp_eq (a : Int) : fixed_Clamp.f a = some (cl a) := by unfold fixed_Clamp.f; rw [mnmx]

theorem fixed_product_eq (a b : Int) : fixed_product.f a b = some (cl a * cl b) := by
  unfold fixed_product.f
  have h := cl_mul a b
  simp only [fixed_Clamp_eq, Option.bind_some]
  rw [w64 (by omega) (by omega)]

theorem fixed_ShiftDown_eq (a s : Int) (h0 : -9223372036854775808 ≤ a) (h1 : a ≤ 9223372036854775807) : fixed_ShiftDown.f a s = some (a / 2 ^ s.toNat) := by
  unfold fixed_ShiftDown.f
  by_cases h : s < 0
  · rw [if_pos h, show s.toNat = 0 by omega]; simp
  · rw [if_neg h, if_pos (by omega), shr_eq, div_min _ h0 h1]

theorem fixed_MulDown_eq (a b : Int) : fixed_MulDown.f a b = some (cl a * cl b / 65536) := by
  unfold fixed_MulDown.f
  have h := cl_mul a b
  rw [fixed_product_eq]
  simp only [Option.bind_some]
  rw [fixed_ShiftDown_eq _ _ (by omega) (by omega)]
  rfl

theorem shl_one {e : Int} (h0 : 0 ≤ e) (h1 : e ≤ 31) : shl .i64 1 e = 2 ^ e.toNat := by
  rw [shl_is, Nat.min_eq_left (by omega), Int.one_mul]
  have h : (2 : Nat) ^ e.toNat ≤ 2 ^ 31 := Nat.pow_le_pow_right (by omega) (by omega)
  have h2 : ((2 ^ e.toNat : Nat) : Int) ≤ ((2 ^ 31 : Nat) : Int) := by omega
  have h3 : (2 : Int) ^ e.toNat ≤ 2147483648 := by simpa using h2
  have := pow_pos2 e.toNat
  exact w64 (by omega) (by omega)
theorem fixed_Root_l0 (n : Int) (hn : 1 ≤ n) (hn1 : n ≤ 9223372036854775807) : ∀ (d k : Nat) (r i : Int), i + d = 32 → d ≤ 32 → d < k → 0 ≤ r → r * r ≤ n → n < (r + 2 ^ d) * (r + 2 ^ d) → r + 2 ^ d ≤ 4294967296 →
    fixed_Root.l0 k n r i = some (root n) := by
  intro d
  induction d with
  | zero =>
    intro k r i hi hd hk h0 h1 h2 h3
    obtain ⟨k, rfl⟩ : ∃ m, k = m + 1 := ⟨k - 1, by omega⟩
    simp only [fixed_Root.l0]
    rw [if_neg (by omega)]
    rw [root_eq (n := n) (r := r) ⟨h0, h1, by simpa using h2⟩]
  | succ d ih =>
    intro k r i hi hd hk h0 h1 h2 h3
    obtain ⟨k, rfl⟩ : ∃ m, k = m + 1 := ⟨k - 1, by omega⟩
    simp only [fixed_Root.l0]
    have hp := pow_pos2 d
    have hq : (2 : Int) ^ (d + 1) = 2 ^ d * 2 := Int.pow_succ 2 d
    have e1 : wrap64 (31 - i) = d := by rw [w64 (by omega) (by omega)]; omega
    have e2 : shl .i64 1 (d : Int) = 2 ^ d := by rw [shl_one (by omega) (by omega)]; rfl
    rw [if_pos (by omega), e1, if_pos (by omega), e2]
    have e3 : wrap64 (r + 2 ^ d) = r + 2 ^ d := w64 (by omega) (by omega)
    have e4 : wrap64 (i + 1) = i + 1 := w64 (by omega) (by omega)
    have hs : (0 : Int) < r + 2 ^ d := by omega
    have e5 : wrap64 (Int.tdiv n (r + 2 ^ d)) = Int.tdiv n (r + 2 ^ d) := by
      rw [tdiv_pos_eq (by omega)]
      have := div_bd hs (a := n) (by omega) (by omega)
      exact w64 this.1 this.2
    rw [e3, if_neg (by omega), e5, e4]
    by_cases h : r + 2 ^ d ≤ Int.tdiv n (r + 2 ^ d)
    · rw [if_pos h]
      rw [le_div_iff hs (by omega)] at h
      exact ih k (r + 2 ^ d) (i + 1) (by omega) (by omega) (by omega) (by omega) h (by rw [show r + 2 ^ d + 2 ^ d = r + 2 ^ (d + 1) by omega]; exact h2) (by omega)
    · rw [if_neg h]
      rw [le_div_iff hs (by omega)] at h
      exact ih k r (i + 1) (by omega) (by omega) (by omega) h0 h1 (by omega) (by omega)
theorem fixed_Root_eq (k : Nat) (hk : 70 ≤ k) (n : Int) (hn1 : n ≤ 9223372036854775807) : fixed_Root.f k n = some (root n) := by
  unfold fixed_Root.f
  by_cases h : n ≤ 0
  · rw [if_pos h, root_neg h]
  · rw [if_neg h]
    exact fixed_Root_l0 n (by omega) hn1 32 k 0 0 (by omega) (by omega) (by omega) (by omega) (by omega) (by omega) (by omega)

theorem fixed_RootUp_eq (k : Nat) (hk : 70 ≤ k) (n : Int) (hn1 : n ≤ 9223372036854775807) : fixed_RootUp.f k n = some (rootUp n) := by
  unfold fixed_RootUp.f rootUp
  have h1 := root_sq_bd hn1
  have h2 := root_lt hn1
  have h3 := root_nonneg n
  rw [fixed_Root_eq k hk n hn1]
  simp only [Option.bind_some]
  rw [w64 (by omega) (by omega), w64 (n := root n + 1) (by omega) (by omega)]
  split <;> rfl

theorem armplanlaw1_awake_eq (k : Nat) (hk : 70 ≤ k) : armplanlaw1_awake.f k = some true := by
  unfold armplanlaw1_awake.f
  rw [fixed_MulDown_eq]
  simp only [Option.bind_some]
  have e1 : cl 98304 * cl 32768 / 65536 = 49152 := by
    rw [cl_id (by omega) (by omega), cl_id (by omega) (by omega)]; omega
  have e2 : root 15 = 3 := root_eq ⟨by omega, by omega, by omega⟩
  rw [if_pos e1, fixed_Root_eq k hk 15 (by omega), e2]
  rfl

end FixedSquares
open Go.RowKit Go.Proofs.Ytdeajnmheebghaa.PFixedSquares Go.Proofs.YtdeajnmheebghaaW.PrintWords Go.Proofs.YtdeajnmheebghaaW.PrintLast Go.Proofs.Ytdeajnmheebghaa.Ar FixedSquares
/-- The law, over numbers alone. -/
theorem FixedSquares : armplanlaw1_FixedSquares.Pure := by
  intro a0 a1 h0 h1
  obtain ⟨p0, p1⟩ := i64_bd h0
  obtain ⟨s0, _⟩ := u8_bd h1
  obtain ⟨x0, x1⟩ := shr_bd (Int.tmod a1 64) p0 p1
  refine ⟨100, ?_⟩
  unfold armplanlaw1_FixedSquares.f
  rw [if_pos (tmod64 s0).1]
  generalize shr .i64 a0 (Int.tmod a1 64) = x at *
  rw [fixed_Root_eq 100 (by omega) _ x1, fixed_RootUp_eq 100 (by omega) _ x1, armplanlaw1_awake_eq 100 (by omega)]
  simp only [Option.bind_some, if_true]
  by_cases h : x < 1
  · rw [if_pos h]
    unfold rootUp
    rw [root_neg (by omega), if_pos rfl, if_neg (by omega)]
    rfl
  · rw [if_neg h]
    have hr := root_is (n := x) (by omega)
    have hl := root_lt x1
    have hb := root_sq_bd x1
    unfold IsRoot at hr
    unfold rootUp
    generalize root x = r at *
    obtain ⟨r0, r1, r2⟩ := hr
    have rp : 1 ≤ r := by
      rcases Int.lt_or_le r 1 with k | k
      · obtain rfl : r = 0 := by omega
        omega
      · exact k
    have e1 : ¬ r > wrap64 (Int.tdiv x r) := by
      have hd := div_bd (a := x) (m := r) (by omega) (by omega) (by omega)
      have := (le_div_iff (s := r) (n := x) (by omega) (by omega)).2 r1
      rw [tdiv_pos_eq (by omega)] at *
      rw [w64 hd.1 hd.2]; omega
    have e2 : ¬ r + 1 ≤ wrap64 (Int.tdiv x (r + 1)) := by
      have hd := div_bd (a := x) (m := r + 1) (by omega) (by omega) (by omega)
      intro hc
      rw [tdiv_pos_eq (by omega), w64 hd.1 hd.2, ← tdiv_pos_eq (by omega)] at hc
      have := (le_div_iff (s := r + 1) (n := x) (by omega) (by omega)).1 hc
      omega
    rw [if_neg (by omega), if_neg (by omega), if_neg e1, w64 (n := r + 1) (by omega) (by omega), if_neg (by omega), decide_eq_false e2]
    show armplanlaw1_FixedSquares.j0 (99 + 1) x r _ false = some true
    simp only [armplanlaw1_FixedSquares.j0]
    rw [if_neg (by decide), w64 (n := r * r) (by omega) (by omega), w64 (n := r + 1) (by omega) (by omega), armplanlaw1_awake_eq 99 (by omega)]
    simp only [Option.bind_some, if_true]
    by_cases hc : r * r = x
    · rw [if_pos hc, if_neg (by omega)]; simp
    · rw [if_neg hc, if_pos (by omega)]; simp

end Go.Proofs.Ytdeajnmheebghaa.Pure
