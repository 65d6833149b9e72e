/- ShiftDown and ShiftUp divide by a power of two, rounded down and up, at every number and count. No conditions. -/
import Derived.Test.YtdeajnmheebghaaPFixedShiftsx1
import Derived.Test.YtdeajnmheebghaaAr
namespace Go.Proofs.Ytdeajnmheebghaa.Pure
namespace FixedShifts
open Go.RowKit Go.Proofs.Ytdeajnmheebghaa.PFixedShifts Go.Proofs.YtdeajnmheebghaaW.PrintWords Go.Proofs.YtdeajnmheebghaaW.PrintLast Go.Proofs.Ytdeajnmheebghaa.Ar
set_option linter.unusedVariables false

theorem fixed_Clamp_eq (a : Int) : fixed_Clamp.f a = some (cl a) := by unfold fixed_Clamp.f; rw [mnmx]

theorem fixed_product_eq (a b : Int) : fixed_product.f a b = some (cl a * cl b) := by
  unfold fixed_product.f
  have h := cl_mul a b
  simp only [fixed_Clamp_eq, Option.bind_some]
  rw [w64 (by omega) (by omega)]

theorem fixed_ShiftDown_eq (a s : Int) (h0 : -9223372036854775808 ≤ a) (h1 : a ≤ 9223372036854775807) : fixed_ShiftDown.f a s = some (a / 2 ^ s.toNat) := by
  unfold fixed_ShiftDown.f
  by_cases h : s < 0
  · rw [if_pos h, show s.toNat = 0 by omega]; simp
  · rw [if_neg h, if_pos (by omega), shr_eq, div_min _ h0 h1]

theorem fixed_ShiftUp_eq (a s : Int) (h0 : -9223372036854775808 ≤ a) (h1 : a ≤ 9223372036854775807) : fixed_ShiftUp.f a s = some (cdiv a (2 ^ s.toNat)) := by
  unfold fixed_ShiftUp.f
  rw [fixed_ShiftDown_eq a s h0 h1]
  simp only [Option.bind_some]
  by_cases h : s < 0
  · rw [if_neg (by omega), show s.toNat = 0 by omega]; simp [cdiv]
  · rw [if_pos (by omega), if_pos (by omega), shl_is, ← up_test s.toNat h0 h1, ← div_min s.toNat h0 h1]
    split <;> rfl

theorem fixed_MulDown_eq (a b : Int) : fixed_MulDown.f a b = some (cl a * cl b / 65536) := by
  unfold fixed_MulDown.f
  have h := cl_mul a b
  rw [fixed_product_eq]
  simp only [Option.bind_some]
  rw [fixed_ShiftDown_eq _ _ (by omega) (by omega)]
  rfl

theorem armplanref1_Floor_eq (a b : Int) (hb : 0 < b) (h0 : -9223372036854775808 ≤ a) (h1 : a ≤ 9223372036854775807) : armplanref1_Floor.f a b = some (a / b) := by
  unfold armplanref1_Floor.f
  have hd := div_bd hb h0 h1
  have hf := floor_pos (a := a) hb
  rw [if_neg (by omega)]
  have ht : -9223372036854775808 ≤ Int.tdiv a b ∧ Int.tdiv a b ≤ 9223372036854775807 := by
    have h : (Int.tdiv a b).natAbs ≤ a.natAbs := by
      rw [Int.natAbs_tdiv]; exact Nat.div_le_self _ _
    have h2 : 0 ≤ a → 0 ≤ Int.tdiv a b := fun h => by rw [Int.tdiv_eq_ediv_of_nonneg h]; exact Int.ediv_nonneg h (by omega)
    rcases Int.lt_or_le a 0 with k | k
    · have h3 : 0 ≤ Int.tdiv (-a) b := by rw [Int.tdiv_eq_ediv_of_nonneg (by omega)]; exact Int.ediv_nonneg (by omega) (by omega)
      rw [Int.neg_tdiv] at h3; omega
    · have := h2 k; omega
  rw [w64 ht.1 ht.2]
  split
  · rename_i h
    rw [if_pos h] at hf
    rw [w64 (by omega) (by omega), hf]
  · rename_i h
    rw [if_neg h] at hf
    rw [hf]

theorem armplanref1_Ceil_eq (a b : Int) (hb : 0 < b) (h0 : -9223372036854775808 ≤ a) (h1 : a ≤ 9223372036854775807) : armplanref1_Ceil.f a b = some (cdiv a b) := by
  unfold armplanref1_Ceil.f
  have hf := ceil_pos (a := a) hb
  rw [if_neg (by omega)]
  have ht : -9223372036854775808 ≤ Int.tdiv a b ∧ Int.tdiv a b ≤ 9223372036854775807 := by
    have h : (Int.tdiv a b).natAbs ≤ a.natAbs := by
      rw [Int.natAbs_tdiv]; exact Nat.div_le_self _ _
    have h2 : 0 ≤ a → 0 ≤ Int.tdiv a b := fun h => by rw [Int.tdiv_eq_ediv_of_nonneg h]; exact Int.ediv_nonneg h (by omega)
    rcases Int.lt_or_le a 0 with k | k
    · have h3 : 0 ≤ Int.tdiv (-a) b := by rw [Int.tdiv_eq_ediv_of_nonneg (by omega)]; exact Int.ediv_nonneg (by omega) (by omega)
      rw [Int.neg_tdiv] at h3; omega
    · have := h2 k; omega
  have hlast : 0 < Int.tmod a b → Int.tdiv a b < 9223372036854775807 := by
    intro hm
    have hme := Int.mul_tdiv_add_tmod a b
    rcases Int.lt_or_le (Int.tdiv a b) 9223372036854775807 with k | k
    · exact k
    · have : b * 1 ≤ b * Int.tdiv a b := Int.mul_le_mul_of_nonneg_left (by omega) (by omega)
      have : 1 * Int.tdiv a b ≤ b * Int.tdiv a b := Int.mul_le_mul_of_nonneg_right (by omega) (by omega)
      omega
  rw [w64 ht.1 ht.2]
  unfold cdiv
  rw [← hf]
  split
  · rename_i h
    have := hlast h
    rw [w64 (by omega) (by omega)]
  · rfl

theorem armplanref1_ShiftDown_l0 (c : Int) : ∀ (d k : Nat) (a i : Int), 0 ≤ i → i ≤ 64 → (min c 64 - i).toNat = d → d < k → -9223372036854775808 ≤ a → a ≤ 9223372036854775807 →
    armplanref1_ShiftDown.l0 k a c i = some (a / 2 ^ d) := by
  intro d
  induction d with
  | zero =>
    intro k a i h0 h1 hd hk b0 b1
    obtain ⟨k, rfl⟩ : ∃ m, k = m + 1 := ⟨k - 1, by omega⟩
    simp only [armplanref1_ShiftDown.l0]
    by_cases h : i < c
    · rw [if_pos h, if_neg (by omega)]; simp
    · rw [if_neg h]; simp
  | succ d ih =>
    intro k a i h0 h1 hd hk b0 b1
    obtain ⟨k, rfl⟩ : ∃ m, k = m + 1 := ⟨k - 1, by omega⟩
    simp only [armplanref1_ShiftDown.l0]
    have hb := div_bd (m := 2) (by omega) b0 b1
    rw [if_pos (by omega), if_pos (by omega), armplanref1_Floor_eq _ _ (by omega) b0 b1]
    simp only [Option.bind_some]
    rw [w64 (by omega) (by omega), ih k (a / 2) (i + 1) (by omega) (by omega) (by omega) (by omega) hb.1 hb.2]
    have e := div_div_pow a 1 d
    rw [show (2 : Int) ^ 1 = 2 from rfl] at e
    rw [e, Nat.add_comm]
theorem armplanref1_ShiftDown_eq (k : Nat) (hk : 70 ≤ k) (a c : Int) (b0 : -9223372036854775808 ≤ a) (b1 : a ≤ 9223372036854775807) : armplanref1_ShiftDown.f k a c = some (a / 2 ^ c.toNat) := by
  unfold armplanref1_ShiftDown.f
  rw [armplanref1_ShiftDown_l0 c _ k a 0 (by omega) (by omega) rfl (by omega) b0 b1, show (min c 64 - 0).toNat = min c.toNat 64 by omega, div_min _ b0 b1]

theorem cdiv_two_bd {a : Int} (b0 : -9223372036854775808 ≤ a) (b1 : a ≤ 9223372036854775807) : -9223372036854775808 ≤ cdiv a 2 ∧ cdiv a 2 ≤ 9223372036854775807 := by unfold cdiv; omega
theorem cdiv_cdiv (a : Int) (m n : Nat) : cdiv (cdiv a (2 ^ m)) (2 ^ n) = cdiv a (2 ^ (m + n)) := by
  unfold cdiv; rw [Int.neg_neg, div_div_pow]
theorem armplanref1_ShiftUp_l0 (c : Int) : ∀ (d k : Nat) (a i : Int), 0 ≤ i → i ≤ 64 → (min c 64 - i).toNat = d → d < k → -9223372036854775808 ≤ a → a ≤ 9223372036854775807 →
    armplanref1_ShiftUp.l0 k a c i = some (cdiv a (2 ^ d)) := by
  intro d
  induction d with
  | zero =>
    intro k a i h0 h1 hd hk b0 b1
    obtain ⟨k, rfl⟩ : ∃ m, k = m + 1 := ⟨k - 1, by omega⟩
    simp only [armplanref1_ShiftUp.l0]
    by_cases h : i < c
    · rw [if_pos h, if_neg (by omega)]; simp [cdiv]
    · rw [if_neg h]; simp [cdiv]
  | succ d ih =>
    intro k a i h0 h1 hd hk b0 b1
    obtain ⟨k, rfl⟩ : ∃ m, k = m + 1 := ⟨k - 1, by omega⟩
    simp only [armplanref1_ShiftUp.l0]
    have hb := cdiv_two_bd b0 b1
    rw [if_pos (by omega), if_pos (by omega), armplanref1_Ceil_eq _ _ (by omega) b0 b1]
    simp only [Option.bind_some]
    rw [w64 (by omega) (by omega), ih k (cdiv a 2) (i + 1) (by omega) (by omega) (by omega) (by omega) hb.1 hb.2]
    have e := cdiv_cdiv a 1 d
    rw [show (2 : Int) ^ 1 = 2 from rfl] at e
    rw [e, Nat.add_comm]
theorem cdiv_min {a : Int} (n : Nat) (h0 : -9223372036854775808 ≤ a) (h1 : a ≤ 9223372036854775807) : cdiv a (2 ^ min n 64) = cdiv a (2 ^ n) := by
  rcases Nat.lt_or_ge n 64 with h | h
  · rw [Nat.min_eq_left (by omega)]
  · rw [Nat.min_eq_right h, ← up_test n h0 h1, ← up_test 64 h0 h1, Nat.min_eq_right h]; rfl
theorem armplanref1_ShiftUp_eq (k : Nat) (hk : 70 ≤ k) (a c : Int) (b0 : -9223372036854775808 ≤ a) (b1 : a ≤ 9223372036854775807) : armplanref1_ShiftUp.f k a c = some (cdiv a (2 ^ c.toNat)) := by
  unfold armplanref1_ShiftUp.f
  rw [armplanref1_ShiftUp_l0 c _ k a 0 (by omega) (by omega) rfl (by omega) b0 b1, show (min c 64 - 0).toNat = min c.toNat 64 by omega, cdiv_min _ b0 b1]
theorem cdiv_bd {a m : Int} (hm : 0 < m) (b0 : -9223372036854775808 ≤ a) (b1 : a ≤ 9223372036854775807) : -9223372036854775808 ≤ cdiv a m ∧ cdiv a m ≤ 9223372036854775807 := by
  unfold cdiv
  constructor
  · have : (-a) / m < 9223372036854775809 := by
      rw [Int.ediv_lt_iff_lt_mul hm]
      have : 9223372036854775809 ≤ 9223372036854775809 * m := by omega
      omega
    omega
  · have : -9223372036854775807 ≤ (-a) / m := by
      rw [Int.le_ediv_iff_mul_le hm]
      have : 9223372036854775807 ≤ 9223372036854775807 * m := by omega
      omega
    omega

theorem shl_one {e : Int} (h0 : 0 ≤ e) (h1 : e ≤ 31) : shl .i64 1 e = 2 ^ e.toNat := by
  rw [shl_is, Nat.min_eq_left (by omega), Int.one_mul]
  have h : (2 : Nat) ^ e.toNat ≤ 2 ^ 31 := Nat.pow_le_pow_right (by omega) (by omega)
  have h2 : ((2 ^ e.toNat : Nat) : Int) ≤ ((2 ^ 31 : Nat) : Int) := by omega
  have h3 : (2 : Int) ^ e.toNat ≤ 2147483648 := by simpa using h2
  have := pow_pos2 e.toNat
  exact w64 (by omega) (by omega)
theorem fixed_Root_l0 (n : Int) (hn : 1 ≤ n) (hn1 : n ≤ 9223372036854775807) : ∀ (d k : Nat) (r i : Int), i + d = 32 → d ≤ 32 → d < k → 0 ≤ r → r * r ≤ n → n < (r + 2 ^ d) * (r + 2 ^ d) → r + 2 ^ d ≤ 4294967296 →
    fixed_Root.l0 k n r i = some (root n) := by
  intro d
  induction d with
  | zero =>
    intro k r i hi hd hk h0 h1 h2 h3
    obtain ⟨k, rfl⟩ : ∃ m, k = m + 1 := ⟨k - 1, by omega⟩
    simp only [fixed_Root.l0]
    rw [if_neg (by omega)]
    rw [root_eq (n := n) (r := r) ⟨h0, h1, by simpa using h2⟩]
  | succ d ih =>
    intro k r i hi hd hk h0 h1 h2 h3
    obtain ⟨k, rfl⟩ : ∃ m, k = m + 1 := ⟨k - 1, by omega⟩
    simp only [fixed_Root.l0]
    have hp := pow_pos2 d
    have hq : (2 : Int) ^ (d + 1) = 2 ^ d * 2 := Int.pow_succ 2 d
    have e1 : wrap64 (31 - i) = d := by rw [w64 (by omega) (by omega)]; omega
    have e2 : shl .i64 1 (d : Int) = 2 ^ d := by rw [shl_one (by omega) (by omega)]; rfl
    rw [if_pos (by omega), e1, if_pos (by omega), e2]
    have e3 : wrap64 (r + 2 ^ d) = r + 2 ^ d := w64 (by omega) (by omega)
    have e4 : wrap64 (i + 1) = i + 1 := w64 (by omega) (by omega)
    have hs : (0 : Int) < r + 2 ^ d := by omega
    have e5 : wrap64 (Int.tdiv n (r + 2 ^ d)) = Int.tdiv n (r + 2 ^ d) := by
      rw [tdiv_pos_eq (by omega)]
      have := div_bd hs (a := n) (by omega) (by omega)
      exact w64 this.1 this.2
    rw [e3, if_neg (by omega), e5, e4]
    by_cases h : r + 2 ^ d ≤ Int.tdiv n (r + 2 ^ d)
    · rw [if_pos h]
      rw [le_div_iff hs (by omega)] at h
      exact ih k (r + 2 ^ d) (i + 1) (by omega) (by omega) (by omega) (by omega) h (by rw [show r + 2 ^ d + 2 ^ d = r + 2 ^ (d + 1) by omega]; exact h2) (by omega)
    · rw [if_neg h]
      rw [le_div_iff hs (by omega)] at h
      exact ih k r (i + 1) (by omega) (by omega) (by omega) h0 h1 (by omega) (by omega)
theorem fixed_Root_eq (k : Nat) (hk : 70 ≤ k) (n : Int) (hn1 : n ≤ 9223372036854775807) : fixed_Root.f k n = some (root n) := by
  unfold fixed_Root.f
  by_cases h : n ≤ 0
  · rw [if_pos h, root_neg h]
  · rw [if_neg h]
    exact fixed_Root_l0 n (by omega) hn1 32 k 0 0 (by omega) (by omega) (by omega) (by omega) (by omega) (by omega) (by omega)

theorem armplanlaw1_awake_eq (k : Nat) (hk : 70 ≤ k) : armplanlaw1_awake.f k = some true := by
  unfold armplanlaw1_awake.f
  rw [fixed_MulDown_eq]
  simp only [Option.bind_some]
  have e1 : cl 98304 * cl 32768 / 65536 = 49152 := by
    rw [cl_id (by omega) (by omega), cl_id (by omega) (by omega)]; omega
  have e2 : root 15 = 3 := root_eq ⟨by omega, by omega, by omega⟩
  rw [if_pos e1, fixed_Root_eq k hk 15 (by omega), e2]
  rfl

end FixedShifts
open Go.RowKit Go.Proofs.Ytdeajnmheebghaa.PFixedShifts Go.Proofs.YtdeajnmheebghaaW.PrintWords Go.Proofs.YtdeajnmheebghaaW.PrintLast Go.Proofs.Ytdeajnmheebghaa.Ar FixedShifts
/-- The law, over numbers alone. -/
theorem FixedShifts : armplanlaw1_FixedShifts.Pure := by
  intro a0 a1 a2 a3 h0 h1 h2 h3
  obtain ⟨p0, p1⟩ := i64_bd h0
  obtain ⟨s0, _⟩ := u8_bd h2
  obtain ⟨t0, _⟩ := u8_bd h3
  obtain ⟨u0, u1⟩ := tmod64 s0
  obtain ⟨v0, v1⟩ := tmod64 t0
  refine ⟨100, ?_⟩
  have hk : 70 ≤ 100 := by omega
  unfold armplanlaw1_FixedShifts.f
  generalize Int.tmod a2 64 = i at *
  generalize Int.tmod a3 64 = j at *
  rw [w64 (n := i) (by omega) (by omega), w64 (n := j) (by omega) (by omega), w64 (n := i + j) (by omega) (by omega)]
  have hd := div_bd (pow_pos2 i.toNat) p0 p1
  have hu := cdiv_bd (pow_pos2 i.toNat) p0 p1
  rw [armplanlaw1_awake_eq 100 hk, fixed_ShiftDown_eq a0 a1 p0 p1, fixed_ShiftUp_eq a0 a1 p0 p1, armplanref1_ShiftDown_eq 100 hk a0 a1 p0 p1, armplanref1_ShiftUp_eq 100 hk a0 a1 p0 p1,
    fixed_ShiftDown_eq a0 i p0 p1, fixed_ShiftDown_eq a0 (i + j) p0 p1, fixed_ShiftUp_eq a0 i p0 p1, armplanref1_ShiftUp_eq 100 hk a0 (i + j) p0 p1]
  simp only [Option.bind_some, if_true]
  rw [fixed_ShiftDown_eq _ j hd.1 hd.2, fixed_ShiftUp_eq _ j hu.1 hu.2]
  simp only [Option.bind_some]
  rw [div_div_pow, cdiv_cdiv, show (i + j).toNat = i.toNat + j.toNat by omega, if_pos rfl]
  simp

end Go.Proofs.Ytdeajnmheebghaa.Pure
