/- What the law law_law15_PlaneSound computes, without levels: it is true. -/
import Derived.Test.YtanjfmogmlgphaaF0
import Derived.Test.YtanjfmogmlgphaaAmRow2
import Derived.IntWalk
set_option linter.unusedVariables false
set_option linter.unusedSimpArgs false
set_option maxRecDepth 100000
namespace Go.Proofs.Ytanjfmogmlgphaa.Am
open Go Go.IntWalk

theorem w64 {n : Int} (h : -9223372036854775808 ≤ n ∧ n ≤ 9223372036854775807) : IntKind.wrap .i64 n = n := i64_in n h
theorem den_const {α β : Type} {e : β → α} (inj : ∀ a b, e a = e b → a = b) {x : Nat → Option α} (k : Nat) {r : β} (h : ∀ n, x (n + k) = some (e r)) : den e x = some r :=
  den_of inj k (y := some r) (fun r' hr => by cases hr; exact ⟨0, fun n _ => h n⟩) rfl
theorem mul_bd {x y : Int} {m n : Nat} (hx0 : -(m : Int) ≤ x) (hx1 : x ≤ m) (hy0 : -(n : Int) ≤ y) (hy1 : y ≤ n) : -((m * n : Nat) : Int) ≤ x * y ∧ x * y ≤ ((m * n : Nat) : Int) := by
  have h : (x * y).natAbs ≤ m * n := by
    rw [Int.natAbs_mul]; exact Nat.mul_le_mul (by omega) (by omega)
  omega
theorem tdiv_pos_eq {a b : Int} (ha : 0 ≤ a) : Int.tdiv a b = a / b := Int.tdiv_eq_ediv_of_nonneg ha
/-- s <= n / s says that the square is at most n -/
theorem le_div_iff {s n : Int} (hs : 0 < s) (hn : 0 ≤ n) : s ≤ Int.tdiv n s ↔ s * s ≤ n := by
  rw [tdiv_pos_eq hn, Int.le_ediv_iff_mul_le hs]
/-- the root, counted up -/
def isq : Nat → Nat
  | 0 => 0
  | n + 1 => if (isq n + 1) * (isq n + 1) ≤ n + 1 then isq n + 1 else isq n
/-- the root of n, rounded down; 0 for what is not positive -/
def root (n : Int) : Int := (isq n.toNat : Nat)
/-- r is the root of n, rounded down -/
def IsRoot (n r : Int) : Prop := 0 ≤ r ∧ r * r ≤ n ∧ n < (r + 1) * (r + 1)
theorem sq_le {a b : Int} (ha : 0 ≤ a) (h : a ≤ b) : a * a ≤ b * b := Int.mul_le_mul h h ha (by omega)
theorem sq_lt {a b : Int} (_ha : 0 ≤ a) (h : a * a < b * b) (hb : 0 ≤ b) : a < b := by
  rcases Int.lt_or_le a b with k | k
  · exact k
  · have := sq_le hb k; omega
theorem IsRoot.uniq {n r s : Int} (hr : IsRoot n r) (hs : IsRoot n s) : r = s := by
  obtain ⟨r0, r1, r2⟩ := hr
  obtain ⟨s0, s1, s2⟩ := hs
  have h1 : r < s + 1 := sq_lt r0 (by omega) (by omega)
  have h2 : s < r + 1 := sq_lt s0 (by omega) (by omega)
  omega
theorem isq_spec (n : Nat) : isq n * isq n ≤ n ∧ n < (isq n + 1) * (isq n + 1) := by
  induction n with
  | zero => simp [isq]
  | succ n ih =>
    unfold isq
    split
    · rename_i h
      refine ⟨h, ?_⟩
      have e : (isq n + 1 + 1) * (isq n + 1 + 1) = (isq n + 1) * (isq n + 1) + 2 * isq n + 3 := by
        rw [Nat.add_mul, Nat.mul_add]; omega
      omega
    · omega
theorem root_is {n : Int} (h : 0 ≤ n) : IsRoot n (root n) := by
  have hs := isq_spec n.toNat
  unfold root IsRoot
  generalize hq : isq n.toNat = q at hs
  refine ⟨by omega, ?_, ?_⟩
  · have : ((q * q : Nat) : Int) ≤ n := by omega
    rwa [Int.natCast_mul] at this
  · have : n < (((q + 1) * (q + 1) : Nat) : Int) := by omega
    rwa [Int.natCast_mul, Int.natCast_add] at this
theorem root_eq {n r : Int} (h : IsRoot n r) : root n = r := by
  have hn : 0 ≤ n := by
    have := sq_le (Int.le_refl 0) h.1; have := h.2.1; omega
  exact (root_is hn).uniq h
theorem root_neg {n : Int} (h : n ≤ 0) : root n = 0 := by
  unfold root; rw [show n.toNat = 0 by omega]; rfl
theorem root_nonneg (n : Int) : 0 ≤ root n := by unfold root; omega
theorem root_lt {n : Int} (h : n ≤ 9223372036854775807) : root n < 3037000500 := by
  rcases Int.lt_or_le n 0 with k | k
  · rw [root_neg (by omega)]; omega
  · obtain ⟨h0, h1, _⟩ := root_is k
    exact sq_lt h0 (by omega) (by omega)
/-- the root, rounded up -/
def rootUp (n : Int) : Int := if root n * root n < n then root n + 1 else root n
theorem root_sq_bd {n : Int} (h : n ≤ 9223372036854775807) : 0 ≤ root n * root n ∧ root n * root n ≤ 9223372036854775807 := by
  rcases Int.lt_or_le n 0 with k | k
  · rw [root_neg (by omega)]; omega
  · obtain ⟨h0, h1, _⟩ := root_is k
    have := Int.mul_nonneg h0 h0; omega
theorem pow_pos2 (n : Nat) : (0 : Int) < 2 ^ n := Int.pow_pos (by omega)
theorem div_bd {a : Int} {m : Int} (hm : 0 < m) (h0 : -9223372036854775808 ≤ a) (h1 : a ≤ 9223372036854775807) : -9223372036854775808 ≤ a / m ∧ a / m ≤ 9223372036854775807 := by
  constructor
  · rw [Int.le_ediv_iff_mul_le hm]
    have : 9223372036854775808 ≤ 9223372036854775808 * m := by omega
    omega
  · have : a / m < 9223372036854775808 := by
      rw [Int.ediv_lt_iff_lt_mul hm]
      have : 9223372036854775808 ≤ 9223372036854775808 * m := by omega
      omega
    omega
def cw : Nat → I6 → Int
  | 0, x => x.c0
  | 1, x => x.c2
  | _, x => x.c4
def ch : Nat → I6 → Int
  | 0, x => x.c1
  | 1, x => x.c3
  | _, x => x.c5
def mn (x y : Int) : Int := if y < x then y else x
def mx (x y : Int) : Int := if y > x then y else x
def hull6 (c x : I6) : I6 := ⟨mn c.c0 x.c0, mx c.c1 x.c1, mn c.c2 x.c2, mx c.c3 x.c3, mn c.c4 x.c4, mx c.c5 x.c5⟩
theorem cw_hull (k : Nat) (c x : I6) : cw k (hull6 c x) = mn (cw k c) (cw k x) := by
  match k with
  | 0 => rfl
  | 1 => rfl
  | _ + 2 => rfl
theorem ch_hull (k : Nat) (c x : I6) : ch k (hull6 c x) = mx (ch k c) (ch k x) := by
  match k with
  | 0 => rfl
  | 1 => rfl
  | _ + 2 => rfl
def Reach (a b : Int) : Prop := -268435456 ≤ a ∧ a ≤ b ∧ b ≤ 268435456
instance Reach.dec (a b : Int) : Decidable (Reach a b) := by unfold Reach; exact inferInstance
def Reach6 (x : I6) : Prop := Reach x.c0 x.c1 ∧ Reach x.c2 x.c3 ∧ Reach x.c4 x.c5
instance Reach6.dec (x : I6) : Decidable (Reach6 x) := by unfold Reach6; exact inferInstance
def HB (l : List I6) (c p : I6) : Prop := Reach6 p ∧ ∀ k : Nat,
  ((cw k p = cw k c ∨ ∃ x ∈ l, cw k p = cw k x) ∧ cw k p ≤ cw k c ∧ ∀ x ∈ l, cw k p ≤ cw k x) ∧
  ((ch k p = ch k c ∨ ∃ x ∈ l, ch k p = ch k x) ∧ ch k c ≤ ch k p ∧ ∀ x ∈ l, ch k x ≤ ch k p)
def AllR (l : List I6) : Prop := ∀ x ∈ l, Reach6 x
instance AllR.dec (l : List I6) : Decidable (AllR l) := by unfold AllR; exact inferInstance
def AllW (w : List Int) : Prop := ∀ x ∈ w, 0 ≤ x ∧ x ≤ 65536
instance AllW.dec (w : List Int) : Decidable (AllW w) := by unfold AllW; exact inferInstance
theorem AllW.cons {x : Int} {l : List Int} : AllW (x :: l) ↔ (0 ≤ x ∧ x ≤ 65536) ∧ AllW l := by simp [AllW]
theorem AllR.cons {x : I6} {l : List I6} : AllR (x :: l) ↔ Reach6 x ∧ AllR l := by simp [AllR]
theorem HB.cons {l : List I6} {c p x : I6} (h : HB l (hull6 c x) p) : HB (x :: l) c p := by
  refine ⟨h.1, fun k => ?_⟩
  obtain ⟨⟨a1, a2, a3⟩, b1, b2, b3⟩ := h.2 k
  rw [cw_hull] at a1 a2
  rw [ch_hull] at b1 b2
  unfold mn at a1 a2
  unfold mx at b1 b2
  refine ⟨⟨?_, ?_, ?_⟩, ?_, ?_, ?_⟩
  · rcases a1 with a1 | ⟨y, hy, e⟩
    · split at a1
      · first | exact .inl a1 | exact .inr ⟨x, List.mem_cons_self .., a1⟩
      · first | exact .inl a1 | exact .inr ⟨x, List.mem_cons_self .., a1⟩
    · exact .inr ⟨y, List.mem_cons_of_mem _ hy, e⟩
  · split at a2 <;> omega
  · intro y hy
    rcases List.mem_cons.1 hy with rfl | hy
    · split at a2 <;> omega
    · exact a3 y hy
  · rcases b1 with b1 | ⟨y, hy, e⟩
    · split at b1
      · first | exact .inl b1 | exact .inr ⟨x, List.mem_cons_self .., b1⟩
      · first | exact .inl b1 | exact .inr ⟨x, List.mem_cons_self .., b1⟩
    · exact .inr ⟨y, List.mem_cons_of_mem _ hy, e⟩
  · split at b2 <;> omega
  · intro y hy
    rcases List.mem_cons.1 hy with rfl | hy
    · split at b2 <;> omega
    · exact b3 y hy
theorem pb {x y : Int} (hx : -2147483648 ≤ x ∧ x ≤ 2147483648) (hy : -2147483648 ≤ y ∧ y ≤ 2147483648) : -4611686018427387904 ≤ x * y ∧ x * y ≤ 4611686018427387904 :=
  mul_bd (m := 2147483648) (n := 2147483648) hx.1 hx.2 hy.1 hy.2
theorem mn_self (x : Int) : mn x x = x := by unfold mn; split <;> rfl
theorem mx_self (x : Int) : mx x x = x := by unfold mx; split <;> rfl
theorem mn_bd {l h x y : Int} (hx : l ≤ x ∧ x ≤ h) (hy : l ≤ y ∧ y ≤ h) : l ≤ mn x y ∧ mn x y ≤ h := by unfold mn; split <;> assumption
theorem mx_bd {l h x y : Int} (hx : l ≤ x ∧ x ≤ h) (hy : l ≤ y ∧ y ≤ h) : l ≤ mx x y ∧ mx x y ≤ h := by unfold mx; split <;> assumption
theorem wtdiv {n s : Int} (hn : 0 ≤ n) (hn1 : n ≤ 9223372036854775807) (hs : 0 < s) : IntKind.wrap .i64 (Int.tdiv n s) = Int.tdiv n s := by
  rw [tdiv_pos_eq hn]
  have := div_bd hs (a := n) (by omega) (by omega)
  exact w64 this
theorem s_fixed_Root_0 (n : Int) (hn : 1 ≤ n) (hn1 : n ≤ 9223372036854775807) : ∀ (d : Nat) (r i : Int), i + d = 32 → d ≤ 32 → 0 ≤ r → r * r ≤ n → n < (r + 2 ^ d) * (r + 2 ^ d) → r + 2 ^ d ≤ 4294967296 →
    L_fixed_Root_0 n r i = some (root n) := by
  intro d
  induction d with
  | zero =>
    intro r i hi hd h0 h1 h2 h3
    refine L_fixed_Root_0_of n r i _ ?_
    simp only [Bool.cond_decide]
    rw [if_neg (by omega), root_eq (n := n) (r := r) ⟨h0, h1, by simpa using h2⟩]
  | succ d ih =>
    intro r i hi hd h0 h1 h2 h3
    refine L_fixed_Root_0_of n r i _ ?_
    have hp := pow_pos2 d
    have hq : (2 : Int) ^ (d + 1) = 2 ^ d * 2 := Int.pow_succ 2 d
    have e1 : IntKind.wrap .i64 (31 - i) = d := by rw [w64 (by omega)]; omega
    have e2 : (2 : Int) ^ min (Int.toNat (d : Int)) 64 = 2 ^ d := by rw [Nat.min_eq_left (by omega)]; rfl
    have e4 : IntKind.wrap .i64 (i + 1) = i + 1 := w64 (by omega)
    have hs : (0 : Int) < r + 2 ^ d := by omega
    have hne : ((r + 2 ^ d) == 0) = false := by simp; omega
    simp only [letIn, Bool.cond_decide, e1, e2, e4, Int.one_mul]
    rw [w64 (n := 2 ^ d) (by omega), w64 (n := r + 2 ^ d) (by omega)]
    rw [if_pos (by omega), if_neg (by omega), hne, cond_false, wtdiv (by omega) (by omega) hs]
    by_cases h : r + 2 ^ d ≤ Int.tdiv n (r + 2 ^ d)
    · rw [if_pos h]
      rw [le_div_iff hs (by omega)] at h
      exact ih (r + 2 ^ d) (i + 1) (by omega) (by omega) (by omega) h (by rw [show r + 2 ^ d + 2 ^ d = r + 2 ^ (d + 1) by omega]; exact h2) (by omega)
    · rw [if_neg h]
      rw [le_div_iff hs (by omega)] at h
      exact ih r (i + 1) (by omega) (by omega) h0 h1 (by omega) (by omega)
theorem s_fixed_Root (n : Int) (hn1 : n ≤ 9223372036854775807) : F_fixed_Root n = some (root n) := F_fixed_Root_of n _ (by
  simp only [Bool.cond_decide]
  by_cases h : n ≤ 0
  · rw [if_pos h, root_neg h]
  · rw [if_neg h, s_fixed_Root_0 n (by omega) hn1 32 0 0 (by omega) (by omega) (by omega) (by omega) (by omega) (by omega)]; rfl)
theorem s_fixed_RootUp (n : Int) (hn1 : n ≤ 9223372036854775807) : F_fixed_RootUp n = some (rootUp n) := F_fixed_RootUp_of n _ (by
  have h1 := root_sq_bd hn1
  have h2 := root_lt hn1
  have h3 := root_nonneg n
  simp only [s_fixed_Root n hn1, Option.bind_some, letIn, Bool.cond_decide]
  rw [w64 (by omega), w64 (n := root n + 1) (by omega)]
  unfold rootUp
  split <;> rfl)
theorem s_ref1_Root_0 (n : Int) (hn : 1 ≤ n) (hn1 : n ≤ 9223372036854775807) : ∀ (d : Nat) (a b : Int), b - a ≤ 2 ^ d → 1 ≤ a → a < b → b ≤ 4294967296 → a * a ≤ n → n < b * b →
    L_ref1_Root_0 n a b = some (root n) := by
  intro d
  induction d with
  | zero =>
    intro a b hd h0 hab hb h1 h2
    refine L_ref1_Root_0_of n a b _ ?_
    simp only [letIn, Bool.cond_decide]
    rw [w64 (n := b - a) (by omega), if_neg (by omega)]
    obtain rfl : b = a + 1 := by omega
    rw [root_eq (n := n) (r := a) ⟨by omega, h1, h2⟩]
  | succ d ih =>
    intro a b hd h0 hab hb h1 h2
    refine L_ref1_Root_0_of n a b _ ?_
    have hq : (2 : Int) ^ (d + 1) = 2 ^ d * 2 := Int.pow_succ 2 d
    have hp := pow_pos2 d
    simp only [letIn, Bool.cond_decide]
    rw [w64 (n := b - a) (by omega)]
    by_cases h : b - a > 1
    · rw [if_pos h, tdiv_pos_eq (a := b - a) (by omega)]
      rw [w64 (n := (b - a) / 2) (by omega), w64 (n := a + (b - a) / 2) (by omega)]
      have hs : 0 < a + (b - a) / 2 := by omega
      have hne : ((a + (b - a) / 2) == 0) = false := by simp; omega
      rw [hne, cond_false, wtdiv (by omega) (by omega) hs]
      by_cases hc : a + (b - a) / 2 ≤ Int.tdiv n (a + (b - a) / 2)
      · rw [if_pos hc]
        rw [le_div_iff hs (by omega)] at hc
        exact ih _ b (by omega) (by omega) (by omega) hb hc h2
      · rw [if_neg hc]
        rw [le_div_iff hs (by omega)] at hc
        exact ih a _ (by omega) h0 (by omega) (by omega) h1 (by omega)
    · rw [if_neg h]
      obtain rfl : b = a + 1 := by omega
      rw [root_eq (n := n) (r := a) ⟨by omega, h1, h2⟩]
theorem s_ref1_Root (n : Int) (hn1 : n ≤ 9223372036854775807) : F_ref1_Root n = some (root n) := F_ref1_Root_of n _ (by
  simp only [Bool.cond_decide]
  by_cases h : n < 1
  · rw [if_pos h, root_neg (by omega)]
  · rw [if_neg h, s_ref1_Root_0 n (by omega) hn1 32 1 4294967296 (by omega) (by omega) (by omega) (by omega) (by omega) (by omega)]; rfl)
theorem s_ref1_RootUp (n : Int) (hn1 : n ≤ 9223372036854775807) : F_ref1_RootUp n = some (rootUp n) := F_ref1_RootUp_of n _ (by
  have h1 := root_sq_bd hn1
  have h2 := root_lt hn1
  have h3 := root_nonneg n
  simp only [s_ref1_Root n hn1, Option.bind_some, letIn, Bool.cond_decide]
  rw [w64 (by omega), w64 (n := root n + 1) (by omega)]
  unfold rootUp
  by_cases hn : n > 0
  · rw [if_pos hn]; split <;> rfl
  · rw [if_neg hn, if_neg (by omega)])
/-- a valid interval -/
def V2 (a : I2) : Prop := -2147483648 ≤ a.c0 ∧ a.c0 ≤ a.c1 ∧ a.c1 ≤ 2147483648
instance V2.dec (a : I2) : Decidable (V2 a) := by unfold V2; exact inferInstance
def WithinI (a b : I2) : Prop := V2 a ∧ V2 b ∧ b.c0 ≤ a.c0 ∧ a.c1 ≤ b.c1
instance WithinI.dec (a b : I2) : Decidable (WithinI a b) := by unfold WithinI; exact inferInstance
theorem WithinI.mk {a0 a1 b0 b1 : Int} (h0 : -2147483648 ≤ b0) (h1 : b0 ≤ a0) (h2 : a0 ≤ a1) (h3 : a1 ≤ b1) (h4 : b1 ≤ 2147483648) : WithinI ⟨a0, a1⟩ ⟨b0, b1⟩ := by
  unfold WithinI V2; dsimp only; omega
theorem mn_le_l (x y : Int) : mn x y ≤ x := by unfold mn; split <;> omega
theorem mn_le_r (x y : Int) : mn x y ≤ y := by unfold mn; split <;> omega
theorem le_mx_l (x y : Int) : x ≤ mx x y := by unfold mx; split <;> omega
theorem le_mx_r (x y : Int) : y ≤ mx x y := by unfold mx; split <;> omega
/-- a product is between those at the ends -/
theorem lin {c0 c1 x y : Int} (h0 : c0 ≤ x) (h1 : x ≤ c1) : mn (c0 * y) (c1 * y) ≤ x * y ∧ x * y ≤ mx (c0 * y) (c1 * y) := by
  rcases Int.le_total 0 y with hy | hy
  · have p := Int.mul_le_mul_of_nonneg_right h0 hy
    have q := Int.mul_le_mul_of_nonneg_right h1 hy
    exact ⟨Int.le_trans (mn_le_l _ _) p, Int.le_trans q (le_mx_r _ _)⟩
  · have p := Int.mul_le_mul_of_nonpos_right h0 hy
    have q := Int.mul_le_mul_of_nonpos_right h1 hy
    exact ⟨Int.le_trans (mn_le_r _ _) q, Int.le_trans p (le_mx_l _ _)⟩
theorem rb {n k : Nat} (h : n * k ≤ reachBytes) (hk : 1 ≤ k) : n ≤ 1152921504606846976 := by
  have e : reachBytes = 140737488351232 := by decide
  have : n * 1 ≤ n * k := Nat.mul_le_mul_left n hk
  omega
/-- all components within a bound -/
def In6 (b : Int) (c : I6) : Prop := (-b ≤ c.c0 ∧ c.c0 ≤ b) ∧ (-b ≤ c.c1 ∧ c.c1 ≤ b) ∧ (-b ≤ c.c2 ∧ c.c2 ≤ b) ∧ (-b ≤ c.c3 ∧ c.c3 ≤ b) ∧ (-b ≤ c.c4 ∧ c.c4 ≤ b) ∧ (-b ≤ c.c5 ∧ c.c5 ≤ b)
theorem In6.mono {a b : Int} (h : a ≤ b) {c : I6} (hc : In6 a c) : In6 b c := by unfold In6 at *; omega
def ChC (a b x y : Int) : Prop := a = b ∧ x ≤ a ∧ a ≤ y
def ChPt (y x : I6) : Prop := ChC y.c0 y.c1 x.c0 x.c1 ∧ ChC y.c2 y.c3 x.c2 x.c3 ∧ ChC y.c4 y.c5 x.c4 x.c5
def Chs : List I6 → List I6 → Prop
  | [], [] => True
  | y :: r, x :: l => ChPt y x ∧ Chs r l
  | _, _ => False
theorem Chs.length : ∀ {r l : List I6}, Chs r l → r.length = l.length
  | [], [], _ => rfl
  | y :: r, x :: l, h => by simp [Chs.length h.2]
  | [], _ :: _, h => h.elim
  | _ :: _, [], h => h.elim
theorem Chs.snoc : ∀ {r l : List I6} {y x : I6}, Chs r l → ChPt y x → Chs (r ++ [y]) (l ++ [x])
  | [], [], y, x, _, h => ⟨h, trivial⟩
  | a :: r, b :: l, y, x, h, k => ⟨h.1, Chs.snoc h.2 k⟩
  | [], _ :: _, _, _, h, _ => h.elim
  | _ :: _, [], _, _, h, _ => h.elim
/-- a made point: boxes of bounded width near the origin -/
def Pc (w a b : Int) : Prop := -327689 ≤ a ∧ a ≤ 327689 ∧ a ≤ b ∧ b ≤ a + w
def Pt (w : Int) (x : I6) : Prop := Pc w x.c0 x.c1 ∧ Pc w x.c2 x.c3 ∧ Pc w x.c4 x.c5
theorem Pt.reach {w : Int} (hw : w ≤ 1048576) {x : I6} (h : Pt w x) : Reach6 x := by unfold Pt Pc at h; unfold Reach6 Reach; omega
theorem Chs.reach : ∀ {r l : List I6}, Chs r l → AllR l → AllR r
  | [], [], _, _ => by simp [AllR]
  | y :: r, x :: l, h, hl => by
    rw [AllR.cons] at hl ⊢
    refine ⟨?_, Chs.reach h.2 hl.2⟩
    have h1 := h.1; have h2 := hl.1
    unfold ChPt ChC at h1; unfold Reach6 Reach at h2 ⊢; omega
  | [], _ :: _, h, _ => h.elim
  | _ :: _, [], h, _ => h.elim
theorem s_make_Round {n k : Int} (hk : 0 < k) (hk2 : k ≤ 4611686018427387904) : Ans (F_make_Round n k) (fun r => 0 ≤ r ∧ r < k) := Ans.of (F_make_Round_of n k) (by
  have hne : (k == 0) = false := by simp; omega
  simp only [hne, cond_false, letIn, Bool.cond_decide]
  have h1 := Int.tmod_lt_of_pos n hk
  have h2 : -k < Int.tmod n k := by
    have := Int.neg_tmod n k
    have h3 := Int.tmod_lt_of_pos (-n) hk
    omega
  by_cases h : Int.tmod n k < 0
  · rw [if_pos h, w64 (by omega)]; exact Ans.ret (by omega)
  · rw [if_neg h]; exact Ans.ret (by omega))
theorem s_part_ch {a b m n : Int} (h : Reach a b) : Ans (F_make_Part (I2.mk a b) m 0) (fun r => ChC r.c0 r.c1 a b) := Ans.of (F_make_Part_of _ m 0) (by
  unfold Reach at h
  simp only [letIn]
  rw [w64 (n := b - a) (by omega), w64 (n := b - a + 1) (by omega)]
  refine Ans.bind (s_make_Round (by omega) (by omega)) fun y hy => ?_
  rw [w64 (n := a + y) (by omega)]
  have e : (IntKind.wrap .i64 ((BitVec.ofInt 64 0 &&& BitVec.ofInt 64 1).toNat : Nat) == 0 : Bool) = true := by decide
  rw [e, cond_true]
  exact Ans.ret ⟨rfl, by dsimp only; omega, by dsimp only; omega⟩)
def SrcOk (c : LI_I) : Prop := 0 ≤ c.c1 ∧ c.c1 ≤ c.c0.length ∧ c.c0.length ≤ 1152921504606846976
theorem s_make_Next {k : Int} (hk : 0 < k) (hk2 : k ≤ 4611686018427387904) {c : LI_I} (hc : SrcOk c) : Ans (F_make_Source_Next k c) (fun y => (0 ≤ y.1 ∧ y.1 < k) ∧ SrcOk y.2) := Ans.of (F_make_Source_Next_of k c) (by
  obtain ⟨h0, h1, h2⟩ := hc
  simp only [letIn, Bool.cond_decide]
  by_cases h : c.c1 ≥ ((c.c0.length : Nat) : Int)
  · rw [if_pos h]; exact Ans.ret ⟨by dsimp only; omega, h0, h1, h2⟩
  · rw [if_neg h, w64 (n := c.c1 + 1) (by omega), w64 (n := c.c1 + 1 - 1) (by omega), if_pos (by omega)]
    rw [nth_of_lt (l := c.c0) (i := (c.c1 + 1 - 1).toNat) (by omega)]
    simp only [Option.bind_some]
    refine Ans.bind (s_make_Round hk hk2) fun y hy => Ans.ret ⟨hy, ?_⟩
    unfold SrcOk; dsimp only; omega)
theorem nth_at {α : Type} {l : List α} {i : Nat} (h : i < l.length) : nth l (Int.toNat ((i : Nat) : Int)) = some l[i] := by
  rw [Int.toNat_natCast]; exact nth_of_lt h
theorem wi {i : Nat} (h : i ≤ 1152921504606846976) : IntKind.wrap .i64 (((i : Nat) : Int) + 1) = ((i + 1 : Nat) : Int) := by
  rw [w64 (by omega)]; omega
theorem s_make_Chosen_0 (l : List I6) (hl : AllR l) (h8 : l.length ≤ 8) : ∀ (d i : Nat), i + d = l.length → ∀ (c : LI_I) (es : List I6), SrcOk c → Chs es (l.take i) →
    Ans (L_make_Chosen_0 l ((i : Nat) : Int) c es) (fun r => Chs r l) := by
  intro d
  induction d with
  | zero =>
    intro i hi c es hc he
    refine Ans.of (L_make_Chosen_0_of _ _ _ _) ?_
    simp only [Bool.cond_decide]
    rw [if_neg (by omega)]
    rw [List.take_of_length_le (by omega)] at he
    exact Ans.ret he
  | succ d ih =>
    intro i hi c es hc he
    refine Ans.of (L_make_Chosen_0_of _ _ _ _) ?_
    have hlt : i < l.length := by omega
    have hr := hl _ (List.getElem_mem hlt)
    simp only [Bool.cond_decide, letIn]
    rw [if_pos (by omega)]
    refine Ans.bind (Q := fun p => p.1 = l ∧ p.2.1 = ((i : Nat) : Int) ∧ SrcOk p.2.2.1 ∧ p.2.2.2.1 = es ∧ ChPt p.2.2.2.2 l[i]) ?_ ?_
    · simp only [nth_at hlt, Option.bind_some, if_pos (show (0 : Int) ≤ (i : Int) by omega)]
      refine Ans.bind (s_make_Next (by omega) (by omega) hc) fun y1 h1 => ?_
      refine Ans.bind (s_part_ch (n := 0) hr.1) fun z1 k1 => ?_
      refine Ans.bind (s_make_Next (by omega) (by omega) h1.2) fun y2 h2 => ?_
      refine Ans.bind (s_part_ch (n := 0) hr.2.1) fun z2 k2 => ?_
      refine Ans.bind (s_make_Next (by omega) (by omega) h2.2) fun y3 h3 => ?_
      refine Ans.bind (s_part_ch (n := 0) hr.2.2) fun z3 k3 => ?_
      exact Ans.ret ⟨rfl, rfl, h3.2, rfl, k1, k2, k3⟩
    · rintro ⟨p1, p2, p3, p4, p5⟩ ⟨e1, e2, hs, e4, hp⟩
      dsimp only at e1 e2 hs e4 hp ⊢
      subst e1 e2 e4
      have hel := he.length
      rw [List.length_take] at hel
      rw [if_pos (by omega), wi (by omega)]
      refine ih (i + 1) (by omega) _ _ hs ?_
      rw [List.take_succ_eq_append_getElem hlt]
      exact he.snoc hp
theorem s_make_From (l : List Int) (hl : l.length ≤ 1152921504606846976) : Ans (F_make_From l) SrcOk := Ans.of (F_make_From_of l) (Ans.ret (by unfold SrcOk; dsimp only; omega))
theorem s_make_Chosen (l : List I6) (hl : AllR l) (h8 : l.length ≤ 8) (m : List Int) (hm : m.length ≤ 1152921504606846976) : Ans (F_make_Chosen l m) (fun r => Chs r l) := Ans.of (F_make_Chosen_of l m) (by
  refine Ans.bind (s_make_From m hm) fun y0 h0 => ?_
  refine Ans.bind (s_make_Chosen_0 l hl h8 l.length 0 (by omega) y0 [] h0 (by simp [Chs])) fun r hr => Ans.ret hr)
theorem drop_at {α : Type} {l : List α} {i : Nat} (h : i < l.length) : l.drop i = l[i] :: l.drop (i + 1) := List.drop_eq_getElem_cons h
theorem s_make_Total_0 (w : List Int) (hw : ∀ x ∈ w, 0 ≤ x ∧ x ≤ 1000000000) (h8 : w.length ≤ 1000) : ∀ (d i : Nat), i + d = w.length → ∀ (t : Int), 0 ≤ t ∧ t ≤ 1000000000 * i →
    L_make_Total_0 w t ((i : Nat) : Int) = some (t + (w.drop i).sum) := by
  intro d
  induction d with
  | zero =>
    intro i hi t ht
    refine L_make_Total_0_of _ _ _ _ ?_
    have e2 : w.drop i = [] := by rw [List.drop_eq_nil_iff]; omega
    simp only [Bool.cond_decide]
    rw [if_neg (by omega), e2]; simp
  | succ d ih =>
    intro i hi t ht
    refine L_make_Total_0_of _ _ _ _ ?_
    have hlt : i < w.length := by omega
    have hx := hw _ (List.getElem_mem hlt)
    simp only [Bool.cond_decide, letIn, Option.bind_some, nth_at hlt, wi (show i ≤ 1152921504606846976 by omega)]
    rw [if_pos (by omega), if_pos (by omega), w64 (n := t + w[i]) (by omega), ih (i + 1) (by omega) _ (by omega), drop_at hlt, List.sum_cons, Int.add_assoc]
theorem s_make_Total (w : List Int) (hw : ∀ x ∈ w, 0 ≤ x ∧ x ≤ 1000000000) (h8 : w.length ≤ 1000) : F_make_Total w = some w.sum := F_make_Total_of w _ (by
  have := s_make_Total_0 w hw h8 w.length 0 (by omega) 0 (by omega)
  simp only [Int.natCast_zero, List.drop_zero, Int.zero_add] at this
  rw [this]; rfl)
theorem s_make_Signed {k : Int} (hk : 0 ≤ k) (hk2 : k ≤ 1000000000000) {c : LI_I} (hc : SrcOk c) : Ans (F_make_Source_Signed k c) (fun y => (-k ≤ y.1 ∧ y.1 ≤ k) ∧ SrcOk y.2) := Ans.of (F_make_Source_Signed_of k c) (by
  simp only [letIn]
  rw [w64 (n := 2 * k) (by omega), w64 (n := 2 * k + 1) (by omega)]
  refine Ans.bind (s_make_Next (by omega) (by omega) hc) fun y hy => ?_
  rw [w64 (n := y.1 - k) (by omega)]
  exact Ans.ret ⟨by dsimp only; omega, hy.2⟩)
theorem pcw {w c a b e : Int} (hw : 0 ≤ w ∧ w ≤ 1048576) (hc : -196608 ≤ c ∧ c ≤ 196608) (ha : -4 ≤ a ∧ a ≤ 4) (hb : -9 ≤ b ∧ b ≤ 9) (he : 0 ≤ e ∧ e < w + 1) :
    Pc w (IntKind.wrap .i64 (IntKind.wrap .i64 (c + IntKind.wrap .i64 (a * 32768)) + b)) (IntKind.wrap .i64 (IntKind.wrap .i64 (IntKind.wrap .i64 (c + IntKind.wrap .i64 (a * 32768)) + b) + e)) := by
  rw [w64 (n := a * 32768) (by omega), w64 (n := c + a * 32768) (by omega), w64 (n := c + a * 32768 + b) (by omega), w64 (n := c + a * 32768 + b + e) (by omega)]
  unfold Pc; omega
theorem s_make_Points_0 {w : Int} (hw : 0 ≤ w ∧ w ≤ 1048576) (o : I3) (ho : (-196608 ≤ o.c0 ∧ o.c0 ≤ 196608) ∧ (-196608 ≤ o.c1 ∧ o.c1 ≤ 196608) ∧ (-196608 ≤ o.c2 ∧ o.c2 ≤ 196608)) : ∀ (n : Nat) (c : LI_I) (es : List I6), n + es.length ≤ 5 → SrcOk c → (∀ x ∈ es, Pt w x) →
    Ans (L_make_Points_0 w ((n : Nat) : Int) c o es) (fun r => r.length = es.length + n ∧ ∀ x ∈ r, Pt w x) := by
  intro n
  induction n with
  | zero =>
    intro c es hn hc he
    refine Ans.of (L_make_Points_0_of _ _ _ _ _) ?_
    simp only [Bool.cond_decide]
    rw [if_neg (by omega)]
    exact Ans.ret ⟨by omega, he⟩
  | succ n ih =>
    intro c es hn hc he
    refine Ans.of (L_make_Points_0_of _ _ _ _ _) ?_
    simp only [Bool.cond_decide, letIn]
    rw [if_pos (by omega), w64 (n := w + 1) (by omega)]
    refine Ans.bind (Q := fun p => p.1 = w ∧ p.2.1 = ((n + 1 : Nat) : Int) ∧ SrcOk p.2.2.1 ∧ p.2.2.2.1 = o ∧ p.2.2.2.2.1 = es ∧ Pt w p.2.2.2.2.2) ?_ ?_
    · refine Ans.bind (s_make_Signed (by omega) (by omega) hc) fun y1 h1 => ?_
      refine Ans.bind (s_make_Signed (by omega) (by omega) h1.2) fun y2 h2 => ?_
      refine Ans.bind (s_make_Next (by omega) (by omega) h2.2) fun y3 h3 => ?_
      refine Ans.bind (s_make_Signed (by omega) (by omega) h3.2) fun y4 h4 => ?_
      refine Ans.bind (s_make_Signed (by omega) (by omega) h4.2) fun y5 h5 => ?_
      refine Ans.bind (s_make_Next (by omega) (by omega) h5.2) fun y6 h6 => ?_
      refine Ans.bind (s_make_Signed (by omega) (by omega) h6.2) fun y7 h7 => ?_
      refine Ans.bind (s_make_Signed (by omega) (by omega) h7.2) fun y8 h8 => ?_
      refine Ans.bind (s_make_Next (by omega) (by omega) h8.2) fun y9 h9 => ?_
      refine Ans.ret ⟨rfl, rfl, h9.2, rfl, rfl, ?_⟩
      exact ⟨pcw hw ho.1 h1.1 h2.1 h3.1, pcw hw ho.2.1 h4.1 h5.1 h6.1, pcw hw ho.2.2 h7.1 h8.1 h9.1⟩
    · rintro ⟨p1, p2, p3, p4, p5, p6⟩ ⟨e1, e2, hs, e4, e5, hp⟩
      dsimp only at e1 e2 hs e4 e5 hp ⊢
      subst e1 e2 e4 e5
      rw [if_pos (by omega), w64 (n := ((n + 1 : Nat) : Int) - 1) (by omega), show ((n + 1 : Nat) : Int) - 1 = ((n : Nat) : Int) by omega]
      refine (ih p3 (p5 ++ [p6]) (by simp; omega) hs ?_).mono fun r hr => ⟨by rw [hr.1]; simp; omega, hr.2⟩
      intro x hx
      rcases List.mem_append.1 hx with hx | hx
      · exact he x hx
      · simp at hx; subst hx; exact hp
theorem s_make_Points (l : List Int) (hl : l.length ≤ 1152921504606846976) {w : Int} (hw : 0 ≤ w ∧ w ≤ 1048576) : Ans (F_make_Points l w) (fun r => (1 ≤ r.length ∧ r.length ≤ 5) ∧ ∀ x ∈ r, Pt w x) := Ans.of (F_make_Points_of l w) (by
  simp only [letIn]
  refine Ans.bind (s_make_From l hl) fun y0 h0 => ?_
  refine Ans.bind (s_make_Signed (by omega) (by omega) h0) fun y1 h1 => ?_
  refine Ans.bind (s_make_Signed (by omega) (by omega) h1.2) fun y2 h2 => ?_
  refine Ans.bind (s_make_Signed (by omega) (by omega) h2.2) fun y3 h3 => ?_
  refine Ans.bind (s_make_Next (by omega) (by omega) h3.2) fun y4 h4 => ?_
  rw [w64 (n := y1.1 * 32768) (by omega), w64 (n := y2.1 * 32768) (by omega), w64 (n := y3.1 * 32768) (by omega), w64 (n := 1 + y4.1) (by omega)]
  obtain ⟨n, hn⟩ : ∃ n : Nat, 1 + y4.1 = ((n : Nat) : Int) := ⟨(1 + y4.1).toNat, by omega⟩
  rw [hn]
  refine Ans.bind (s_make_Points_0 hw ⟨y1.1 * 32768, y2.1 * 32768, y3.1 * 32768⟩ (by dsimp only; omega) n y4.2 [] (by simp; omega) h4.2 (by simp)) fun r hr => ?_
  exact Ans.ret ⟨by have := hr.1; simp at this; omega, hr.2⟩)
def PlacedP (l : List I6) : Prop := AllR l ∧ 1 ≤ l.length ∧ l.length ≤ 8
instance PlacedP.dec (l : List I6) : Decidable (PlacedP l) := by unfold PlacedP; exact inferInstance
theorem placed_of {w : Int} (hw : w ≤ 1048576) {l : List I6} (h : (1 ≤ l.length ∧ l.length ≤ 5) ∧ ∀ x ∈ l, Pt w x) : PlacedP l :=
  ⟨fun x hx => (h.2 x hx).reach hw, h.1.1, by omega⟩
theorem upd_sum : ∀ {l : List Int} {i : Nat} {x y : Int}, nth l i = some x → (upd l i y).sum = l.sum - x + y
  | a :: l, 0, x, y, h => by simp only [nth, Option.some.injEq] at h; subst h; simp only [upd, List.sum_cons]; omega
  | a :: l, i + 1, x, y, h => by
    simp only [nth] at h
    have := upd_sum (y := y) h
    simp only [upd, List.sum_cons, this]; omega
theorem upd_mem : ∀ {l : List Int} {i : Nat} {y z : Int}, z ∈ upd l i y → z ∈ l ∨ z = y
  | a :: l, 0, y, z, h => by
    simp only [upd, List.mem_cons] at h
    rcases h with h | h
    · exact .inr h
    · exact .inl (by simp [h])
  | a :: l, i + 1, y, z, h => by
    simp only [upd, List.mem_cons] at h
    rcases h with h | h
    · exact .inl (by simp [h])
    · rcases upd_mem h with h | h
      · exact .inl (by simp [h])
      · exact .inr h
theorem sum_le : ∀ {l : List Int} {b : Int}, (∀ x ∈ l, x ≤ b) → l.sum ≤ b * l.length
  | [], b, _ => by simp
  | x :: l, b, h => by
    have := sum_le (l := l) (b := b) fun y hy => h y (by simp [hy])
    have := h x (by simp)
    simp only [List.sum_cons, List.length_cons]
    have e : b * ((l.length + 1 : Nat) : Int) = b * (l.length : Int) + b := by rw [Int.natCast_add, Int.mul_add]; simp
    rw [e]; omega
theorem s_make_Weights_0 (m : Nat) (hm : m ≤ 8) : ∀ (d i : Nat), i + d = m → ∀ (c : LI_I) (es : List Int), SrcOk c → es.length = i → (∀ x ∈ es, 0 ≤ x ∧ x ≤ 8) →
    Ans (L_make_Weights_0 ((m : Nat) : Int) ((i : Nat) : Int) c es) (fun r => r.1 = ((m : Nat) : Int) ∧ SrcOk r.2.1 ∧ r.2.2.length = m ∧ ∀ x ∈ r.2.2, 0 ≤ x ∧ x ≤ 8) := by
  intro d
  induction d with
  | zero =>
    intro i hi c es hc hl he
    refine Ans.of (L_make_Weights_0_of _ _ _ _) ?_
    simp only [Bool.cond_decide]
    rw [if_neg (by omega)]
    exact Ans.ret ⟨rfl, hc, by dsimp only; omega, he⟩
  | succ d ih =>
    intro i hi c es hc hl he
    refine Ans.of (L_make_Weights_0_of _ _ _ _) ?_
    simp only [Bool.cond_decide, letIn]
    rw [if_pos (by omega)]
    refine Ans.bind (s_make_Next (by omega) (by omega) hc) fun y hy => ?_
    rw [if_pos (by omega), wi (by omega)]
    refine ih (i + 1) (by omega) y.2 (es ++ [y.1]) hy.2 (by simp; omega) ?_
    intro x hx
    rcases List.mem_append.1 hx with hx | hx
    · exact he x hx
    · simp at hx; subst hx; omega
theorem sum_nonneg : ∀ {w : List Int}, (∀ x ∈ w, 0 ≤ x) → 0 ≤ w.sum
  | [], _ => by simp
  | x :: w, h => by
    have := sum_nonneg (w := w) fun y hy => h y (by simp [hy])
    have := h x (by simp)
    rw [List.sum_cons]; omega
theorem s_make_Weights (m : Nat) (hm : 1 ≤ m ∧ m ≤ 8) (l : List Int) (hl : l.length ≤ 1152921504606846976) : Ans (F_make_Weights ((m : Nat) : Int) l) (fun r => r.length = m ∧ (∀ x ∈ r, 0 ≤ x ∧ x ≤ 9) ∧ 1 ≤ r.sum ∧ r.sum ≤ 65) := Ans.of (F_make_Weights_of _ l) (by
  simp only [Bool.cond_decide, letIn]
  refine Ans.bind (s_make_From l hl) fun y0 h0 => ?_
  refine Ans.bind (s_make_Weights_0 m hm.2 m 0 (by omega) y0 [] h0 rfl (by simp)) ?_
  rintro ⟨p1, p2, p3⟩ ⟨rfl, h2, h3, h4⟩
  dsimp only at h2 h3 h4 ⊢
  rw [if_pos (by omega)]
  refine Ans.bind (s_make_Next (by omega) (by omega) h2) fun y hy => ?_
  rw [if_pos (by omega)]
  have hlt : y.1.toNat < p3.length := by omega
  have hx := h4 _ (List.getElem_mem hlt)
  rw [nth_of_lt hlt]
  simp only [Option.bind_some, if_pos hy.1.1]
  rw [w64 (n := p3[y.1.toNat] + 1) (by omega)]
  refine Ans.ret ⟨by rw [upd_length]; exact h3, ?_, ?_⟩
  · intro z hz
    rcases upd_mem hz with hz | hz
    · have := h4 z hz; omega
    · omega
  · rw [upd_sum (nth_of_lt hlt)]
    have s0 := sum_nonneg (w := p3) fun x hx => (h4 x hx).1
    have s1 := sum_le (l := p3) (b := 8) fun x hx => (h4 x hx).2
    rw [h3] at s1
    omega)
def sqn (n : I3) : Int := n.c0 * n.c0 + n.c1 * n.c1 + n.c2 * n.c2
def Fit3 (n : I3) : Prop := (-16384 ≤ n.c0 ∧ n.c0 ≤ 16384) ∧ (-16384 ≤ n.c1 ∧ n.c1 ≤ 16384) ∧ (-16384 ≤ n.c2 ∧ n.c2 ≤ 16384)
instance Fit3.dec (n : I3) : Decidable (Fit3 n) := by unfold Fit3; exact inferInstance
def UsableP (n : I3) : Prop := Fit3 n ∧ ¬ (n.c0 = 0 ∧ n.c1 = 0 ∧ n.c2 = 0)
instance UsableP.dec (n : I3) : Decidable (UsableP n) := by unfold UsableP; exact inferInstance
def normS (n : I3) : Int := if UsableP n then rootUp (sqn n) else 0
theorem sq_b {x : Int} (h : -16384 ≤ x ∧ x ≤ 16384) : 0 ≤ x * x ∧ x * x ≤ 268435456 := by
  have h1 := mul_bd (x := x) (y := x) (m := 16384) (n := 16384) (by omega) (by omega) (by omega) (by omega)
  have h2 : 0 ≤ x * x := by
    rcases Int.le_total 0 x with k | k
    · exact Int.mul_nonneg k k
    · exact Int.mul_nonneg_of_nonpos_of_nonpos k k
  omega
theorem sqn_b {n : I3} (h : Fit3 n) : 0 ≤ sqn n ∧ sqn n ≤ 805306368 := by
  have b0 := sq_b h.1; have b1 := sq_b h.2.1; have b2 := sq_b h.2.2
  unfold sqn; omega
theorem rootUp_b {n : Int} (h0 : 0 ≤ n) (h : n ≤ 805306368) : 0 ≤ rootUp n ∧ rootUp n ≤ 32768 := by
  obtain ⟨r0, r1, _⟩ := root_is h0
  have hlt : root n < 32768 := sq_lt r0 (by omega) (by omega)
  unfold rootUp; split <;> omega
theorem normS_b (n : I3) : 0 ≤ normS n ∧ normS n ≤ 32768 := by
  unfold normS
  split
  · rename_i h
    have := sqn_b h.1
    exact rootUp_b this.1 this.2
  · omega
theorem zero3 (n : I3) : (!((n.c0 == 0) && ((n.c1 == 0) && ((n.c2 == 0) && true)))) = decide (¬ (n.c0 = 0 ∧ n.c1 = 0 ∧ n.c2 = 0)) := by
  by_cases h0 : n.c0 = 0 <;> by_cases h1 : n.c1 = 0 <;> by_cases h2 : n.c2 = 0 <;> simp [h0, h1, h2]
theorem s_support_fits (n : I3) : F_support_fits n = some (decide (Fit3 n)) := by
  rw [F_support_fits_eq]; congr 1
  simp only [G_support_fits, letIn, Bool.cond_decide]
  by_cases h : Fit3 n
  · rw [decide_eq_true h]
    unfold Fit3 at h
    rw [if_neg (by omega), if_neg (by omega), if_neg (by omega), if_neg (by omega), if_neg (by omega), if_neg (by omega)]
  · rw [decide_eq_false h]
    unfold Fit3 at h
    split
    · rename_i e he
      (repeat' split at he) <;> first | (cases he; rfl) | (cases he; done)
    · rename_i e he
      exfalso
      (repeat' split at he) <;> first | (cases he; done) | (apply h; omega)
theorem s_support_Usable (n : I3) : F_support_Usable n = some (decide (UsableP n)) := F_support_Usable_of n _ (by
  simp only [s_support_fits, Option.bind_some, letIn, zero3, UsableP]
  by_cases h : Fit3 n <;> simp [h])
theorem s_support_Norm (n : I3) : F_support_Norm n = some (normS n) := F_support_Norm_of n _ (by
  simp only [s_support_Usable, Option.bind_some, normS]
  by_cases h : UsableP n
  · have b0 := sq_b h.1.1; have b1 := sq_b h.1.2.1; have b2 := sq_b h.1.2.2
    simp only [h, decide_true, Bool.not_true, cond_false, if_true, letIn]
    rw [w64 (n := n.c0 * n.c0) (by omega), w64 (n := n.c1 * n.c1) (by omega), w64 (n := n.c2 * n.c2) (by omega), w64 (n := n.c0 * n.c0 + n.c1 * n.c1) (by omega), w64 (n := n.c0 * n.c0 + n.c1 * n.c1 + n.c2 * n.c2) (by omega), s_fixed_RootUp _ (by omega)]; rfl
  · simp [h])
theorem s_ref6_Near (n : I3) : F_ref6_Near n 16384 = some (decide (Fit3 n)) := by
  rw [F_ref6_Near_eq]; congr 1
  have e : IntKind.wrap .i64 (0 - 16384) = -16384 := by rw [w64 (by omega)]; rfl
  simp only [G_ref6_Near, letIn, Bool.cond_decide, e]
  by_cases h : Fit3 n
  · rw [decide_eq_true h]
    unfold Fit3 at h
    rw [if_neg (by omega), if_neg (by omega), if_neg (by omega), if_neg (by omega), if_neg (by omega), if_neg (by omega)]
  · rw [decide_eq_false h]
    unfold Fit3 at h
    split
    · rename_i e he
      (repeat' split at he) <;> first | (cases he; rfl) | (cases he; done)
    · rename_i e he
      exfalso
      (repeat' split at he) <;> first | (cases he; done) | (apply h; omega)
theorem s_ref10_Usable (n : I3) : F_ref10_Usable n = some (decide (UsableP n)) := F_ref10_Usable_of n _ (by
  simp only [s_ref6_Near, Option.bind_some, letIn, zero3, UsableP]
  by_cases h : Fit3 n <;> by_cases h2 : n.c0 = 0 ∧ n.c1 = 0 ∧ n.c2 = 0 <;> simp [h, h2])
theorem s_ref10_Norm (n : I3) : F_ref10_Norm n = some (normS n) := F_ref10_Norm_of n _ (by
  simp only [s_ref10_Usable, Option.bind_some, normS]
  by_cases h : UsableP n
  · have b0 := sq_b h.1.1; have b1 := sq_b h.1.2.1; have b2 := sq_b h.1.2.2
    simp only [h, decide_true, Bool.not_true, cond_false, if_true, letIn]
    rw [w64 (n := n.c0 * n.c0) (by omega), w64 (n := n.c1 * n.c1) (by omega), w64 (n := n.c2 * n.c2) (by omega), w64 (n := n.c0 * n.c0 + n.c1 * n.c1) (by omega), w64 (n := n.c0 * n.c0 + n.c1 * n.c1 + n.c2 * n.c2) (by omega), s_ref1_RootUp _ (by omega)]; rfl
  · simp [h])
def dl1 (k a b : Int) : Int := mn (k * a) (k * b)
def dlo (n : I3) (v : I6) : Int := dl1 n.c0 v.c0 v.c1 + dl1 n.c1 v.c2 v.c3 + dl1 n.c2 v.c4 v.c5
theorem nb {k x : Int} (hk : -16384 ≤ k ∧ k ≤ 16384) (hx : -268435456 ≤ x ∧ x ≤ 268435456) : -4398046511104 ≤ k * x ∧ k * x ≤ 4398046511104 :=
  mul_bd (m := 16384) (n := 268435456) (by omega) (by omega) (by omega) (by omega)
theorem dl1_b {k a b : Int} (hk : -16384 ≤ k ∧ k ≤ 16384) (h : Reach a b) : -4398046511104 ≤ dl1 k a b ∧ dl1 k a b ≤ 4398046511104 := by
  unfold Reach at h
  exact mn_bd (nb hk (by omega)) (nb hk (by omega))
theorem dlo_b {n : I3} {v : I6} (hn : Fit3 n) (hv : Reach6 v) : -13194139533312 ≤ dlo n v ∧ dlo n v ≤ 13194139533312 := by
  have h1 := dl1_b hn.1 hv.1; have h2 := dl1_b hn.2.1 hv.2.1; have h3 := dl1_b hn.2.2 hv.2.2
  unfold dlo; omega
/-- the least value and the first place that has it -/
def lst (f : I6 → Int) : Int → Int → Int → List I6 → Int × Int
  | b, a, _, [] => (b, a)
  | b, a, i, x :: l => if f x < b then lst f (f x) i (i + 1) l else lst f b a (i + 1) l
def Z6 : I6 := ⟨0, 0, 0, 0, 0, 0⟩
def hd6 : List I6 → I6
  | [] => Z6
  | x :: _ => x
def lstS (n : I3) (l : List I6) : Int × Int := lst (dlo n) (dlo n (hd6 l)) 0 0 l
theorem lst_at (f : I6 → Int) : ∀ (l : List I6) (b a i : Int), (lst f b a i l).1 = b ∨ ∃ x ∈ l, (lst f b a i l).1 = f x
  | [], b, a, i => .inl rfl
  | x :: l, b, a, i => by
    simp only [lst]
    split
    · rcases lst_at f l (f x) i (i + 1) with h | ⟨y, hy, h⟩
      · exact .inr ⟨x, by simp, h⟩
      · exact .inr ⟨y, by simp [hy], h⟩
    · rcases lst_at f l b a (i + 1) with h | ⟨y, hy, h⟩
      · exact .inl h
      · exact .inr ⟨y, by simp [hy], h⟩
theorem hd6_mem {l : List I6} (h : 1 ≤ l.length) : hd6 l ∈ l := by
  cases l with
  | nil => simp at h
  | cons x l => simp [hd6]
theorem lstS_at {n : I3} {l : List I6} (h : 1 ≤ l.length) : ∃ x ∈ l, (lstS n l).1 = dlo n x := by
  rcases lst_at (dlo n) l (dlo n (hd6 l)) 0 0 with e | e
  · exact ⟨_, hd6_mem h, e⟩
  · exact e
theorem lstS_b {n : I3} {l : List I6} (hn : UsableP n) (hl : PlacedP l) : -13194139533312 ≤ (lstS n l).1 ∧ (lstS n l).1 ≤ 13194139533312 := by
  obtain ⟨x, hx, e⟩ := lstS_at (n := n) hl.2.1
  rw [e]; exact dlo_b hn.1 (hl.1 x hx)
def dh1 (k a b : Int) : Int := mx (k * a) (k * b)
def dhi (n : I3) (v : I6) : Int := dh1 n.c0 v.c0 v.c1 + dh1 n.c1 v.c2 v.c3 + dh1 n.c2 v.c4 v.c5
theorem dh1_b {k a b : Int} (hk : -16384 ≤ k ∧ k ≤ 16384) (h : Reach a b) : -4398046511104 ≤ dh1 k a b ∧ dh1 k a b ≤ 4398046511104 := by
  unfold Reach at h
  exact mx_bd (nb hk (by omega)) (nb hk (by omega))
theorem dhi_b {n : I3} {v : I6} (hn : Fit3 n) (hv : Reach6 v) : -13194139533312 ≤ dhi n v ∧ dhi n v ≤ 13194139533312 := by
  have h1 := dh1_b hn.1 hv.1; have h2 := dh1_b hn.2.1 hv.2.1; have h3 := dh1_b hn.2.2 hv.2.2
  unfold dhi; omega
def gst (f : I6 → Int) : Int → Int → Int → List I6 → Int × Int
  | b, a, _, [] => (b, a)
  | b, a, i, x :: l => if f x > b then gst f (f x) i (i + 1) l else gst f b a (i + 1) l
def gstS (n : I3) (l : List I6) : Int × Int := gst (dhi n) (dhi n (hd6 l)) 0 0 l
theorem gst_neg (f g : I6 → Int) (h : ∀ x, f x = -g x) : ∀ (l : List I6) (b a i : Int), gst f b a i l = (-(lst g (-b) a i l).1, (lst g (-b) a i l).2)
  | [], b, a, i => by simp [gst, lst]
  | x :: l, b, a, i => by
    simp only [gst, lst, h x]
    by_cases k : g x < -b
    · rw [if_pos (by omega), if_pos k, gst_neg f g h l (-g x) i (i + 1)]; simp
    · rw [if_neg (by omega), if_neg k, gst_neg f g h l b a (i + 1)]
theorem gstS_eq (n : I3) (l : List I6) : gstS n l = (-(lst (fun x => -dhi n x) (-dhi n (hd6 l)) 0 0 l).1, (lst (fun x => -dhi n x) (-dhi n (hd6 l)) 0 0 l).2) := gst_neg _ _ (fun x => by simp) l _ 0 0
theorem gstS_at {n : I3} {l : List I6} (h : 1 ≤ l.length) : ∃ x ∈ l, (gstS n l).1 = dhi n x := by
  rw [gstS_eq]
  rcases lst_at (fun x => -dhi n x) l (-dhi n (hd6 l)) 0 0 with e | ⟨x, hx, e⟩
  · exact ⟨_, hd6_mem h, by dsimp only; rw [e]; omega⟩
  · exact ⟨x, hx, by dsimp only at e ⊢; rw [e]; omega⟩
theorem gstS_b {n : I3} {l : List I6} (hn : UsableP n) (hl : PlacedP l) : -13194139533312 ≤ (gstS n l).1 ∧ (gstS n l).1 ≤ 13194139533312 := by
  obtain ⟨x, hx, e⟩ := gstS_at (n := n) hl.2.1
  rw [e]; exact dhi_b hn.1 (hl.1 x hx)
def RadP (r : Int) : Prop := 0 ≤ r ∧ r ≤ 1048576
instance RadP.dec (r : Int) : Decidable (RadP r) := by unfold RadP; exact inferInstance
def marg (n : I3) (a : List I6) (ra : Int) (b : List I6) (rb : Int) : Int := (lstS n a).1 - (gstS n b).1 - normS n * (ra + rb)
def MargOk (n : I3) (a : List I6) (ra : Int) (b : List I6) (rb : Int) : Prop := UsableP n ∧ (PlacedP a ∧ RadP ra) ∧ (PlacedP b ∧ RadP rb)
instance MargOk.dec (n : I3) (a : List I6) (ra : Int) (b : List I6) (rb : Int) : Decidable (MargOk n a ra b rb) := by unfold MargOk; exact inferInstance
def margS (n : I3) (a : List I6) (ra : Int) (b : List I6) (rb : Int) : Int × Bool := if MargOk n a ra b rb then (marg n a ra b rb, true) else (0, false)
theorem nr_b (n : I3) {ra rb : Int} (ha : RadP ra) (hb : RadP rb) : 0 ≤ normS n * (ra + rb) ∧ normS n * (ra + rb) ≤ 68719476736 := by
  have h := normS_b n
  unfold RadP at ha hb
  have h1 := mul_bd (x := normS n) (y := ra + rb) (m := 32768) (n := 2097152) (by omega) (by omega) (by omega) (by omega)
  have h2 := Int.mul_nonneg h.1 (show 0 ≤ ra + rb by omega)
  omega
theorem marg_wrap {n : I3} {a b : List I6} {ra rb : Int} (h : MargOk n a ra b rb) : IntKind.wrap .i64 ((lstS n a).1 - (gstS n b).1) = (lstS n a).1 - (gstS n b).1 ∧ IntKind.wrap .i64 (ra + rb) = ra + rb ∧ IntKind.wrap .i64 (normS n * (ra + rb)) = normS n * (ra + rb) ∧ IntKind.wrap .i64 ((lstS n a).1 - (gstS n b).1 - normS n * (ra + rb)) = marg n a ra b rb := by
  have h1 := lstS_b h.1 h.2.1.1; have h2 := gstS_b h.1 h.2.2.1; have h3 := nr_b n h.2.1.2 h.2.2.2
  have h4 := h.2.1.2; have h5 := h.2.2.2
  unfold RadP at h4 h5
  unfold marg
  exact ⟨w64 (by omega), w64 (by omega), w64 (by omega), w64 (by omega)⟩
theorem len_test (n : Nat) : (if (((n : Nat) : Int)) ≥ 1 then some (decide ((((n : Nat) : Int)) ≤ 8)) else some false) = some (decide (1 ≤ n ∧ n ≤ 8)) := by
  by_cases h1 : 1 ≤ n
  · rw [if_pos (by omega)]; congr 1
    rw [Bool.eq_iff_iff, decide_eq_true_eq, decide_eq_true_eq]; omega
  · rw [if_neg (by omega), decide_eq_false (by omega)]
theorem s_shape_reaches (a : I2) : F_shape_reaches a = some (decide (Reach a.c0 a.c1)) := by
  rw [F_shape_reaches_eq]; congr 1
  rw [Bool.eq_iff_iff, decide_eq_true_eq]
  simp [G_shape_reaches, Reach, Bool.cond_decide]
theorem s_shape_Placed_0 (u l : List I6) (hl : l.length ≤ 1152921504606846976) : ∀ (d i : Nat), i + d = l.length →
    L_shape_Placed_0 u l ((l.length : Nat) : Int) ((i : Nat) : Int) = some (if AllR (l.drop i) then .inr u else .inl false) := by
  intro d
  induction d with
  | zero =>
    intro i hi
    refine L_shape_Placed_0_of _ _ _ _ _ ?_
    have e : l.drop i = [] := by rw [List.drop_eq_nil_iff]; omega
    rw [e, if_pos (by simp [AllR])]
    simp only [Bool.cond_decide]
    rw [if_neg (by omega)]
  | succ d ih =>
    intro i hi
    refine L_shape_Placed_0_of _ _ _ _ _ ?_
    have hlt : i < l.length := by omega
    simp only [Bool.cond_decide, letIn, s_shape_reaches, Option.bind_some, nth_at hlt, wi (show i ≤ 1152921504606846976 by omega)]
    rw [if_pos (by omega), if_pos (by omega), ih (i + 1) (by omega), drop_at hlt]
    simp only [AllR.cons, Reach6]
    by_cases h1 : Reach l[i].c0 l[i].c1
    · by_cases h2 : Reach l[i].c2 l[i].c3
      · by_cases h3 : Reach l[i].c4 l[i].c5 <;> simp [h1, h2, h3]
      · simp [h1, h2]
    · simp [h1]
theorem s_shape_Placed (l : List I6) (hl : l.length ≤ 1152921504606846976) : F_shape_Placed l = some (decide (PlacedP l)) := F_shape_Placed_of l _ (by
  have := s_shape_Placed_0 l l hl l.length 0 (by omega)
  rw [List.drop_zero] at this
  simp only [Int.natCast_zero] at this
  rw [this]
  simp only [Option.bind_some, PlacedP]
  by_cases h : AllR l
  · simp only [h, if_true, true_and, Bool.cond_decide]
    exact len_test l.length
  · simp [h])
theorem s_plane_usable (h : LI6_I) (hl : h.c0.length ≤ 1152921504606846976) : F_plane_hull_usable h = some (decide (PlacedP h.c0 ∧ RadP h.c1)) := F_plane_hull_usable_of h _ (by
  simp only [s_shape_Placed h.c0 hl, Option.bind_some, Bool.cond_decide, RadP]
  by_cases h1 : PlacedP h.c0 <;> by_cases h2 : 0 ≤ h.c1 <;> simp [h1, h2])
theorem wn {k x : Int} (hk : -16384 ≤ k ∧ k ≤ 16384) (hx : -268435456 ≤ x ∧ x ≤ 268435456) : IntKind.wrap .i64 (k * x) = k * x := by
  have := nb hk hx; exact w64 (by omega)
theorem s_support_dot (n : I3) (v : I6) (hn : Fit3 n) (hv : Reach6 v) : F_support_dot n v = some (dlo n v, dhi n v) := by
  rw [F_support_dot_eq]; congr 1
  have b1 := dl1_b hn.1 hv.1; have b2 := dl1_b hn.2.1 hv.2.1; have b3 := dl1_b hn.2.2 hv.2.2
  have c1 := dh1_b hn.1 hv.1; have c2 := dh1_b hn.2.1 hv.2.1; have c3 := dh1_b hn.2.2 hv.2.2
  obtain ⟨r1, r2, r3⟩ := hv
  unfold Reach at r1 r2 r3
  simp only [G_support_dot, letIn]
  rw [wn hn.1 (show -268435456 ≤ v.c0 ∧ v.c0 ≤ 268435456 by omega), wn hn.1 (show -268435456 ≤ v.c1 ∧ v.c1 ≤ 268435456 by omega), wn hn.2.1 (show -268435456 ≤ v.c2 ∧ v.c2 ≤ 268435456 by omega), wn hn.2.1 (show -268435456 ≤ v.c3 ∧ v.c3 ≤ 268435456 by omega), wn hn.2.2 (show -268435456 ≤ v.c4 ∧ v.c4 ≤ 268435456 by omega), wn hn.2.2 (show -268435456 ≤ v.c5 ∧ v.c5 ≤ 268435456 by omega)]
  show (IntKind.wrap .i64 (IntKind.wrap .i64 (IntKind.wrap .i64 (0 + dl1 n.c0 v.c0 v.c1) + dl1 n.c1 v.c2 v.c3) + dl1 n.c2 v.c4 v.c5), IntKind.wrap .i64 (IntKind.wrap .i64 (IntKind.wrap .i64 (0 + dh1 n.c0 v.c0 v.c1) + dh1 n.c1 v.c2 v.c3) + dh1 n.c2 v.c4 v.c5)) = _
  rw [w64 (n := 0 + dl1 n.c0 v.c0 v.c1) (by omega), w64 (n := 0 + dh1 n.c0 v.c0 v.c1) (by omega), w64 (n := 0 + dl1 n.c0 v.c0 v.c1 + dl1 n.c1 v.c2 v.c3) (by omega), w64 (n := 0 + dh1 n.c0 v.c0 v.c1 + dh1 n.c1 v.c2 v.c3) (by omega), w64 (n := 0 + dl1 n.c0 v.c0 v.c1 + dl1 n.c1 v.c2 v.c3 + dl1 n.c2 v.c4 v.c5) (by omega), w64 (n := 0 + dh1 n.c0 v.c0 v.c1 + dh1 n.c1 v.c2 v.c3 + dh1 n.c2 v.c4 v.c5) (by omega)]
  simp only [dlo, dhi, Int.zero_add]
theorem s_support_Least_1 (v : I6) (n : I3) (hn : Fit3 n) (hv : Reach6 v) : F_support_Least_1 v n = some (dlo n v, n) := F_support_Least_1_of v n _ (by simp only [s_support_dot n v hn hv, Option.bind_some])
theorem s_support_Least_2 (x y : Int) : F_support_Least_2 x y = some (decide (x < y)) := F_support_Least_2_of x y _ rfl
theorem s_first_L_0 (l : List I6) (n : I3) (hn : Fit3 n) (hl : AllR l) (h8 : l.length ≤ 8) : ∀ (d i : Nat), i + d = l.length → ∀ (b a : Int),
    L_support_search_first_support_Least_1_support_Least_2_0 b a l ((l.length : Nat) : Int) ((i : Nat) : Int) n = some ((lst (dlo n) b a i (l.drop i)).1, (lst (dlo n) b a i (l.drop i)).2, n) := by
  intro d
  induction d with
  | zero =>
    intro i hi b a
    refine L_support_search_first_support_Least_1_support_Least_2_0_of _ _ _ _ _ _ _ ?_
    have e : l.drop i = [] := by rw [List.drop_eq_nil_iff]; omega
    simp only [Bool.cond_decide]
    rw [if_neg (by omega), e]; rfl
  | succ d ih =>
    intro i hi b a
    refine L_support_search_first_support_Least_1_support_Least_2_0_of _ _ _ _ _ _ _ ?_
    have hlt : i < l.length := by omega
    have hr := hl _ (List.getElem_mem hlt)
    simp only [Bool.cond_decide, letIn, nth_at hlt, Option.bind_some, s_support_Least_1 _ _ hn hr, s_support_Least_2, wi (show i ≤ 1152921504606846976 by omega)]
    rw [if_pos (by omega), if_pos (by omega), drop_at hlt]
    simp only [lst]
    by_cases h : dlo n l[i] < b
    · rw [if_pos h, ih (i + 1) (by omega), if_pos h]; simp
    · rw [if_neg h, ih (i + 1) (by omega), if_neg h]; simp
theorem s_support_Least (n : I3) (l : List I6) (hn : UsableP n) (hl : PlacedP l) : F_support_Least n l = some ((lstS n l).1, (lstS n l).2, true) := F_support_Least_of n l _ (by
  simp only [s_support_Usable, s_shape_Placed l (by have := hl.2.2; omega), hn, hl, Option.bind_some, decide_true, Bool.not_true, cond_false]
  have h0 : 0 < l.length := hl.2.1
  have e : F_support_search_first_support_Least_1_support_Least_2 l n = some ((lstS n l).1, (lstS n l).2, n) := F_support_search_first_support_Least_1_support_Least_2_of l n _ (by
    have hr := hl.1 _ (List.getElem_mem h0)
    have he : l[0] = hd6 l := by cases l with | nil => simp at h0 | cons x l => rfl
    rw [he] at hr
    have := s_first_L_0 l n hn.1 hl.1 hl.2.2 l.length 0 (by omega) (dlo n (hd6 l)) 0
    simp only [Int.natCast_zero, List.drop_zero] at this
    rw [nth_of_lt h0]
    simp only [Option.bind_some, s_support_Least_1 _ _ hn.1 hr, he, this]
    rfl)
  rw [e]; rfl)
theorem s_support_Greatest_1 (v : I6) (n : I3) (hn : Fit3 n) (hv : Reach6 v) : F_support_Greatest_1 v n = some (dhi n v, n) := F_support_Greatest_1_of v n _ (by simp only [s_support_dot n v hn hv, Option.bind_some])
theorem s_support_Greatest_2 (x y : Int) : F_support_Greatest_2 x y = some (decide (x > y)) := F_support_Greatest_2_of x y _ rfl
theorem s_first_G_0 (l : List I6) (n : I3) (hn : Fit3 n) (hl : AllR l) (h8 : l.length ≤ 8) : ∀ (d i : Nat), i + d = l.length → ∀ (b a : Int),
    L_support_search_first_support_Greatest_1_support_Greatest_2_0 b a l ((l.length : Nat) : Int) ((i : Nat) : Int) n = some ((gst (dhi n) b a i (l.drop i)).1, (gst (dhi n) b a i (l.drop i)).2, n) := by
  intro d
  induction d with
  | zero =>
    intro i hi b a
    refine L_support_search_first_support_Greatest_1_support_Greatest_2_0_of _ _ _ _ _ _ _ ?_
    have e : l.drop i = [] := by rw [List.drop_eq_nil_iff]; omega
    simp only [Bool.cond_decide]
    rw [if_neg (by omega), e]; rfl
  | succ d ih =>
    intro i hi b a
    refine L_support_search_first_support_Greatest_1_support_Greatest_2_0_of _ _ _ _ _ _ _ ?_
    have hlt : i < l.length := by omega
    have hr := hl _ (List.getElem_mem hlt)
    simp only [Bool.cond_decide, letIn, nth_at hlt, Option.bind_some, s_support_Greatest_1 _ _ hn hr, s_support_Greatest_2, wi (show i ≤ 1152921504606846976 by omega)]
    rw [if_pos (by omega), if_pos (by omega), drop_at hlt]
    simp only [gst]
    by_cases h : dhi n l[i] > b
    · rw [if_pos h, ih (i + 1) (by omega), if_pos h]; simp
    · rw [if_neg h, ih (i + 1) (by omega), if_neg h]; simp
theorem s_support_Greatest (n : I3) (l : List I6) (hn : UsableP n) (hl : PlacedP l) : F_support_Greatest n l = some ((gstS n l).1, (gstS n l).2, true) := F_support_Greatest_of n l _ (by
  simp only [s_support_Usable, s_shape_Placed l (by have := hl.2.2; omega), hn, hl, Option.bind_some, decide_true, Bool.not_true, cond_false]
  have h0 : 0 < l.length := hl.2.1
  have e : F_support_search_first_support_Greatest_1_support_Greatest_2 l n = some ((gstS n l).1, (gstS n l).2, n) := F_support_search_first_support_Greatest_1_support_Greatest_2_of l n _ (by
    have hr := hl.1 _ (List.getElem_mem h0)
    have he : l[0] = hd6 l := by cases l with | nil => simp at h0 | cons x l => rfl
    rw [he] at hr
    have := s_first_G_0 l n hn.1 hl.1 hl.2.2 l.length 0 (by omega) (dhi n (hd6 l)) 0
    simp only [Int.natCast_zero, List.drop_zero] at this
    rw [nth_of_lt h0]
    simp only [Option.bind_some, s_support_Greatest_1 _ _ hn.1 hr, he, this]
    rfl)
  rw [e]; rfl)
theorem s_plane_Margin (n : I3) (a : List I6) (ra : Int) (b : List I6) (rb : Int) (hla : a.length ≤ 1152921504606846976) (hlb : b.length ≤ 1152921504606846976) : F_plane_Margin n a ra b rb = some (margS n a ra b rb) := F_plane_Margin_of n a ra b rb _ (by
  have e : F_plane_sides_margin ⟨a, ra, b, rb⟩ n = some (margS n a ra b rb) := F_plane_sides_margin_of _ n _ (by
    simp only [s_support_Usable, s_plane_usable ⟨a, ra⟩ hla, s_plane_usable ⟨b, rb⟩ hlb, Option.bind_some, margS]
    by_cases h : MargOk n a ra b rb
    · obtain ⟨w1, w2, w3, w4⟩ := marg_wrap h
      have h' := h
      obtain ⟨hn, ha, hb⟩ := h'
      simp only [hn, ha, hb, h, and_self, decide_true, Bool.not_true, cond_false, if_true, s_support_Least n a hn ha.1, s_support_Greatest n b hn hb.1, Option.bind_some, letIn, s_support_Norm, w1, w2, w3, w4]
    · rw [if_neg h]
      by_cases hn : UsableP n
      · by_cases ha : PlacedP a ∧ RadP ra
        · by_cases hb : PlacedP b ∧ RadP rb
          · exact absurd ⟨hn, ha, hb⟩ h
          · simp only [hn, ha, hb, and_self, decide_true, decide_false, Bool.not_true, Bool.not_false, cond_false, cond_true]
        · simp only [hn, ha, decide_true, decide_false, Bool.not_true, Bool.not_false, cond_false, cond_true]
      · simp only [hn, decide_false, Bool.not_false, cond_true])
  rw [e]; rfl)
theorem law15_awake : F_law15_awake = some true := den_const (x := X_law15_awake) injO_law15_awake 60 (fun n => by kernel_rfl)
theorem and3' (r : Int) : 0 ≤ (((BitVec.ofInt 64 r &&& BitVec.ofInt 64 3).toNat : Nat) : Int) ∧ (((BitVec.ofInt 64 r &&& BitVec.ofInt 64 3).toNat : Nat) : Int) ≤ 3 := by
  have h : (BitVec.ofInt 64 r &&& BitVec.ofInt 64 3).toNat ≤ 3 := by
    rw [BitVec.toNat_and]
    have e : (BitVec.ofInt 64 3).toNat = 3 := by decide
    rw [e]; exact Nat.and_le_right
  omega
theorem s_law15_radius (r : Int) : Ans (F_law15_radius r) RadP := Ans.of (F_law15_radius_of r) (by
  have h := and3' r
  simp only [letIn]
  rw [w64 (by omega)]
  generalize (((BitVec.ofInt 64 r &&& BitVec.ofInt 64 3).toNat : Nat) : Int) = k at *
  have hc : k = 0 ∨ k = 1 ∨ k = 2 ∨ k = 3 := by omega
  rcases hc with rfl | rfl | rfl | rfl
  · show Ans ((F_make_Round (Int.fdiv r 4) 1).bind fun y6 => some y6) RadP
    exact Ans.bind (s_make_Round (k := 1) (by omega) (by omega)) fun y hy => Ans.ret (by unfold RadP; omega)
  · show Ans ((F_make_Round (Int.fdiv r 4) 9000).bind fun y6 => some y6) RadP
    exact Ans.bind (s_make_Round (k := 9000) (by omega) (by omega)) fun y hy => Ans.ret (by unfold RadP; omega)
  · show Ans ((F_make_Round (Int.fdiv r 4) 70000).bind fun y6 => some y6) RadP
    exact Ans.bind (s_make_Round (k := 70000) (by omega) (by omega)) fun y hy => Ans.ret (by unfold RadP; omega)
  · show Ans ((F_make_Round (Int.fdiv r 4) 1048577).bind fun y6 => some y6) RadP
    exact Ans.bind (s_make_Round (k := 1048577) (by omega) (by omega)) fun y hy => Ans.ret (by unfold RadP; omega))
theorem marg_ok {n : I3} {a b : List I6} {ra rb : Int} (hn : UsableP n) (ha : PlacedP a) (hra : RadP ra) (hb : PlacedP b) (hrb : RadP rb) : F_plane_Margin n a ra b rb = some (marg n a ra b rb, true) := by
  rw [s_plane_Margin n a ra b rb (by have := ha.2.2; omega) (by have := hb.2.2; omega), margS, if_pos ⟨hn, ⟨ha, hra⟩, hb, hrb⟩]
def dpt (n : I3) (y : I6) : Int := n.c0 * y.c0 + n.c1 * y.c2 + n.c2 * y.c4
def hullS (n : I3) : List I6 → List Int → Int
  | y :: ys, w :: ws => w * dpt n y + hullS n ys ws
  | _, _ => 0
theorem dpt_b {n : I3} {y : I6} (hn : Fit3 n) (hy : Reach6 y) : (-4398046511104 ≤ n.c0 * y.c0 ∧ n.c0 * y.c0 ≤ 4398046511104) ∧ (-4398046511104 ≤ n.c1 * y.c2 ∧ n.c1 * y.c2 ≤ 4398046511104) ∧ (-4398046511104 ≤ n.c2 * y.c4 ∧ n.c2 * y.c4 ≤ 4398046511104) := by
  unfold Reach6 Reach at hy
  exact ⟨nb hn.1 (by omega), nb hn.2.1 (by omega), nb hn.2.2 (by omega)⟩
theorem s_value_0 (w : List Int) (y : List I6) (n : I3) (hn : Fit3 n) (hy : AllR y) (hw : ∀ z ∈ w, 0 ≤ z ∧ z ≤ 9) (hl : w.length = y.length) (h8 : y.length ≤ 8) : ∀ (d i : Nat), i + d = y.length → ∀ (t : Int), -200000000000000 * (i : Int) ≤ t ∧ t ≤ 200000000000000 * (i : Int) →
    L_law15_value_0 y w t ((i : Nat) : Int) n = some (t + hullS n (y.drop i) (w.drop i)) := by
  intro d
  induction d with
  | zero =>
    intro i hi t ht
    refine L_law15_value_0_of _ _ _ _ _ _ ?_
    have e : y.drop i = [] := by rw [List.drop_eq_nil_iff]; omega
    simp only [Bool.cond_decide]
    rw [if_neg (by omega), e]; simp [hullS]
  | succ d ih =>
    intro i hi t ht
    refine L_law15_value_0_of _ _ _ _ _ _ ?_
    have hlt : i < y.length := by omega
    have hlw : i < w.length := by omega
    have hr := hy _ (List.getElem_mem hlt)
    have hwi := hw _ (List.getElem_mem hlw)
    obtain ⟨b0, b1, b2⟩ := dpt_b hn hr
    have e : dpt n y[i] = n.c0 * y[i].c0 + n.c1 * y[i].c2 + n.c2 * y[i].c4 := rfl
    have hp := mul_bd (x := w[i]) (y := dpt n y[i]) (m := 9) (n := 13194139533312) (by omega) (by omega) (by omega) (by omega)
    simp only [Bool.cond_decide, letIn, nth_at hlt, nth_at hlw, Option.bind_some, wi (show i ≤ 1152921504606846976 by omega)]
    simp only [if_pos (show (0 : Int) ≤ (i : Int) by omega)]
    rw [if_pos (by omega), w64 (n := n.c0 * y[i].c0) (by omega), w64 (n := n.c1 * y[i].c2) (by omega), w64 (n := n.c2 * y[i].c4) (by omega), w64 (n := n.c0 * y[i].c0 + n.c1 * y[i].c2) (by omega), w64 (n := n.c0 * y[i].c0 + n.c1 * y[i].c2 + n.c2 * y[i].c4) (by omega), ← e]
    rw [w64 (n := w[i] * dpt n y[i]) (by omega), w64 (n := t + w[i] * dpt n y[i]) (by omega), ih (i + 1) (by omega) _ (by omega), drop_at hlt, drop_at hlw]
    simp only [hullS, Int.add_assoc]
theorem s_law15_value (n : I3) (y : List I6) (w : List Int) (hn : Fit3 n) (hy : AllR y) (hw : ∀ z ∈ w, 0 ≤ z ∧ z ≤ 9) (hl : w.length = y.length) (h8 : y.length ≤ 8) : F_law15_value n y w = some (hullS n y w) := F_law15_value_of n y w _ (by
  have h0 := s_value_0 w y n hn hy hw hl h8 y.length 0 (by omega) 0 (by omega)
  simp only [Int.natCast_zero, List.drop_zero, Int.zero_add] at h0
  rw [h0]; rfl)
theorem s_make_Normal (a b c : Int) : Ans (F_make_Normal a b c) UsableP := Ans.of (F_make_Normal_of a b c) (by
  simp only [letIn, s_ref10_Usable, Option.bind_some]
  have one : UsableP ⟨1, 0, 0⟩ := by decide
  refine Ans.bind (s_make_Round (by omega) (by omega)) fun y4 h4 => ?_
  refine Ans.bind (s_make_Round (by omega) (by omega)) fun y6 h6 => ?_
  refine Ans.bind (s_make_Round (by omega) (by omega)) fun y8 h8 => ?_
  have key : ∀ v : I3, Ans (bif !decide (UsableP v) then some (I3.mk 1 0 0) else some v) UsableP := by
    intro v
    by_cases h : UsableP v
    · simp only [h, decide_true, Bool.not_true, cond_false]; exact Ans.ret h
    · simp only [h, decide_false, Bool.not_false, cond_true]; exact Ans.ret one
  cases (IntKind.wrap .i64 ((BitVec.ofInt 64 a &&& BitVec.ofInt 64 8).toNat : Nat) == 8 : Bool) with
  | true =>
    rw [cond_true]
    refine Ans.bind (s_make_Round (by omega) (by omega)) fun y11 h11 => ?_
    refine Ans.bind (s_make_Round (by omega) (by omega)) fun y13 h13 => ?_
    refine Ans.bind (s_make_Round (by omega) (by omega)) fun y15 h15 => ?_
    exact key _
  | false => exact key _)
theorem rb' {n k : Nat} (h : n * k ≤ reachBytes) (hk : 1 ≤ k) : n ≤ 1152921504606846976 := by
  have e : reachBytes = 140737488351232 := by decide
  have : n * 1 ≤ n * k := Nat.mul_le_mul_left n hk
  omega
theorem lst_le (f : I6 → Int) : ∀ (l : List I6) (b a i : Int), (lst f b a i l).1 ≤ b ∧ ∀ x ∈ l, (lst f b a i l).1 ≤ f x
  | [], b, a, i => ⟨Int.le_refl _, fun x hx => by cases hx⟩
  | x :: l, b, a, i => by
    simp only [lst]
    split
    · rename_i h
      obtain ⟨p, q⟩ := lst_le f l (f x) i (i + 1)
      exact ⟨by omega, List.forall_mem_cons.2 ⟨p, q⟩⟩
    · rename_i h
      obtain ⟨p, q⟩ := lst_le f l b a (i + 1)
      exact ⟨p, List.forall_mem_cons.2 ⟨by omega, q⟩⟩
theorem lstS_le {n : I3} {l : List I6} : ∀ x ∈ l, (lstS n l).1 ≤ dlo n x := (lst_le (dlo n) l _ 0 0).2
theorem gstS_ge {n : I3} {l : List I6} : ∀ x ∈ l, dhi n x ≤ (gstS n l).1 := fun x hx => by
  have := (lst_le (fun x => -dhi n x) l (-dhi n (hd6 l)) 0 0).2 x hx
  rw [gstS_eq]; dsimp only at this ⊢; omega
theorem d1_ch {k a b x y : Int} (h : ChC a b x y) : dl1 k x y ≤ k * a ∧ k * a ≤ dh1 k x y ∧ dl1 k a b = k * a ∧ dh1 k a b = k * a := by
  obtain ⟨rfl, h1, h2⟩ := h
  have := lin (y := k) h1 h2
  rw [Int.mul_comm x k, Int.mul_comm y k, Int.mul_comm a k] at this
  exact ⟨this.1, this.2, mn_self _, mx_self _⟩
theorem d_ch {n : I3} {y x : I6} (h : ChPt y x) : dlo n x ≤ dpt n y ∧ dpt n y ≤ dhi n x ∧ dlo n y = dpt n y ∧ dhi n y = dpt n y := by
  have h1 := d1_ch (k := n.c0) h.1; have h2 := d1_ch (k := n.c1) h.2.1; have h3 := d1_ch (k := n.c2) h.2.2
  unfold dlo dhi dpt
  omega
theorem Chs.mem : ∀ {r l : List I6}, Chs r l → ∀ y ∈ r, ∃ x ∈ l, ChPt y x
  | a :: r, b :: l, h, y, hy => by
    rcases List.mem_cons.1 hy with rfl | hy
    · exact ⟨b, by simp, h.1⟩
    · obtain ⟨x, hx, k⟩ := Chs.mem h.2 y hy
      exact ⟨x, by simp [hx], k⟩
  | [], _, _, y, hy => by cases hy
  | _ :: _, [], h, _, _ => h.elim
theorem hs_ge {n : I3} {p : Int} : ∀ {ys : List I6} {ws : List Int}, (∀ y ∈ ys, p ≤ dpt n y) → (∀ w ∈ ws, 0 ≤ w) → ws.length = ys.length → p * ws.sum ≤ hullS n ys ws
  | [], [], _, _, _ => by simp [hullS]
  | y :: ys, w :: ws, hy, hw, hl => by
    have ih := hs_ge (n := n) (p := p) (ys := ys) (ws := ws) (fun z hz => hy z (by simp [hz])) (fun z hz => hw z (by simp [hz])) (by simpa using hl)
    have m := Int.mul_le_mul_of_nonneg_left (hy y (by simp)) (hw w (by simp))
    simp only [hullS, List.sum_cons, Int.mul_add]
    rw [Int.mul_comm p w]; omega
  | [], _ :: _, _, _, hl => by simp at hl
  | _ :: _, [], _, _, hl => by simp at hl
theorem hs_le {n : I3} {p : Int} : ∀ {ys : List I6} {ws : List Int}, (∀ y ∈ ys, dpt n y ≤ p) → (∀ w ∈ ws, 0 ≤ w) → ws.length = ys.length → hullS n ys ws ≤ p * ws.sum
  | [], [], _, _, _ => by simp [hullS]
  | y :: ys, w :: ws, hy, hw, hl => by
    have ih := hs_le (n := n) (p := p) (ys := ys) (ws := ws) (fun z hz => hy z (by simp [hz])) (fun z hz => hw z (by simp [hz])) (by simpa using hl)
    have m := Int.mul_le_mul_of_nonneg_left (hy y (by simp)) (hw w (by simp))
    simp only [hullS, List.sum_cons, Int.mul_add]
    rw [Int.mul_comm p w]; omega
  | [], _ :: _, _, _, hl => by simp at hl
  | _ :: _, [], _, _, hl => by simp at hl
theorem law_law15_PlaneSound (l m o r w v : List Int) (x y z p q : Int) (h3 : l.length * 8 ≤ reachBytes) (b3 : ∀ x ∈ l, BI x) (h4 : m.length * 8 ≤ reachBytes) (b4 : ∀ x ∈ m, BI x) (h5 : o.length * 8 ≤ reachBytes) (b5 : ∀ x ∈ o, BI x) (h6 : r.length * 8 ≤ reachBytes) (b6 : ∀ x ∈ r, BI x) (h7 : w.length * 8 ≤ reachBytes) (b7 : ∀ x ∈ w, BI x) (h8 : v.length * 8 ≤ reachBytes) (b8 : ∀ x ∈ v, BI x) (hx : I64 x) (hy : I64 y) (hz : I64 z) (hp : I64 p) (hq : I64 q) : F_law15_PlaneSound l m o r w v x y z p q = some true := F_law15_PlaneSound_of l m o r w v x y z p q _ (by
  obtain ⟨n, hn, un⟩ := s_make_Normal x y z
  obtain ⟨a, ha, pa⟩ := s_make_Points l (rb' h3 (by omega)) (w := 3000) (by omega)
  obtain ⟨b, hb, pb⟩ := s_make_Points m (rb' h4 (by omega)) (w := 3000) (by omega)
  obtain ⟨r1, h1, c1⟩ := s_law15_radius p
  obtain ⟨r2, h2, c2⟩ := s_law15_radius q
  have qa := placed_of (by omega) pa
  have qb := placed_of (by omega) pb
  obtain ⟨c, hc, kc⟩ := s_make_Chosen a qa.1 qa.2.2 o (rb' h5 (by omega))
  obtain ⟨d, hd, kd⟩ := s_make_Chosen b qb.1 qb.2.2 r (rb' h6 (by omega))
  have hcl := kc.length
  have hdl := kd.length
  obtain ⟨s, hs, sl, sb, ss1, ss2⟩ := s_make_Weights a.length (by omega) w (rb' h7 (by omega))
  obtain ⟨t, ht, tl, tb, ts1, ts2⟩ := s_make_Weights b.length (by omega) v (rb' h8 (by omega))
  have rc := kc.reach qa.1
  have rd := kd.reach qb.1
  have v1 := s_law15_value n c s un.1 rc sb (by omega) (by omega)
  have v2 := s_law15_value n d t un.1 rd tb (by omega) (by omega)
  have tot1 := s_make_Total s (fun z hz => ⟨(sb z hz).1, by have := (sb z hz).2; omega⟩) (by omega)
  have tot2 := s_make_Total t (fun z hz => ⟨(tb z hz).1, by have := (tb z hz).2; omega⟩) (by omega)
  have s0 : ∀ z ∈ s, 0 ≤ z := fun z hz => (sb z hz).1
  have t0 : ∀ z ∈ t, 0 ≤ z := fun z hz => (tb z hz).1
  have pick1 : ∀ z ∈ c, (lstS n a).1 ≤ dpt n z ∧ dpt n z ≤ (gstS n a).1 := fun z hz => by
    obtain ⟨u, hu, k⟩ := kc.mem z hz
    have := lstS_le (n := n) u hu
    have := gstS_ge (n := n) u hu
    have := d_ch (n := n) k
    omega
  have pick2 : ∀ z ∈ d, (lstS n b).1 ≤ dpt n z ∧ dpt n z ≤ (gstS n b).1 := fun z hz => by
    obtain ⟨u, hu, k⟩ := kd.mem z hz
    have := lstS_le (n := n) u hu
    have := gstS_ge (n := n) u hu
    have := d_ch (n := n) k
    omega
  have lo1 := hs_ge (n := n) (ys := c) (ws := s) (fun z hz => (pick1 z hz).1) s0 (by omega)
  have hi1 := hs_le (n := n) (ys := c) (ws := s) (fun z hz => (pick1 z hz).2) s0 (by omega)
  have lo2 := hs_ge (n := n) (ys := d) (ws := t) (fun z hz => (pick2 z hz).1) t0 (by omega)
  have hi2 := hs_le (n := n) (ys := d) (ws := t) (fun z hz => (pick2 z hz).2) t0 (by omega)
  have A1 := lstS_b un qa; have A2 := gstS_b un qa; have A3 := lstS_b un qb; have A4 := gstS_b un qb
  have nrb := nr_b n c1 c2
  have hm : marg n a r1 b r2 = (lstS n a).1 - (gstS n b).1 - normS n * (r1 + r2) := rfl
  have m1 := mul_bd (x := (lstS n a).1) (y := s.sum) (m := 13194139533312) (n := 65) (by omega) (by omega) (by omega) (by omega)
  have m2 := mul_bd (x := (gstS n a).1) (y := s.sum) (m := 13194139533312) (n := 65) (by omega) (by omega) (by omega) (by omega)
  have m3 := mul_bd (x := (lstS n b).1) (y := t.sum) (m := 13194139533312) (n := 65) (by omega) (by omega) (by omega) (by omega)
  have m4 := mul_bd (x := (gstS n b).1) (y := t.sum) (m := 13194139533312) (n := 65) (by omega) (by omega) (by omega) (by omega)
  have m5 := mul_bd (x := hullS n c s) (y := t.sum) (m := 857619069665280) (n := 65) (by omega) (by omega) (by omega) (by omega)
  have m6 := mul_bd (x := hullS n d t) (y := s.sum) (m := 857619069665280) (n := 65) (by omega) (by omega) (by omega) (by omega)
  have k1 := Int.mul_le_mul_of_nonneg_right lo1 (show 0 ≤ t.sum by omega)
  have k2 := Int.mul_le_mul_of_nonneg_right hi2 (show 0 ≤ s.sum by omega)
  have d1 := mul_bd (x := (lstS n a).1 - (gstS n b).1) (y := s.sum) (m := 26388279066624) (n := 65) (by omega) (by omega) (by omega) (by omega)
  have d2 := mul_bd (x := ((lstS n a).1 - (gstS n b).1) * s.sum) (y := t.sum) (m := 1715238139330560) (n := 65) (by omega) (by omega) (by omega) (by omega)
  have e1 : marg n a r1 b r2 + normS n * (r1 + r2) = (lstS n a).1 - (gstS n b).1 := by omega
  have e2 : ((lstS n a).1 - (gstS n b).1) * s.sum * t.sum = (lstS n a).1 * s.sum * t.sum - (gstS n b).1 * t.sum * s.sum := by
    rw [Int.sub_mul, Int.sub_mul, Int.mul_assoc (gstS n b).1 s.sum t.sum, Int.mul_comm s.sum t.sum, ← Int.mul_assoc (gstS n b).1 t.sum s.sum]
  have c1' := c1; have c2' := c2
  unfold RadP at c1' c2'
  simp only [hn, ha, hb, hc, hd, hs, ht, h1, h2, v1, v2, tot1, tot2, marg_ok un qa c1 qb c2, s_ref10_Norm, law15_awake, Option.bind_some, letIn, cond_true]
  rw [w64 (n := hullS n c s * t.sum) (by omega), w64 (n := hullS n d t * s.sum) (by omega), w64 (n := r1 + r2) (by omega), w64 (n := normS n * (r1 + r2)) (by omega), e1, w64 (n := (lstS n a).1 - (gstS n b).1) (by omega), w64 (n := hullS n c s * t.sum - hullS n d t * s.sum) (by omega), w64 (n := ((lstS n a).1 - (gstS n b).1) * s.sum) (by omega), w64 (n := ((lstS n a).1 - (gstS n b).1) * s.sum * t.sum) (by omega), decide_eq_true (by omega)])
end Go.Proofs.Ytanjfmogmlgphaa.Am
