/- What the law law_law16_OverlapMonotone computes, without levels: it is true. -/
import Derived.Test.YtilffjjibcebmaaF0
import Derived.Test.YtilffjjibcebmaaAmRow2
import Derived.IntWalk
set_option linter.unusedVariables false
set_option linter.unusedSimpArgs false
set_option maxRecDepth 100000
namespace Go.Proofs.Ytilffjjibcebmaa.Am
open Go Go.IntWalk

theorem w64 {n : Int} (h : -9223372036854775808 ≤ n ∧ n ≤ 9223372036854775807) : IntKind.wrap .i64 n = n := i64_in n h
theorem den_const {α β : Type} {e : β → α} (inj : ∀ a b, e a = e b → a = b) {x : Nat → Option α} (k : Nat) {r : β} (h : ∀ n, x (n + k) = some (e r)) : den e x = some r :=
  den_of inj k (y := some r) (fun r' hr => by cases hr; exact ⟨0, fun n _ => h n⟩) rfl
theorem mul_bd {x y : Int} {m n : Nat} (hx0 : -(m : Int) ≤ x) (hx1 : x ≤ m) (hy0 : -(n : Int) ≤ y) (hy1 : y ≤ n) : -((m * n : Nat) : Int) ≤ x * y ∧ x * y ≤ ((m * n : Nat) : Int) := by
  have h : (x * y).natAbs ≤ m * n := by
    rw [Int.natAbs_mul]; exact Nat.mul_le_mul (by omega) (by omega)
  omega
theorem ediv_uniq {a b q : Int} (hb : 0 < b) (h0 : q * b ≤ a) (h1 : a < (q + 1) * b) : a / b = q := by
  have h2 : q ≤ a / b := (Int.le_ediv_iff_mul_le hb).2 h0
  have h3 : a / b < q + 1 := (Int.ediv_lt_iff_lt_mul hb).2 h1
  omega
theorem tdiv_pos_eq {a b : Int} (ha : 0 ≤ a) : Int.tdiv a b = a / b := Int.tdiv_eq_ediv_of_nonneg ha
theorem sq_le {a b : Int} (ha : 0 ≤ a) (h : a ≤ b) : a * a ≤ b * b := Int.mul_le_mul h h ha (by omega)
/-- the quotient rounded up -/
def cdiv (a b : Int) : Int := -((-a) / b)
def cw : Nat → I6 → Int
  | 0, x => x.c0
  | 1, x => x.c2
  | _, x => x.c4
def ch : Nat → I6 → Int
  | 0, x => x.c1
  | 1, x => x.c3
  | _, x => x.c5
def mn (x y : Int) : Int := if y < x then y else x
def mx (x y : Int) : Int := if y > x then y else x
def hull6 (c x : I6) : I6 := ⟨mn c.c0 x.c0, mx c.c1 x.c1, mn c.c2 x.c2, mx c.c3 x.c3, mn c.c4 x.c4, mx c.c5 x.c5⟩
theorem cw_hull (k : Nat) (c x : I6) : cw k (hull6 c x) = mn (cw k c) (cw k x) := by
  match k with
  | 0 => rfl
  | 1 => rfl
  | _ + 2 => rfl
theorem ch_hull (k : Nat) (c x : I6) : ch k (hull6 c x) = mx (ch k c) (ch k x) := by
  match k with
  | 0 => rfl
  | 1 => rfl
  | _ + 2 => rfl
def Reach (a b : Int) : Prop := -268435456 ≤ a ∧ a ≤ b ∧ b ≤ 268435456
instance Reach.dec (a b : Int) : Decidable (Reach a b) := by unfold Reach; exact inferInstance
def Reach6 (x : I6) : Prop := Reach x.c0 x.c1 ∧ Reach x.c2 x.c3 ∧ Reach x.c4 x.c5
instance Reach6.dec (x : I6) : Decidable (Reach6 x) := by unfold Reach6; exact inferInstance
def HB (l : List I6) (c p : I6) : Prop := Reach6 p ∧ ∀ k : Nat,
  ((cw k p = cw k c ∨ ∃ x ∈ l, cw k p = cw k x) ∧ cw k p ≤ cw k c ∧ ∀ x ∈ l, cw k p ≤ cw k x) ∧
  ((ch k p = ch k c ∨ ∃ x ∈ l, ch k p = ch k x) ∧ ch k c ≤ ch k p ∧ ∀ x ∈ l, ch k x ≤ ch k p)
def AllR (l : List I6) : Prop := ∀ x ∈ l, Reach6 x
instance AllR.dec (l : List I6) : Decidable (AllR l) := by unfold AllR; exact inferInstance
def AllW (w : List Int) : Prop := ∀ x ∈ w, 0 ≤ x ∧ x ≤ 65536
instance AllW.dec (w : List Int) : Decidable (AllW w) := by unfold AllW; exact inferInstance
theorem AllW.cons {x : Int} {l : List Int} : AllW (x :: l) ↔ (0 ≤ x ∧ x ≤ 65536) ∧ AllW l := by simp [AllW]
theorem AllR.cons {x : I6} {l : List I6} : AllR (x :: l) ↔ Reach6 x ∧ AllR l := by simp [AllR]
theorem HB.cons {l : List I6} {c p x : I6} (h : HB l (hull6 c x) p) : HB (x :: l) c p := by
  refine ⟨h.1, fun k => ?_⟩
  obtain ⟨⟨a1, a2, a3⟩, b1, b2, b3⟩ := h.2 k
  rw [cw_hull] at a1 a2
  rw [ch_hull] at b1 b2
  unfold mn at a1 a2
  unfold mx at b1 b2
  refine ⟨⟨?_, ?_, ?_⟩, ?_, ?_, ?_⟩
  · rcases a1 with a1 | ⟨y, hy, e⟩
    · split at a1
      · first | exact .inl a1 | exact .inr ⟨x, List.mem_cons_self .., a1⟩
      · first | exact .inl a1 | exact .inr ⟨x, List.mem_cons_self .., a1⟩
    · exact .inr ⟨y, List.mem_cons_of_mem _ hy, e⟩
  · split at a2 <;> omega
  · intro y hy
    rcases List.mem_cons.1 hy with rfl | hy
    · split at a2 <;> omega
    · exact a3 y hy
  · rcases b1 with b1 | ⟨y, hy, e⟩
    · split at b1
      · first | exact .inl b1 | exact .inr ⟨x, List.mem_cons_self .., b1⟩
      · first | exact .inl b1 | exact .inr ⟨x, List.mem_cons_self .., b1⟩
    · exact .inr ⟨y, List.mem_cons_of_mem _ hy, e⟩
  · split at b2 <;> omega
  · intro y hy
    rcases List.mem_cons.1 hy with rfl | hy
    · split at b2 <;> omega
    · exact b3 y hy
theorem pb {x y : Int} (hx : -2147483648 ≤ x ∧ x ≤ 2147483648) (hy : -2147483648 ≤ y ∧ y ≤ 2147483648) : -4611686018427387904 ≤ x * y ∧ x * y ≤ 4611686018427387904 :=
  mul_bd (m := 2147483648) (n := 2147483648) hx.1 hx.2 hy.1 hy.2
theorem mx_self (x : Int) : mx x x = x := by unfold mx; split <;> rfl
/-- a valid interval -/
def V2 (a : I2) : Prop := -2147483648 ≤ a.c0 ∧ a.c0 ≤ a.c1 ∧ a.c1 ≤ 2147483648
instance V2.dec (a : I2) : Decidable (V2 a) := by unfold V2; exact inferInstance
def WithinI (a b : I2) : Prop := V2 a ∧ V2 b ∧ b.c0 ≤ a.c0 ∧ a.c1 ≤ b.c1
instance WithinI.dec (a b : I2) : Decidable (WithinI a b) := by unfold WithinI; exact inferInstance
theorem WithinI.mk {a0 a1 b0 b1 : Int} (h0 : -2147483648 ≤ b0) (h1 : b0 ≤ a0) (h2 : a0 ≤ a1) (h3 : a1 ≤ b1) (h4 : b1 ≤ 2147483648) : WithinI ⟨a0, a1⟩ ⟨b0, b1⟩ := by
  unfold WithinI V2; dsimp only; omega
theorem rb {n k : Nat} (h : n * k ≤ reachBytes) (hk : 1 ≤ k) : n ≤ 1152921504606846976 := by
  have e : reachBytes = 140737488351232 := by decide
  have : n * 1 ≤ n * k := Nat.mul_le_mul_left n hk
  omega
/-- all components within a bound -/
def In6 (b : Int) (c : I6) : Prop := (-b ≤ c.c0 ∧ c.c0 ≤ b) ∧ (-b ≤ c.c1 ∧ c.c1 ≤ b) ∧ (-b ≤ c.c2 ∧ c.c2 ≤ b) ∧ (-b ≤ c.c3 ∧ c.c3 ≤ b) ∧ (-b ≤ c.c4 ∧ c.c4 ≤ b) ∧ (-b ≤ c.c5 ∧ c.c5 ≤ b)
theorem In6.mono {a b : Int} (h : a ≤ b) {c : I6} (hc : In6 a c) : In6 b c := by unfold In6 at *; omega
def ChC (a b x y : Int) : Prop := a = b ∧ x ≤ a ∧ a ≤ y
def ChPt (y x : I6) : Prop := ChC y.c0 y.c1 x.c0 x.c1 ∧ ChC y.c2 y.c3 x.c2 x.c3 ∧ ChC y.c4 y.c5 x.c4 x.c5
def Chs : List I6 → List I6 → Prop
  | [], [] => True
  | y :: r, x :: l => ChPt y x ∧ Chs r l
  | _, _ => False
theorem Chs.length : ∀ {r l : List I6}, Chs r l → r.length = l.length
  | [], [], _ => rfl
  | y :: r, x :: l, h => by simp [Chs.length h.2]
  | [], _ :: _, h => h.elim
  | _ :: _, [], h => h.elim
def addw (c : I6) (w : Int) (x : I6) : I6 := ⟨c.c0 + w * x.c0, c.c1 + w * x.c1, c.c2 + w * x.c2, c.c3 + w * x.c3, c.c4 + w * x.c4, c.c5 + w * x.c5⟩
def comb (c : I6) : List I6 → List Int → I6
  | x :: l, w :: ws => comb (addw c w x) l ws
  | _, _ => c
theorem Reach6.in6 {x : I6} (h : Reach6 x) : In6 268435456 x := by unfold Reach6 Reach at h; unfold In6; omega
theorem pw {w x : Int} (hw : 0 ≤ w ∧ w ≤ 65536) (hx : -268435456 ≤ x ∧ x ≤ 268435456) : -17592186044416 ≤ w * x ∧ w * x ≤ 17592186044416 :=
  mul_bd (m := 65536) (n := 268435456) (by omega) (by omega) (by omega) (by omega)
theorem addw_in {b : Int} {c x : I6} {w : Int} (hc : In6 b c) (hx : In6 268435456 x) (hw : 0 ≤ w ∧ w ≤ 65536) : In6 (b + 17592186044416) (addw c w x) := by
  obtain ⟨x0, x1, x2, x3, x4, x5⟩ := hx
  have p0 := pw hw x0; have p1 := pw hw x1; have p2 := pw hw x2; have p3 := pw hw x3; have p4 := pw hw x4; have p5 := pw hw x5
  unfold In6 at hc; unfold In6 addw; dsimp only
  generalize w * x.c0 = y0 at *; generalize w * x.c1 = y1 at *; generalize w * x.c2 = y2 at *; generalize w * x.c3 = y3 at *; generalize w * x.c4 = y4 at *; generalize w * x.c5 = y5 at *
  omega
theorem comb_in : ∀ {l : List I6} {w : List Int} {b : Int} {c : I6}, AllR l → AllW w → In6 b c → 0 ≤ b → In6 (b + 17592186044416 * (l.length : Int)) (comb c l w)
  | [], w, b, c, _, _, hc, hb => by simp only [comb]; exact hc.mono (by simp)
  | x :: l, [], b, c, _, _, hc, hb => by simp only [comb]; exact hc.mono (by omega)
  | x :: l, y :: w, b, c, hl, hw, hc, hb => by
    simp only [comb]
    rw [AllR.cons] at hl; rw [AllW.cons] at hw
    have := comb_in hl.2 hw.2 (addw_in hc hl.1.in6 hw.1) (by omega)
    refine this.mono ?_
    simp only [List.length_cons]; omega
def PlacedP (l : List I6) : Prop := AllR l ∧ 1 ≤ l.length ∧ l.length ≤ 8
instance PlacedP.dec (l : List I6) : Decidable (PlacedP l) := by unfold PlacedP; exact inferInstance
def WOk (w : List Int) : Prop := (∀ x ∈ w, 0 ≤ x) ∧ w.sum ≤ 65536
instance WOk.dec (w : List Int) : Decidable (WOk w) := by unfold WOk; exact inferInstance
def CombOk (l : List I6) (w : List Int) : Prop := PlacedP l ∧ w.length = l.length ∧ WOk w ∧ 1 ≤ w.sum
instance CombOk.dec (l : List I6) (w : List Int) : Decidable (CombOk l w) := by unfold CombOk; exact inferInstance
theorem combOk_of {x : List I6} {w : List Int} (hp : PlacedP x) (wl : w.length = x.length) (wb : ∀ y ∈ w, 0 ≤ y) (s1 : 1 ≤ w.sum) (s2 : w.sum ≤ 65536) : CombOk x w := ⟨hp, wl, ⟨wb, s2⟩, s1⟩
def Z6 : I6 := ⟨0, 0, 0, 0, 0, 0⟩
def combS (l : List I6) (w : List Int) : I6 × Int × Bool := if CombOk l w then (comb Z6 l w, w.sum, true) else (Z6, 0, false)
theorem combS_ok {x : List I6} {w : List Int} (h : CombOk x w) : combS x w = (comb Z6 x w, w.sum, true) := by unfold combS; rw [if_pos h]
theorem Chs.snoc : ∀ {r l : List I6} {y x : I6}, Chs r l → ChPt y x → Chs (r ++ [y]) (l ++ [x])
  | [], [], y, x, _, h => ⟨h, trivial⟩
  | a :: r, b :: l, y, x, h, k => ⟨h.1, Chs.snoc h.2 k⟩
  | [], _ :: _, _, _, h, _ => h.elim
  | _ :: _, [], _, _, h, _ => h.elim
/-- a made point: boxes of bounded width near the origin -/
def Pc (w a b : Int) : Prop := -327689 ≤ a ∧ a ≤ 327689 ∧ a ≤ b ∧ b ≤ a + w
def Pt (w : Int) (x : I6) : Prop := Pc w x.c0 x.c1 ∧ Pc w x.c2 x.c3 ∧ Pc w x.c4 x.c5
theorem Pt.reach {w : Int} (hw : w ≤ 1048576) {x : I6} (h : Pt w x) : Reach6 x := by unfold Pt Pc at h; unfold Reach6 Reach; omega
theorem Chs.reach : ∀ {r l : List I6}, Chs r l → AllR l → AllR r
  | [], [], _, _ => by simp [AllR]
  | y :: r, x :: l, h, hl => by
    rw [AllR.cons] at hl ⊢
    refine ⟨?_, Chs.reach h.2 hl.2⟩
    have h1 := h.1; have h2 := hl.1
    unfold ChPt ChC at h1; unfold Reach6 Reach at h2 ⊢; omega
  | [], _ :: _, h, _ => h.elim
  | _ :: _, [], h, _ => h.elim
theorem s_make_Round {n k : Int} (hk : 0 < k) (hk2 : k ≤ 4611686018427387904) : Ans (F_make_Round n k) (fun r => 0 ≤ r ∧ r < k) := Ans.of (F_make_Round_of n k) (by
  have hne : (k == 0) = false := by simp; omega
  simp only [hne, cond_false, letIn, Bool.cond_decide]
  have h1 := Int.tmod_lt_of_pos n hk
  have h2 : -k < Int.tmod n k := by
    have := Int.neg_tmod n k
    have h3 := Int.tmod_lt_of_pos (-n) hk
    omega
  by_cases h : Int.tmod n k < 0
  · rw [if_pos h, w64 (by omega)]; exact Ans.ret (by omega)
  · rw [if_neg h]; exact Ans.ret (by omega))
theorem s_part_ch {a b m n : Int} (h : Reach a b) : Ans (F_make_Part (I2.mk a b) m 0) (fun r => ChC r.c0 r.c1 a b) := Ans.of (F_make_Part_of _ m 0) (by
  unfold Reach at h
  simp only [letIn]
  rw [w64 (n := b - a) (by omega), w64 (n := b - a + 1) (by omega)]
  refine Ans.bind (s_make_Round (by omega) (by omega)) fun y hy => ?_
  rw [w64 (n := a + y) (by omega)]
  have e : (IntKind.wrap .i64 ((BitVec.ofInt 64 0 &&& BitVec.ofInt 64 1).toNat : Nat) == 0 : Bool) = true := by decide
  rw [e, cond_true]
  exact Ans.ret ⟨rfl, by dsimp only; omega, by dsimp only; omega⟩)
def SrcOk (c : LI_I) : Prop := 0 ≤ c.c1 ∧ c.c1 ≤ c.c0.length ∧ c.c0.length ≤ 1152921504606846976
theorem s_make_Next {k : Int} (hk : 0 < k) (hk2 : k ≤ 4611686018427387904) {c : LI_I} (hc : SrcOk c) : Ans (F_make_Source_Next k c) (fun y => (0 ≤ y.1 ∧ y.1 < k) ∧ SrcOk y.2) := Ans.of (F_make_Source_Next_of k c) (by
  obtain ⟨h0, h1, h2⟩ := hc
  simp only [letIn, Bool.cond_decide]
  by_cases h : c.c1 ≥ ((c.c0.length : Nat) : Int)
  · rw [if_pos h]; exact Ans.ret ⟨by dsimp only; omega, h0, h1, h2⟩
  · rw [if_neg h, w64 (n := c.c1 + 1) (by omega), w64 (n := c.c1 + 1 - 1) (by omega), if_pos (by omega)]
    rw [nth_of_lt (l := c.c0) (i := (c.c1 + 1 - 1).toNat) (by omega)]
    simp only [Option.bind_some]
    refine Ans.bind (s_make_Round hk hk2) fun y hy => Ans.ret ⟨hy, ?_⟩
    unfold SrcOk; dsimp only; omega)
theorem nth_at {α : Type} {l : List α} {i : Nat} (h : i < l.length) : nth l (Int.toNat ((i : Nat) : Int)) = some l[i] := by
  rw [Int.toNat_natCast]; exact nth_of_lt h
theorem wi {i : Nat} (h : i ≤ 1152921504606846976) : IntKind.wrap .i64 (((i : Nat) : Int) + 1) = ((i + 1 : Nat) : Int) := by
  rw [w64 (by omega)]; omega
theorem s_make_Chosen_0 (l : List I6) (hl : AllR l) (h8 : l.length ≤ 8) : ∀ (d i : Nat), i + d = l.length → ∀ (c : LI_I) (es : List I6), SrcOk c → Chs es (l.take i) →
    Ans (L_make_Chosen_0 l ((i : Nat) : Int) c es) (fun r => Chs r l) := by
  intro d
  induction d with
  | zero =>
    intro i hi c es hc he
    refine Ans.of (L_make_Chosen_0_of _ _ _ _) ?_
    simp only [Bool.cond_decide]
    rw [if_neg (by omega)]
    rw [List.take_of_length_le (by omega)] at he
    exact Ans.ret he
  | succ d ih =>
    intro i hi c es hc he
    refine Ans.of (L_make_Chosen_0_of _ _ _ _) ?_
    have hlt : i < l.length := by omega
    have hr := hl _ (List.getElem_mem hlt)
    simp only [Bool.cond_decide, letIn]
    rw [if_pos (by omega)]
    refine Ans.bind (Q := fun p => p.1 = l ∧ p.2.1 = ((i : Nat) : Int) ∧ SrcOk p.2.2.1 ∧ p.2.2.2.1 = es ∧ ChPt p.2.2.2.2 l[i]) ?_ ?_
    · simp only [nth_at hlt, Option.bind_some, if_pos (show (0 : Int) ≤ (i : Int) by omega)]
      refine Ans.bind (s_make_Next (by omega) (by omega) hc) fun y1 h1 => ?_
      refine Ans.bind (s_part_ch (n := 0) hr.1) fun z1 k1 => ?_
      refine Ans.bind (s_make_Next (by omega) (by omega) h1.2) fun y2 h2 => ?_
      refine Ans.bind (s_part_ch (n := 0) hr.2.1) fun z2 k2 => ?_
      refine Ans.bind (s_make_Next (by omega) (by omega) h2.2) fun y3 h3 => ?_
      refine Ans.bind (s_part_ch (n := 0) hr.2.2) fun z3 k3 => ?_
      exact Ans.ret ⟨rfl, rfl, h3.2, rfl, k1, k2, k3⟩
    · rintro ⟨p1, p2, p3, p4, p5⟩ ⟨e1, e2, hs, e4, hp⟩
      dsimp only at e1 e2 hs e4 hp ⊢
      subst e1 e2 e4
      have hel := he.length
      rw [List.length_take] at hel
      rw [if_pos (by omega), wi (by omega)]
      refine ih (i + 1) (by omega) _ _ hs ?_
      rw [List.take_succ_eq_append_getElem hlt]
      exact he.snoc hp
theorem s_make_From (l : List Int) (hl : l.length ≤ 1152921504606846976) : Ans (F_make_From l) SrcOk := Ans.of (F_make_From_of l) (Ans.ret (by unfold SrcOk; dsimp only; omega))
theorem s_make_Chosen (l : List I6) (hl : AllR l) (h8 : l.length ≤ 8) (m : List Int) (hm : m.length ≤ 1152921504606846976) : Ans (F_make_Chosen l m) (fun r => Chs r l) := Ans.of (F_make_Chosen_of l m) (by
  refine Ans.bind (s_make_From m hm) fun y0 h0 => ?_
  refine Ans.bind (s_make_Chosen_0 l hl h8 l.length 0 (by omega) y0 [] h0 (by simp [Chs])) fun r hr => Ans.ret hr)
theorem comb_ch : ∀ {r l : List I6} {w : List Int} {c d : I6}, Chs r l → (∀ x ∈ w, 0 ≤ x) → ChPt c d → ChPt (comb c r w) (comb d l w)
  | [], [], w, c, d, _, _, h => by simp only [comb]; exact h
  | y :: r, x :: l, [], c, d, _, _, h => by simp only [comb]; exact h
  | y :: r, x :: l, v :: w, c, d, hr, hw, h => by
    simp only [comb]
    have hv := hw v (by simp)
    refine comb_ch hr.2 (fun z hz => hw z (by simp [hz])) ?_
    have key : ∀ {a b p q a' b' p' q' : Int}, ChC a b p q → ChC a' b' p' q' → ChC (a + v * a') (b + v * b') (p + v * p') (q + v * q') := by
      intro a b p q a' b' p' q' h1 h2
      have m1 := Int.mul_le_mul_of_nonneg_left h2.2.1 hv
      have m2 := Int.mul_le_mul_of_nonneg_left h2.2.2 hv
      obtain ⟨e1, f1, g1⟩ := h1
      obtain ⟨e2, f2, g2⟩ := h2
      subst e1 e2
      exact ⟨rfl, by omega, by omega⟩
    exact ⟨key h.1 hr.1.1, key h.2.1 hr.1.2.1, key h.2.2 hr.1.2.2⟩
  | [], _ :: _, _, _, _, h, _, _ => h.elim
  | _ :: _, [], _, _, _, h, _, _ => h.elim
theorem drop_at {α : Type} {l : List α} {i : Nat} (h : i < l.length) : l.drop i = l[i] :: l.drop (i + 1) := List.drop_eq_getElem_cons h
theorem s_make_Total_0 (w : List Int) (hw : ∀ x ∈ w, 0 ≤ x ∧ x ≤ 1000000000) (h8 : w.length ≤ 1000) : ∀ (d i : Nat), i + d = w.length → ∀ (t : Int), 0 ≤ t ∧ t ≤ 1000000000 * i →
    L_make_Total_0 w t ((i : Nat) : Int) = some (t + (w.drop i).sum) := by
  intro d
  induction d with
  | zero =>
    intro i hi t ht
    refine L_make_Total_0_of _ _ _ _ ?_
    have e2 : w.drop i = [] := by rw [List.drop_eq_nil_iff]; omega
    simp only [Bool.cond_decide]
    rw [if_neg (by omega), e2]; simp
  | succ d ih =>
    intro i hi t ht
    refine L_make_Total_0_of _ _ _ _ ?_
    have hlt : i < w.length := by omega
    have hx := hw _ (List.getElem_mem hlt)
    simp only [Bool.cond_decide, letIn, Option.bind_some, nth_at hlt, wi (show i ≤ 1152921504606846976 by omega)]
    rw [if_pos (by omega), if_pos (by omega), w64 (n := t + w[i]) (by omega), ih (i + 1) (by omega) _ (by omega), drop_at hlt, List.sum_cons, Int.add_assoc]
theorem s_make_Total (w : List Int) (hw : ∀ x ∈ w, 0 ≤ x ∧ x ≤ 1000000000) (h8 : w.length ≤ 1000) : F_make_Total w = some w.sum := F_make_Total_of w _ (by
  have := s_make_Total_0 w hw h8 w.length 0 (by omega) 0 (by omega)
  simp only [Int.natCast_zero, List.drop_zero, Int.zero_add] at this
  rw [this]; rfl)
theorem s_make_Signed {k : Int} (hk : 0 ≤ k) (hk2 : k ≤ 1000000000000) {c : LI_I} (hc : SrcOk c) : Ans (F_make_Source_Signed k c) (fun y => (-k ≤ y.1 ∧ y.1 ≤ k) ∧ SrcOk y.2) := Ans.of (F_make_Source_Signed_of k c) (by
  simp only [letIn]
  rw [w64 (n := 2 * k) (by omega), w64 (n := 2 * k + 1) (by omega)]
  refine Ans.bind (s_make_Next (by omega) (by omega) hc) fun y hy => ?_
  rw [w64 (n := y.1 - k) (by omega)]
  exact Ans.ret ⟨by dsimp only; omega, hy.2⟩)
theorem pcw {w c a b e : Int} (hw : 0 ≤ w ∧ w ≤ 1048576) (hc : -196608 ≤ c ∧ c ≤ 196608) (ha : -4 ≤ a ∧ a ≤ 4) (hb : -9 ≤ b ∧ b ≤ 9) (he : 0 ≤ e ∧ e < w + 1) :
    Pc w (IntKind.wrap .i64 (IntKind.wrap .i64 (c + IntKind.wrap .i64 (a * 32768)) + b)) (IntKind.wrap .i64 (IntKind.wrap .i64 (IntKind.wrap .i64 (c + IntKind.wrap .i64 (a * 32768)) + b) + e)) := by
  rw [w64 (n := a * 32768) (by omega), w64 (n := c + a * 32768) (by omega), w64 (n := c + a * 32768 + b) (by omega), w64 (n := c + a * 32768 + b + e) (by omega)]
  unfold Pc; omega
theorem s_make_Points_0 {w : Int} (hw : 0 ≤ w ∧ w ≤ 1048576) (o : I3) (ho : (-196608 ≤ o.c0 ∧ o.c0 ≤ 196608) ∧ (-196608 ≤ o.c1 ∧ o.c1 ≤ 196608) ∧ (-196608 ≤ o.c2 ∧ o.c2 ≤ 196608)) : ∀ (n : Nat) (c : LI_I) (es : List I6), n + es.length ≤ 5 → SrcOk c → (∀ x ∈ es, Pt w x) →
    Ans (L_make_Points_0 w ((n : Nat) : Int) c o es) (fun r => r.length = es.length + n ∧ ∀ x ∈ r, Pt w x) := by
  intro n
  induction n with
  | zero =>
    intro c es hn hc he
    refine Ans.of (L_make_Points_0_of _ _ _ _ _) ?_
    simp only [Bool.cond_decide]
    rw [if_neg (by omega)]
    exact Ans.ret ⟨by omega, he⟩
  | succ n ih =>
    intro c es hn hc he
    refine Ans.of (L_make_Points_0_of _ _ _ _ _) ?_
    simp only [Bool.cond_decide, letIn]
    rw [if_pos (by omega), w64 (n := w + 1) (by omega)]
    refine Ans.bind (Q := fun p => p.1 = w ∧ p.2.1 = ((n + 1 : Nat) : Int) ∧ SrcOk p.2.2.1 ∧ p.2.2.2.1 = o ∧ p.2.2.2.2.1 = es ∧ Pt w p.2.2.2.2.2) ?_ ?_
    · refine Ans.bind (s_make_Signed (by omega) (by omega) hc) fun y1 h1 => ?_
      refine Ans.bind (s_make_Signed (by omega) (by omega) h1.2) fun y2 h2 => ?_
      refine Ans.bind (s_make_Next (by omega) (by omega) h2.2) fun y3 h3 => ?_
      refine Ans.bind (s_make_Signed (by omega) (by omega) h3.2) fun y4 h4 => ?_
      refine Ans.bind (s_make_Signed (by omega) (by omega) h4.2) fun y5 h5 => ?_
      refine Ans.bind (s_make_Next (by omega) (by omega) h5.2) fun y6 h6 => ?_
      refine Ans.bind (s_make_Signed (by omega) (by omega) h6.2) fun y7 h7 => ?_
      refine Ans.bind (s_make_Signed (by omega) (by omega) h7.2) fun y8 h8 => ?_
      refine Ans.bind (s_make_Next (by omega) (by omega) h8.2) fun y9 h9 => ?_
      refine Ans.ret ⟨rfl, rfl, h9.2, rfl, rfl, ?_⟩
      exact ⟨pcw hw ho.1 h1.1 h2.1 h3.1, pcw hw ho.2.1 h4.1 h5.1 h6.1, pcw hw ho.2.2 h7.1 h8.1 h9.1⟩
    · rintro ⟨p1, p2, p3, p4, p5, p6⟩ ⟨e1, e2, hs, e4, e5, hp⟩
      dsimp only at e1 e2 hs e4 e5 hp ⊢
      subst e1 e2 e4 e5
      rw [if_pos (by omega), w64 (n := ((n + 1 : Nat) : Int) - 1) (by omega), show ((n + 1 : Nat) : Int) - 1 = ((n : Nat) : Int) by omega]
      refine (ih p3 (p5 ++ [p6]) (by simp; omega) hs ?_).mono fun r hr => ⟨by rw [hr.1]; simp; omega, hr.2⟩
      intro x hx
      rcases List.mem_append.1 hx with hx | hx
      · exact he x hx
      · simp at hx; subst hx; exact hp
theorem s_make_Points (l : List Int) (hl : l.length ≤ 1152921504606846976) {w : Int} (hw : 0 ≤ w ∧ w ≤ 1048576) : Ans (F_make_Points l w) (fun r => (1 ≤ r.length ∧ r.length ≤ 5) ∧ ∀ x ∈ r, Pt w x) := Ans.of (F_make_Points_of l w) (by
  simp only [letIn]
  refine Ans.bind (s_make_From l hl) fun y0 h0 => ?_
  refine Ans.bind (s_make_Signed (by omega) (by omega) h0) fun y1 h1 => ?_
  refine Ans.bind (s_make_Signed (by omega) (by omega) h1.2) fun y2 h2 => ?_
  refine Ans.bind (s_make_Signed (by omega) (by omega) h2.2) fun y3 h3 => ?_
  refine Ans.bind (s_make_Next (by omega) (by omega) h3.2) fun y4 h4 => ?_
  rw [w64 (n := y1.1 * 32768) (by omega), w64 (n := y2.1 * 32768) (by omega), w64 (n := y3.1 * 32768) (by omega), w64 (n := 1 + y4.1) (by omega)]
  obtain ⟨n, hn⟩ : ∃ n : Nat, 1 + y4.1 = ((n : Nat) : Int) := ⟨(1 + y4.1).toNat, by omega⟩
  rw [hn]
  refine Ans.bind (s_make_Points_0 hw ⟨y1.1 * 32768, y2.1 * 32768, y3.1 * 32768⟩ (by dsimp only; omega) n y4.2 [] (by simp; omega) h4.2 (by simp)) fun r hr => ?_
  exact Ans.ret ⟨by have := hr.1; simp at this; omega, hr.2⟩)
theorem placed_of {w : Int} (hw : w ≤ 1048576) {l : List I6} (h : (1 ≤ l.length ∧ l.length ≤ 5) ∧ ∀ x ∈ l, Pt w x) : PlacedP l :=
  ⟨fun x hx => (h.2 x hx).reach hw, h.1.1, by omega⟩
theorem upd_sum : ∀ {l : List Int} {i : Nat} {x y : Int}, nth l i = some x → (upd l i y).sum = l.sum - x + y
  | a :: l, 0, x, y, h => by simp only [nth, Option.some.injEq] at h; subst h; simp only [upd, List.sum_cons]; omega
  | a :: l, i + 1, x, y, h => by
    simp only [nth] at h
    have := upd_sum (y := y) h
    simp only [upd, List.sum_cons, this]; omega
theorem upd_mem : ∀ {l : List Int} {i : Nat} {y z : Int}, z ∈ upd l i y → z ∈ l ∨ z = y
  | a :: l, 0, y, z, h => by
    simp only [upd, List.mem_cons] at h
    rcases h with h | h
    · exact .inr h
    · exact .inl (by simp [h])
  | a :: l, i + 1, y, z, h => by
    simp only [upd, List.mem_cons] at h
    rcases h with h | h
    · exact .inl (by simp [h])
    · rcases upd_mem h with h | h
      · exact .inl (by simp [h])
      · exact .inr h
theorem sum_le : ∀ {l : List Int} {b : Int}, (∀ x ∈ l, x ≤ b) → l.sum ≤ b * l.length
  | [], b, _ => by simp
  | x :: l, b, h => by
    have := sum_le (l := l) (b := b) fun y hy => h y (by simp [hy])
    have := h x (by simp)
    simp only [List.sum_cons, List.length_cons]
    have e : b * ((l.length + 1 : Nat) : Int) = b * (l.length : Int) + b := by rw [Int.natCast_add, Int.mul_add]; simp
    rw [e]; omega
theorem s_make_Weights_0 (m : Nat) (hm : m ≤ 8) : ∀ (d i : Nat), i + d = m → ∀ (c : LI_I) (es : List Int), SrcOk c → es.length = i → (∀ x ∈ es, 0 ≤ x ∧ x ≤ 8) →
    Ans (L_make_Weights_0 ((m : Nat) : Int) ((i : Nat) : Int) c es) (fun r => r.1 = ((m : Nat) : Int) ∧ SrcOk r.2.1 ∧ r.2.2.length = m ∧ ∀ x ∈ r.2.2, 0 ≤ x ∧ x ≤ 8) := by
  intro d
  induction d with
  | zero =>
    intro i hi c es hc hl he
    refine Ans.of (L_make_Weights_0_of _ _ _ _) ?_
    simp only [Bool.cond_decide]
    rw [if_neg (by omega)]
    exact Ans.ret ⟨rfl, hc, by dsimp only; omega, he⟩
  | succ d ih =>
    intro i hi c es hc hl he
    refine Ans.of (L_make_Weights_0_of _ _ _ _) ?_
    simp only [Bool.cond_decide, letIn]
    rw [if_pos (by omega)]
    refine Ans.bind (s_make_Next (by omega) (by omega) hc) fun y hy => ?_
    rw [if_pos (by omega), wi (by omega)]
    refine ih (i + 1) (by omega) y.2 (es ++ [y.1]) hy.2 (by simp; omega) ?_
    intro x hx
    rcases List.mem_append.1 hx with hx | hx
    · exact he x hx
    · simp at hx; subst hx; omega
theorem sum_nonneg : ∀ {w : List Int}, (∀ x ∈ w, 0 ≤ x) → 0 ≤ w.sum
  | [], _ => by simp
  | x :: w, h => by
    have := sum_nonneg (w := w) fun y hy => h y (by simp [hy])
    have := h x (by simp)
    rw [List.sum_cons]; omega
theorem s_make_Weights (m : Nat) (hm : 1 ≤ m ∧ m ≤ 8) (l : List Int) (hl : l.length ≤ 1152921504606846976) : Ans (F_make_Weights ((m : Nat) : Int) l) (fun r => r.length = m ∧ (∀ x ∈ r, 0 ≤ x ∧ x ≤ 9) ∧ 1 ≤ r.sum ∧ r.sum ≤ 65) := Ans.of (F_make_Weights_of _ l) (by
  simp only [Bool.cond_decide, letIn]
  refine Ans.bind (s_make_From l hl) fun y0 h0 => ?_
  refine Ans.bind (s_make_Weights_0 m hm.2 m 0 (by omega) y0 [] h0 rfl (by simp)) ?_
  rintro ⟨p1, p2, p3⟩ ⟨rfl, h2, h3, h4⟩
  dsimp only at h2 h3 h4 ⊢
  rw [if_pos (by omega)]
  refine Ans.bind (s_make_Next (by omega) (by omega) h2) fun y hy => ?_
  rw [if_pos (by omega)]
  have hlt : y.1.toNat < p3.length := by omega
  have hx := h4 _ (List.getElem_mem hlt)
  rw [nth_of_lt hlt]
  simp only [Option.bind_some, if_pos hy.1.1]
  rw [w64 (n := p3[y.1.toNat] + 1) (by omega)]
  refine Ans.ret ⟨by rw [upd_length]; exact h3, ?_, ?_⟩
  · intro z hz
    rcases upd_mem hz with hz | hz
    · have := h4 z hz; omega
    · omega
  · rw [upd_sum (nth_of_lt hlt)]
    have s0 := sum_nonneg (w := p3) fun x hx => (h4 x hx).1
    have s1 := sum_le (l := p3) (b := 8) fun x hx => (h4 x hx).2
    rw [h3] at s1
    omega)
theorem and3 (r : Int) : 0 ≤ (((BitVec.ofInt 64 r &&& BitVec.ofInt 64 3).toNat : Nat) : Int) ∧ (((BitVec.ofInt 64 r &&& BitVec.ofInt 64 3).toNat : Nat) : Int) ≤ 3 := by
  have h : (BitVec.ofInt 64 r &&& BitVec.ofInt 64 3).toNat ≤ 3 := by
    rw [BitVec.toNat_and]
    have e : (BitVec.ofInt 64 3).toNat = 3 := by decide
    rw [e]; exact Nat.and_le_right
  omega
theorem s_law16_radius (r : Int) : Ans (F_law16_radius r) (fun x => 0 ≤ x ∧ x ≤ 1048576) := Ans.of (F_law16_radius_of r) (by
  have h := and3 r
  simp only [letIn]
  rw [w64 (by omega)]
  generalize (((BitVec.ofInt 64 r &&& BitVec.ofInt 64 3).toNat : Nat) : Int) = k at *
  have hc : k = 0 ∨ k = 1 ∨ k = 2 ∨ k = 3 := by omega
  rcases hc with rfl | rfl | rfl | rfl
  · show Ans ((F_make_Round (Int.fdiv r 4) 1).bind fun y6 => some y6) (fun x => 0 ≤ x ∧ x ≤ 1048576)
    exact Ans.bind (s_make_Round (k := 1) (by omega) (by omega)) fun y hy => Ans.ret (by omega)
  · show Ans ((F_make_Round (Int.fdiv r 4) 30000).bind fun y6 => some y6) (fun x => 0 ≤ x ∧ x ≤ 1048576)
    exact Ans.bind (s_make_Round (k := 30000) (by omega) (by omega)) fun y hy => Ans.ret (by omega)
  · show Ans ((F_make_Round (Int.fdiv r 4) 200000).bind fun y6 => some y6) (fun x => 0 ≤ x ∧ x ≤ 1048576)
    exact Ans.bind (s_make_Round (k := 200000) (by omega) (by omega)) fun y hy => Ans.ret (by omega)
  · show Ans ((F_make_Round (Int.fdiv r 4) 1048577).bind fun y6 => some y6) (fun x => 0 ≤ x ∧ x ≤ 1048576)
    exact Ans.bind (s_make_Round (k := 1048577) (by omega) (by omega)) fun y hy => Ans.ret (by omega))
theorem law16_awake : F_law16_awake = some true := den_const (x := X_law16_awake) injO_law16_awake 40 (fun n => by kernel_rfl)
def cabs (x : Int) : Int := mx x (-x)
theorem cabs_nonneg (x : Int) : 0 ≤ cabs x := by unfold cabs mx; split <;> omega
theorem cabs_le {x b : Int} (h0 : -b ≤ x) (h1 : x ≤ b) : cabs x ≤ b := by unfold cabs mx; split <;> omega
theorem le_cabs (x : Int) : x ≤ cabs x ∧ -x ≤ cabs x := by unfold cabs mx; split <;> omega
def gg (a b c d : Int) : Int := mx (cabs (a - d)) (cabs (b - c))
def gapk (a b c d w : Int) : Int := cdiv (gg a b c d) w
theorem gg_b {a b c d k : Int} (ha : -k ≤ a ∧ a ≤ k) (hb : -k ≤ b ∧ b ≤ k) (hc : -k ≤ c ∧ c ≤ k) (hd : -k ≤ d ∧ d ≤ k) : 0 ≤ gg a b c d ∧ gg a b c d ≤ 2 * k := by
  have h1 := cabs_nonneg (a - d); have h2 := cabs_nonneg (b - c)
  have h3 := cabs_le (x := a - d) (b := 2 * k) (by omega) (by omega)
  have h4 := cabs_le (x := b - c) (b := 2 * k) (by omega) (by omega)
  unfold gg mx; split <;> omega
theorem s_og {x y : Int} (hx : -1000000000000000 ≤ x ∧ x ≤ 1000000000000000) (hy : -1000000000000000 ≤ y ∧ y ≤ 1000000000000000) : F_overlap_greatest [x, y] = some (mx (cabs x) (cabs y)) := F_overlap_greatest_of _ _ (by
  have wx : IntKind.wrap .i64 (0 - x) = -x := by rw [w64 (by omega)]; omega
  have wy : IntKind.wrap .i64 (0 - y) = -y := by rw [w64 (by omega)]; omega
  have w1 : IntKind.wrap .i64 (0 + 1) = 1 := w64 (by omega)
  have w2 : IntKind.wrap .i64 (1 + 1) = 2 := w64 (by omega)
  have n0 : nth [x, y] (Int.toNat 0) = some x := rfl
  have n1 : nth [x, y] (Int.toNat 1) = some y := rfl
  have h2 : ∀ g : Int, L_overlap_greatest_0 g [x, y] 2 2 = some g := fun g => L_overlap_greatest_0_of _ _ _ _ _ rfl
  have h1 : ∀ g : Int, L_overlap_greatest_0 g [x, y] 2 1 = some (mx (mx g y) (-y)) := fun g => L_overlap_greatest_0_of _ _ _ _ _ (by
    simp only [letIn, n1, Option.bind_some, wy, w2, h2]; rfl)
  have h0 : L_overlap_greatest_0 0 [x, y] 2 0 = some (mx (mx (mx (mx 0 x) (-x)) y) (-y)) := L_overlap_greatest_0_of _ _ _ _ _ (by
    simp only [letIn, n0, Option.bind_some, wx, w1, h1]; rfl)
  have e : mx (mx (mx (mx 0 x) (-x)) y) (-y) = mx (cabs x) (cabs y) := by unfold cabs mx; (repeat' split) <;> omega
  show (L_overlap_greatest_0 0 [x, y] 2 0).bind _ = _
  rw [h0, e]; rfl)
theorem cdiv_eq {g w : Int} (hw : 0 < w) : cdiv g w = (g + w - 1) / w := by
  have h1 := Int.ediv_mul_le (g + w - 1) (b := w) (by omega)
  have h2 := Int.lt_ediv_add_one_mul_self (g + w - 1) hw
  rw [Int.add_mul] at h2
  have h3 : (-g) / w = -((g + w - 1) / w) := ediv_uniq hw (by rw [Int.neg_mul]; omega) (by rw [Int.add_mul, Int.neg_mul]; omega)
  unfold cdiv; rw [h3]; omega
theorem cdiv_mono {g h w : Int} (hw : 0 < w) (k : g ≤ h) : cdiv g w ≤ cdiv h w := by
  have := Int.ediv_le_ediv hw (show -h ≤ -g by omega)
  unfold cdiv; omega
theorem cdiv_nonneg {g w : Int} (hw : 0 < w) (k : 0 ≤ g) : 0 ≤ cdiv g w := by
  have := Int.ediv_le_ediv hw (show -g ≤ 0 by omega)
  rw [Int.zero_ediv] at this
  unfold cdiv; omega
theorem step_m {g w : Int} (hg : 0 ≤ g ∧ g ≤ 1000000000000000) (hw : 1 ≤ w ∧ w ≤ 65536) : IntKind.wrap .i64 (g + w) = g + w ∧ IntKind.wrap .i64 (g + w - 1) = g + w - 1 ∧ IntKind.wrap .i64 (Int.tdiv (g + w - 1) w) = cdiv g w ∧ 0 ≤ cdiv g w := by
  have h := cdiv_nonneg (g := g) (w := w) (by omega) hg.1
  refine ⟨w64 (by omega), w64 (by omega), ?_, h⟩
  rw [tdiv_pos_eq (by omega), ← cdiv_eq (by omega)]
  have h2 : cdiv g w ≤ g + w - 1 := by
    rw [cdiv_eq (by omega)]; exact Int.ediv_le_self _ (by omega)
  exact w64 (by omega)
def rest3 (rho a b c : Int) : Int := if a > rho then -1 else if b > rho then -1 else if c > rho then -1 else rho * rho - a * a - b * b - c * c
def RadP (r : Int) : Prop := 0 ≤ r ∧ r ≤ 1048576
instance RadP.dec (r : Int) : Decidable (RadP r) := by unfold RadP; exact inferInstance
def ExOk (l r : List Int) (a : List I6) (ra : Int) (b : List I6) (rb : Int) : Prop := CombOk a l ∧ CombOk b r ∧ l.sum = r.sum ∧ RadP ra ∧ RadP rb
instance ExOk.dec (l r : List Int) (a : List I6) (ra : Int) (b : List I6) (rb : Int) : Decidable (ExOk l r a ra b rb) := by unfold ExOk; exact inferInstance
def exU (u v : I6) (w rho : Int) : Int := rest3 rho (gapk u.c0 u.c1 v.c0 v.c1 w) (gapk u.c2 u.c3 v.c2 v.c3 w) (gapk u.c4 u.c5 v.c4 v.c5 w)
def exV (l r : List Int) (a : List I6) (ra : Int) (b : List I6) (rb : Int) : Int := exU (comb Z6 a l) (comb Z6 b r) l.sum (ra + rb)
def excS (l r : List Int) (a : List I6) (ra : Int) (b : List I6) (rb : Int) : Int × Bool := if ExOk l r a ra b rb then (exV l r a ra b rb, true) else (0, false)
theorem sqm {m rho : Int} (h0 : 0 ≤ m) (h1 : m ≤ rho) (h2 : rho ≤ 2097152) : 0 ≤ m * m ∧ m * m ≤ 4398046511104 := by
  have h := mul_bd (x := m) (y := m) (m := 2097152) (n := 2097152) (by omega) (by omega) (by omega) (by omega)
  have := Int.mul_nonneg h0 h0
  omega
theorem In6.z : In6 0 Z6 := by unfold In6 Z6; simp
theorem ChPt.z : ChPt Z6 Z6 := by unfold ChPt ChC Z6; simp
theorem le_sum : ∀ {w : List Int}, (∀ x ∈ w, 0 ≤ x) → ∀ x ∈ w, x ≤ w.sum
  | [], _, x, hx => by cases hx
  | y :: w, h, x, hx => by
    have h1 := sum_nonneg (w := w) fun z hz => h z (by simp [hz])
    have h2 := h y (by simp)
    rw [List.sum_cons]
    rcases List.mem_cons.1 hx with rfl | hx
    · omega
    · have := le_sum (w := w) (fun z hz => h z (by simp [hz])) x hx
      omega
theorem WOk.allW {w : List Int} (h : WOk w) : AllW w := fun x hx => ⟨h.1 x hx, Int.le_trans (le_sum h.1 x hx) h.2⟩
theorem comb_b {a : List I6} {l : List Int} (h : CombOk a l) : In6 140737488355328 (comb Z6 a l) := by
  have := comb_in (b := 0) h.1.1 h.2.2.1.allW In6.z (by omega)
  refine this.mono ?_
  have := h.1.2.2; omega
theorem len_test (n : Nat) : (if (((n : Nat) : Int)) ≥ 1 then some (decide ((((n : Nat) : Int)) ≤ 8)) else some false) = some (decide (1 ≤ n ∧ n ≤ 8)) := by
  by_cases h1 : 1 ≤ n
  · rw [if_pos (by omega)]; congr 1
    rw [Bool.eq_iff_iff, decide_eq_true_eq, decide_eq_true_eq]; omega
  · rw [if_neg (by omega), decide_eq_false (by omega)]
theorem s_shape_reaches (a : I2) : F_shape_reaches a = some (decide (Reach a.c0 a.c1)) := by
  rw [F_shape_reaches_eq]; congr 1
  rw [Bool.eq_iff_iff, decide_eq_true_eq]
  simp [G_shape_reaches, Reach, Bool.cond_decide]
theorem s_shape_Placed_0 (u l : List I6) (hl : l.length ≤ 1152921504606846976) : ∀ (d i : Nat), i + d = l.length →
    L_shape_Placed_0 u l ((l.length : Nat) : Int) ((i : Nat) : Int) = some (if AllR (l.drop i) then .inr u else .inl false) := by
  intro d
  induction d with
  | zero =>
    intro i hi
    refine L_shape_Placed_0_of _ _ _ _ _ ?_
    have e : l.drop i = [] := by rw [List.drop_eq_nil_iff]; omega
    rw [e, if_pos (by simp [AllR])]
    simp only [Bool.cond_decide]
    rw [if_neg (by omega)]
  | succ d ih =>
    intro i hi
    refine L_shape_Placed_0_of _ _ _ _ _ ?_
    have hlt : i < l.length := by omega
    simp only [Bool.cond_decide, letIn, s_shape_reaches, Option.bind_some, nth_at hlt, wi (show i ≤ 1152921504606846976 by omega)]
    rw [if_pos (by omega), if_pos (by omega), ih (i + 1) (by omega), drop_at hlt]
    simp only [AllR.cons, Reach6]
    by_cases h1 : Reach l[i].c0 l[i].c1
    · by_cases h2 : Reach l[i].c2 l[i].c3
      · by_cases h3 : Reach l[i].c4 l[i].c5 <;> simp [h1, h2, h3]
      · simp [h1, h2]
    · simp [h1]
theorem s_shape_Placed (l : List I6) (hl : l.length ≤ 1152921504606846976) : F_shape_Placed l = some (decide (PlacedP l)) := F_shape_Placed_of l _ (by
  have := s_shape_Placed_0 l l hl l.length 0 (by omega)
  rw [List.drop_zero] at this
  simp only [Int.natCast_zero] at this
  rw [this]
  simp only [Option.bind_some, PlacedP]
  by_cases h : AllR l
  · simp only [h, if_true, true_and, Bool.cond_decide]
    exact len_test l.length
  · simp [h])
/-- one round's sums do not overflow -/
theorem addw_wrap {b : Int} {c x : I6} {w : Int} (hb : 0 ≤ b ∧ b ≤ 1000000000000000000) (hc : In6 b c) (hx : In6 268435456 x) (hw : 0 ≤ w ∧ w ≤ 65536) :
    I6.mk (IntKind.wrap .i64 (c.c0 + IntKind.wrap .i64 (w * x.c0))) (IntKind.wrap .i64 (c.c1 + IntKind.wrap .i64 (w * x.c1))) (IntKind.wrap .i64 (c.c2 + IntKind.wrap .i64 (w * x.c2))) (IntKind.wrap .i64 (c.c3 + IntKind.wrap .i64 (w * x.c3))) (IntKind.wrap .i64 (c.c4 + IntKind.wrap .i64 (w * x.c4))) (IntKind.wrap .i64 (c.c5 + IntKind.wrap .i64 (w * x.c5))) = addw c w x := by
  obtain ⟨x0, x1, x2, x3, x4, x5⟩ := hx
  have p0 := pw hw x0; have p1 := pw hw x1; have p2 := pw hw x2; have p3 := pw hw x3; have p4 := pw hw x4; have p5 := pw hw x5
  unfold In6 at hc
  unfold addw
  rw [w64 (n := w * x.c0) (by omega), w64 (n := w * x.c1) (by omega), w64 (n := w * x.c2) (by omega), w64 (n := w * x.c3) (by omega), w64 (n := w * x.c4) (by omega), w64 (n := w * x.c5) (by omega)]
  rw [w64 (n := c.c0 + w * x.c0) (by omega), w64 (n := c.c1 + w * x.c1) (by omega), w64 (n := c.c2 + w * x.c2) (by omega), w64 (n := c.c3 + w * x.c3) (by omega), w64 (n := c.c4 + w * x.c4) (by omega), w64 (n := c.c5 + w * x.c5) (by omega)]
theorem s_shape_Combine_0 (l : List I6) (w : List Int) (hl : AllR l) (hn : w.length = l.length) (h8 : l.length ≤ 8) : ∀ (d i : Nat), i + d = l.length → ∀ (t : Int) (c9 c : I6), 0 ≤ t ∧ t ≤ 65536 * i → In6 (17592186044416 * i) c →
    L_shape_Combine_0 l t w ((w.length : Nat) : Int) ((i : Nat) : Int) c9 c = some (if AllW (w.drop i) then .inr (t + (w.drop i).sum, c9, comb c (l.drop i) (w.drop i)) else .inl (0, false, Z6)) := by
  intro d
  induction d with
  | zero =>
    intro i hi t c9 c ht hc
    refine L_shape_Combine_0_of _ _ _ _ _ _ _ _ ?_
    have e : l.drop i = [] := by rw [List.drop_eq_nil_iff]; omega
    have e2 : w.drop i = [] := by rw [List.drop_eq_nil_iff]; omega
    rw [e, e2, if_pos (by simp [AllW])]
    simp only [Bool.cond_decide]
    rw [if_neg (by omega)]
    simp [comb]
  | succ d ih =>
    intro i hi t c9 c ht hc
    refine L_shape_Combine_0_of _ _ _ _ _ _ _ _ ?_
    have hlt : i < l.length := by omega
    have hlw : i < w.length := by omega
    have hr : Reach6 l[i] := hl _ (List.getElem_mem hlt)
    simp only [Bool.cond_decide, letIn, Option.bind_some, nth_at hlt, nth_at hlw, wi (show i ≤ 1152921504606846976 by omega)]
    simp only [if_pos (show (0 : Int) ≤ (i : Int) by omega)]
    rw [if_pos (by omega), drop_at hlt, drop_at hlw]
    simp only [AllW.cons]
    by_cases h1 : w[i] < 0
    · rw [if_pos h1, if_neg (by omega)]; rfl
    · rw [if_neg h1]
      by_cases h2 : w[i] > 65536
      · rw [if_pos h2, if_neg (by omega)]; rfl
      · rw [if_neg h2, addw_wrap (b := 17592186044416 * i) (by omega) hc hr.in6 (by omega), w64 (n := t + w[i]) (by omega)]
        have hc2 := addw_in hc hr.in6 (w := w[i]) (by omega)
        rw [show (17592186044416 : Int) * (i : Int) + 17592186044416 = 17592186044416 * ((i + 1 : Nat) : Int) by omega] at hc2
        simp only [Option.bind_some, wi (show i ≤ 1152921504606846976 by omega)]
        rw [ih (i + 1) (by omega) (t + w[i]) c9 _ (by omega) hc2]
        have hw' : 0 ≤ w[i] ∧ w[i] ≤ 65536 := by omega
        by_cases h3 : AllW (w.drop (i + 1))
        · rw [if_pos h3, if_pos ⟨hw', h3⟩, List.sum_cons]
          simp only [comb, Int.add_assoc]
        · rw [if_neg h3, if_neg (fun q => h3 q.2)]
theorem s_shape_Combine (l : List I6) (w : List Int) (hl : l.length ≤ 1152921504606846976) : F_shape_Combine l w = some (combS l w) := F_shape_Combine_of l w _ (by
  simp only [s_shape_Placed l hl, Option.bind_some]
  unfold combS
  by_cases hp : PlacedP l
  · by_cases hn : w.length = l.length
    · have := s_shape_Combine_0 l w hp.1 hn hp.2.2 l.length 0 (by omega) 0 Z6 Z6 (by omega) (by simpa using In6.z)
      simp only [List.drop_zero, Int.natCast_zero, Int.zero_add] at this
      have hne : ((((w.length : Nat) : Int)) != (((l.length : Nat) : Int))) = false := by simp [hn]
      simp only [hp, decide_true, Bool.not_true, cond_false, hne]
      rw [show (I6.mk 0 0 0 0 0 0) = Z6 from rfl, this]
      by_cases hw : AllW w
      · simp only [hw, if_true, Option.bind_some, Bool.cond_decide]
        have h0 : ∀ x ∈ w, 0 ≤ x := fun x hx => (hw x hx).1
        by_cases h1 : w.sum < 1
        · rw [if_pos h1, if_neg (fun q => by have := q.2.2.2; omega)]
        · rw [if_neg h1]
          by_cases h2 : w.sum > 65536
          · rw [if_pos h2, if_neg (fun q => by have := q.2.2.1.2; omega)]
          · rw [if_neg h2, if_pos ⟨hp, hn, ⟨h0, by omega⟩, by omega⟩]
      · simp only [hw, if_false, Option.bind_some]
        rw [if_neg (fun q => hw q.2.2.1.allW)]
    · have hne : ((((w.length : Nat) : Int)) != (((l.length : Nat) : Int))) = true := by simp; omega
      simp only [hp, decide_true, Bool.not_true, cond_false, hne, cond_true]
      rw [if_neg (fun q => hn q.2.1)]; rfl
  · simp only [hp, decide_false, Bool.not_false, cond_true]
    rw [if_neg (fun q => hp q.1)]; rfl)
theorem s_overlap_Excess (l r : List Int) (a : List I6) (ra : Int) (b : List I6) (rb : Int) (hla : a.length ≤ 1152921504606846976) (hlb : b.length ≤ 1152921504606846976) : F_overlap_Excess l r a ra b rb = some (excS l r a ra b rb) := F_overlap_Excess_of _ _ _ _ _ _ _ (by
  simp only [s_shape_Combine a l hla, s_shape_Combine b r hlb, Option.bind_some]
  by_cases h : ExOk l r a ra b rb
  · have e : excS l r a ra b rb = (exV l r a ra b rb, true) := if_pos h
    rw [e]
    obtain ⟨ca, cb, hss, hra, hrb⟩ := h
    have hu := comb_b ca
    have hv := comb_b cb
    have hw1 := ca.2.2.2
    have hw2 := ca.2.2.1.2
    rw [combS_ok ca, combS_ok cb, ← hss]
    unfold exV
    generalize comb Z6 a l = u at *
    generalize comb Z6 b r = v at *
    generalize l.sum = w at *
    unfold RadP at hra hrb
    obtain ⟨u0, u1, u2, u3, u4, u5⟩ := hu
    obtain ⟨v0, v1, v2, v3, v4, v5⟩ := hv
    have d0 : IntKind.wrap .i64 (u.c0 - v.c1) = u.c0 - v.c1 := w64 (by omega)
    have d1 : IntKind.wrap .i64 (u.c1 - v.c0) = u.c1 - v.c0 := w64 (by omega)
    have d2 : IntKind.wrap .i64 (u.c2 - v.c3) = u.c2 - v.c3 := w64 (by omega)
    have d3 : IntKind.wrap .i64 (u.c3 - v.c2) = u.c3 - v.c2 := w64 (by omega)
    have d4 : IntKind.wrap .i64 (u.c4 - v.c5) = u.c4 - v.c5 := w64 (by omega)
    have d5 : IntKind.wrap .i64 (u.c5 - v.c4) = u.c5 - v.c4 := w64 (by omega)
    have o0 := s_og (x := u.c0 - v.c1) (y := u.c1 - v.c0) (by omega) (by omega)
    have o1 := s_og (x := u.c2 - v.c3) (y := u.c3 - v.c2) (by omega) (by omega)
    have o2 := s_og (x := u.c4 - v.c5) (y := u.c5 - v.c4) (by omega) (by omega)
    have g0 := gg_b u0 u1 v0 v1
    have g1 := gg_b u2 u3 v2 v3
    have g2 := gg_b u4 u5 v4 v5
    change F_overlap_greatest [u.c0 - v.c1, u.c1 - v.c0] = some (gg u.c0 u.c1 v.c0 v.c1) at o0
    change F_overlap_greatest [u.c2 - v.c3, u.c3 - v.c2] = some (gg u.c2 u.c3 v.c2 v.c3) at o1
    change F_overlap_greatest [u.c4 - v.c5, u.c5 - v.c4] = some (gg u.c4 u.c5 v.c4 v.c5) at o2
    obtain ⟨p0, p1, p2, p3⟩ := step_m (g := gg u.c0 u.c1 v.c0 v.c1) (w := w) (by omega) (by omega)
    obtain ⟨q0, q1, q2, q3⟩ := step_m (g := gg u.c2 u.c3 v.c2 v.c3) (w := w) (by omega) (by omega)
    obtain ⟨t0, t1, t2, t3⟩ := step_m (g := gg u.c4 u.c5 v.c4 v.c5) (w := w) (by omega) (by omega)
    have rr := sqm (m := ra + rb) (rho := ra + rb) (by omega) (by omega) (by omega)
    have r1 : IntKind.wrap .i64 (ra + rb) = ra + rb := w64 (by omega)
    have r2 : IntKind.wrap .i64 ((ra + rb) * (ra + rb)) = (ra + rb) * (ra + rb) := w64 (by omega)
    have hne : (w == 0) = false := by simp; omega
    have hww : (w != w) = false := by simp
    simp only [Bool.not_true, cond_false, hww, letIn, Bool.cond_decide, d0, d1, d2, d3, d4, d5, o0, o1, o2, Option.bind_some, p0, p1, p2, q0, q1, q2, t0, t1, t2, r1, r2, hne]
    rw [if_neg (by omega), if_neg (by omega), if_neg (by omega), if_neg (by omega)]
    unfold exU rest3 gapk
    by_cases k0 : cdiv (gg u.c0 u.c1 v.c0 v.c1) w > ra + rb
    · simp only [if_pos k0]; rfl
    · have s0 := sqm p3 (show _ ≤ ra + rb by omega) (by omega)
      have z0 : IntKind.wrap .i64 (cdiv (gg u.c0 u.c1 v.c0 v.c1) w * cdiv (gg u.c0 u.c1 v.c0 v.c1) w) = _ := w64 (by omega)
      have y0 : IntKind.wrap .i64 ((ra + rb) * (ra + rb) - cdiv (gg u.c0 u.c1 v.c0 v.c1) w * cdiv (gg u.c0 u.c1 v.c0 v.c1) w) = _ := w64 (by omega)
      simp only [if_neg k0, z0, y0]
      by_cases k1 : cdiv (gg u.c2 u.c3 v.c2 v.c3) w > ra + rb
      · simp only [if_pos k1]; rfl
      · have s1 := sqm q3 (show _ ≤ ra + rb by omega) (by omega)
        have z1 : IntKind.wrap .i64 (cdiv (gg u.c2 u.c3 v.c2 v.c3) w * cdiv (gg u.c2 u.c3 v.c2 v.c3) w) = _ := w64 (by omega)
        have y1 : IntKind.wrap .i64 ((ra + rb) * (ra + rb) - cdiv (gg u.c0 u.c1 v.c0 v.c1) w * cdiv (gg u.c0 u.c1 v.c0 v.c1) w - cdiv (gg u.c2 u.c3 v.c2 v.c3) w * cdiv (gg u.c2 u.c3 v.c2 v.c3) w) = _ := w64 (by omega)
        simp only [if_neg k1, z1, y1]
        by_cases k2 : cdiv (gg u.c4 u.c5 v.c4 v.c5) w > ra + rb
        · simp only [if_pos k2]; rfl
        · have s2 := sqm t3 (show _ ≤ ra + rb by omega) (by omega)
          have z2 : IntKind.wrap .i64 (cdiv (gg u.c4 u.c5 v.c4 v.c5) w * cdiv (gg u.c4 u.c5 v.c4 v.c5) w) = _ := w64 (by omega)
          have y2 : IntKind.wrap .i64 ((ra + rb) * (ra + rb) - cdiv (gg u.c0 u.c1 v.c0 v.c1) w * cdiv (gg u.c0 u.c1 v.c0 v.c1) w - cdiv (gg u.c2 u.c3 v.c2 v.c3) w * cdiv (gg u.c2 u.c3 v.c2 v.c3) w - cdiv (gg u.c4 u.c5 v.c4 v.c5) w * cdiv (gg u.c4 u.c5 v.c4 v.c5) w) = _ := w64 (by omega)
          simp only [if_neg k2, z2, y2]; rfl
  · have e : excS l r a ra b rb = (0, false) := if_neg h
    rw [e]
    by_cases ca : CombOk a l
    · by_cases cb : CombOk b r
      · rw [combS_ok ca, combS_ok cb]
        by_cases hss : l.sum = r.sum
        · have hww : (l.sum != r.sum) = false := by simp [hss]
          simp only [Bool.not_true, cond_false, hww, Bool.cond_decide]
          by_cases hra : RadP ra
          · by_cases hrb : RadP rb
            · exact absurd ⟨ca, cb, hss, hra, hrb⟩ h
            · unfold RadP at hra hrb
              rw [if_neg (by omega), if_neg (by omega)]
              by_cases k : rb < 0
              · rw [if_pos k]
              · rw [if_neg k, if_pos (by omega)]
          · unfold RadP at hra
            by_cases k : ra < 0
            · rw [if_pos k]
            · rw [if_neg k, if_pos (by omega)]
        · have hww : (l.sum != r.sum) = true := by simpa using hss
          simp only [Bool.not_true, cond_false, hww, cond_true]
      · have eb : combS b r = (Z6, 0, false) := if_neg cb
        rw [combS_ok ca, eb]; rfl
    · have ea : combS a l = (Z6, 0, false) := if_neg ca
      rw [ea]; rfl)
def ovlS (l r : List Int) (a : List I6) (ra : Int) (b : List I6) (rb : Int) : Bool := bif (excS l r a ra b rb).2 then decide ((excS l r a ra b rb).1 ≥ 0) else false
theorem s_overlap_Overlaps (l r : List Int) (a : List I6) (ra : Int) (b : List I6) (rb : Int) (hla : a.length ≤ 1152921504606846976) (hlb : b.length ≤ 1152921504606846976) : F_overlap_Overlaps l r a ra b rb = some (ovlS l r a ra b rb) := F_overlap_Overlaps_of _ _ _ _ _ _ _ (by
  simp only [s_overlap_Excess l r a ra b rb hla hlb, Option.bind_some, ovlS]
  cases (excS l r a ra b rb).2 <;> rfl)
def EqW (n k : Nat) (r : List Int × List Int) : Prop := r.1.length = n ∧ r.2.length = k ∧ (∀ x ∈ r.1, 0 ≤ x ∧ x ≤ 65) ∧ (∀ x ∈ r.2, 0 ≤ x ∧ x ≤ 65) ∧ r.1.sum = r.2.sum ∧ 1 ≤ r.1.sum ∧ r.1.sum ≤ 65
theorem upd_ok {l : List Int} (h0 : 0 < l.length) (hb : ∀ x ∈ l, 0 ≤ x ∧ x ≤ 9) {d s : Int} (hd : 0 ≤ d) (e : l.sum + d = s) (h2 : s ≤ 65) : (upd l 0 (l[0] + d)).length = l.length ∧ (∀ x ∈ upd l 0 (l[0] + d), 0 ≤ x ∧ x ≤ 65) ∧ (upd l 0 (l[0] + d)).sum = s := by
  have hx := hb _ (List.getElem_mem h0)
  have hs : (upd l 0 (l[0] + d)).sum = s := by rw [upd_sum (nth_of_lt h0)]; omega
  have hn : ∀ x ∈ upd l 0 (l[0] + d), 0 ≤ x := fun x hx' => by
    rcases upd_mem hx' with k | k
    · exact (hb x k).1
    · omega
  exact ⟨by rw [upd_length], fun x hx' => ⟨hn x hx', by have := le_sum hn x hx'; omega⟩, hs⟩
theorem s_law16_equal (n k : Nat) (hn : 1 ≤ n ∧ n ≤ 8) (hk : 1 ≤ k ∧ k ≤ 8) (l : List Int) (hl : l.length ≤ 1048576) : Ans (F_law16_equal ((n : Nat) : Int) ((k : Nat) : Int) l) (EqW n k) := Ans.of (F_law16_equal_of _ _ _) (by
  have c1 : decide ((0 + l.length) * 8 ≤ 140737488355328) = true := by simp; omega
  have c2 : decide ((([] ++ l).length + l.length) * 8 ≤ 140737488355328) = true := by simp; omega
  simp only [c1, c2, cond_true, letIn, Bool.cond_decide]
  refine Ans.bind (s_make_Weights n hn l (by omega)) ?_
  rintro a ⟨al, ab, as1, as2⟩
  refine Ans.bind (s_make_Weights k hk (([] ++ l) ++ l) (by simp; omega)) ?_
  rintro b ⟨bl, bb, bs1, bs2⟩
  have ta := s_make_Total a (fun z hz => ⟨(ab z hz).1, by have := (ab z hz).2; omega⟩) (by omega)
  have tb := s_make_Total b (fun z hz => ⟨(bb z hz).1, by have := (bb z hz).2; omega⟩) (by omega)
  have wd : IntKind.wrap .i64 (a.sum - b.sum) = a.sum - b.sum := w64 (by omega)
  have ha0 : 0 < a.length := by omega
  have hb0 : 0 < b.length := by omega
  have xa := ab _ (List.getElem_mem ha0)
  have xb := bb _ (List.getElem_mem hb0)
  simp only [ta, tb, Option.bind_some, wd, nth_of_lt ha0, nth_of_lt hb0]
  by_cases h : a.sum - b.sum < 0
  · rw [if_pos h, w64 (n := a[0] - (a.sum - b.sum)) (by omega), show a[0] - (a.sum - b.sum) = a[0] + (b.sum - a.sum) by omega]
    obtain ⟨p, q, r⟩ := upd_ok ha0 ab (d := b.sum - a.sum) (s := b.sum) (by omega) (by omega) bs2
    exact Ans.ret ⟨by dsimp only; omega, bl, q, fun x hx => ⟨(bb x hx).1, by have := (bb x hx).2; omega⟩, r, by dsimp only; omega, by dsimp only; omega⟩
  · rw [if_neg h, w64 (n := b[0] + (a.sum - b.sum)) (by omega)]
    obtain ⟨p, q, r⟩ := upd_ok hb0 bb (d := a.sum - b.sum) (s := a.sum) (by omega) (by omega) as2
    exact Ans.ret ⟨al, by dsimp only; omega, fun x hx => ⟨(ab x hx).1, by have := (ab x hx).2; omega⟩, q, by dsimp only; omega, as1, as2⟩)
theorem ex_ok {l r : List Int} {a b : List I6} {ra rb : Int} (hs : EqW a.length b.length (l, r)) (qa : PlacedP a) (qb : PlacedP b) (hra : RadP ra) (hrb : RadP rb) : ExOk l r a ra b rb := by
  obtain ⟨h1, h2, h3, h4, h5, h6, h7⟩ := hs
  dsimp only at h1 h2 h3 h4 h5 h6 h7
  exact ⟨combOk_of qa h1 (fun x hx => (h3 x hx).1) (by omega) (by omega), combOk_of qb h2 (fun x hx => (h4 x hx).1) (by omega) (by omega), h5, hra, hrb⟩
theorem ov_eq {l r : List Int} {a b : List I6} {ra rb : Int} (h : ExOk l r a ra b rb) : F_overlap_Overlaps l r a ra b rb = some (decide (exV l r a ra b rb ≥ 0)) := by
  rw [s_overlap_Overlaps l r a ra b rb (by have := h.1.1.2.2; omega) (by have := h.2.1.1.2.2; omega), ovlS, excS, if_pos h]; rfl
theorem rest3_iff {rho a b c : Int} (hr : 0 ≤ rho) (ha : 0 ≤ a) (hb : 0 ≤ b) (hc : 0 ≤ c) : rest3 rho a b c ≥ 0 ↔ a * a + b * b + c * c ≤ rho * rho := by
  have a2 := Int.mul_nonneg ha ha; have b2 := Int.mul_nonneg hb hb; have c2 := Int.mul_nonneg hc hc
  have big : ∀ x : Int, 0 ≤ x → x > rho → rho * rho < x * x := fun x hx h => by
    have h1 := Int.mul_le_mul (show rho + 1 ≤ x by omega) (show rho + 1 ≤ x by omega) (by omega) hx
    rw [Int.add_mul, Int.mul_add] at h1
    omega
  unfold rest3
  split
  · rename_i h; have := big a ha h; omega
  · split
    · rename_i h; have := big b hb h; omega
    · split
      · rename_i h; have := big c hc h; omega
      · omega
theorem gap_nonneg {a b c d w : Int} (hw : 0 < w) : 0 ≤ gapk a b c d w := by
  refine cdiv_nonneg hw ?_
  have := cabs_nonneg (a - d); have := cabs_nonneg (b - c)
  unfold gg mx; split <;> omega
def sum3 (u v : I6) (w : Int) : Int := gapk u.c0 u.c1 v.c0 v.c1 w * gapk u.c0 u.c1 v.c0 v.c1 w + gapk u.c2 u.c3 v.c2 v.c3 w * gapk u.c2 u.c3 v.c2 v.c3 w + gapk u.c4 u.c5 v.c4 v.c5 w * gapk u.c4 u.c5 v.c4 v.c5 w
theorem exV_iff {l r : List Int} {a b : List I6} {ra rb : Int} (h : ExOk l r a ra b rb) : exV l r a ra b rb ≥ 0 ↔ sum3 (comb Z6 a l) (comb Z6 b r) l.sum ≤ (ra + rb) * (ra + rb) := by
  have hw : 0 < l.sum := h.1.2.2.2
  have h1 := h.2.2.2.1; have h2 := h.2.2.2.2
  unfold RadP at h1 h2
  unfold exV exU sum3
  exact rest3_iff (by omega) (gap_nonneg hw) (gap_nonneg hw) (gap_nonneg hw)
/-- a point of each box -/
theorem gap_pt {a b c d x y w : Int} (hw : 0 < w) (h1 : a ≤ x ∧ x ≤ b) (h2 : c ≤ y ∧ y ≤ d) : cdiv (cabs (x - y)) w ≤ gapk a b c d w := by
  refine cdiv_mono hw ?_
  have k1 := le_cabs (a - d); have k2 := le_cabs (b - c)
  have : cabs (x - y) ≤ mx (cabs (a - d)) (cabs (b - c)) := by
    unfold mx; unfold cabs mx; unfold cabs mx at k1 k2
    (repeat' split) <;> (repeat' split at k1) <;> (repeat' split at k2) <;> omega
  exact this
theorem gap_same {x y w : Int} : gapk x x y y w = cdiv (cabs (x - y)) w := by
  unfold gapk gg; rw [mx_self]
theorem sum3_ch {u v p q : I6} {w : Int} (hw : 0 < w) (hu : ChPt p u) (hv : ChPt q v) : sum3 p q w ≤ sum3 u v w := by
  obtain ⟨⟨u1, u2, u3⟩, ⟨u4, u5, u6⟩, ⟨u7, u8, u9⟩⟩ := hu
  obtain ⟨⟨v1, v2, v3⟩, ⟨v4, v5, v6⟩, ⟨v7, v8, v9⟩⟩ := hv
  have g0 := gap_pt (x := p.c0) (y := q.c0) hw ⟨u2, u3⟩ ⟨v2, v3⟩
  have g1 := gap_pt (x := p.c2) (y := q.c2) hw ⟨u5, u6⟩ ⟨v5, v6⟩
  have g2 := gap_pt (x := p.c4) (y := q.c4) hw ⟨u8, u9⟩ ⟨v8, v9⟩
  have n0 := cdiv_nonneg hw (cabs_nonneg (p.c0 - q.c0))
  have n1 := cdiv_nonneg hw (cabs_nonneg (p.c2 - q.c2))
  have n2 := cdiv_nonneg hw (cabs_nonneg (p.c4 - q.c4))
  have s0 := sq_le n0 g0; have s1 := sq_le n1 g1; have s2 := sq_le n2 g2
  unfold sum3
  rw [← u1, ← u4, ← u7, ← v1, ← v4, ← v7, gap_same, gap_same, gap_same]
  omega
theorem ex_ch {s t : List Int} {a b c d : List I6} {ra rb : Int} (x : ExOk s t a ra b rb) (kc : Chs c a) (kd : Chs d b) : ExOk s t c ra d rb := by
  obtain ⟨⟨pa, a1, a2, a3⟩, ⟨pb, b1, b2, b3⟩, x3, x4, x5⟩ := x
  have hcl := kc.length; have hdl := kd.length
  exact ⟨⟨⟨kc.reach pa.1, by have := pa.2; omega, by have := pa.2; omega⟩, by omega, a2, a3⟩, ⟨⟨kd.reach pb.1, by have := pb.2; omega, by have := pb.2; omega⟩, by omega, b2, b3⟩, x3, x4, x5⟩
theorem law_law16_OverlapMonotone (l m w o r : List Int) (p q : Int) (h3 : l.length ≤ 1048576) (b3 : ∀ x ∈ l, BI x) (h4 : m.length ≤ 1048576) (b4 : ∀ x ∈ m, BI x) (h5 : w.length ≤ 1048576) (b5 : ∀ x ∈ w, BI x) (h6 : o.length ≤ 1048576) (b6 : ∀ x ∈ o, BI x) (h7 : r.length ≤ 1048576) (b7 : ∀ x ∈ r, BI x) (hp : I64 p) (hq : I64 q) : F_law16_OverlapMonotone l m w o r p q = some true := F_law16_OverlapMonotone_of _ _ _ _ _ _ _ _ (by
  obtain ⟨a, ha, pa⟩ := s_make_Points l (by omega) (w := 3000) (by omega)
  obtain ⟨b, hb, pb⟩ := s_make_Points m (by omega) (w := 3000) (by omega)
  obtain ⟨⟨s, t⟩, hst, es⟩ := s_law16_equal a.length b.length (by omega) (by omega) w h5
  obtain ⟨r1, hr1, c1⟩ := s_law16_radius p
  obtain ⟨r2, hr2, c2⟩ := s_law16_radius q
  have qa := placed_of (by omega) pa
  have qb := placed_of (by omega) pb
  obtain ⟨c, hc, kc⟩ := s_make_Chosen a qa.1 qa.2.2 o (by omega)
  obtain ⟨d, hd, kd⟩ := s_make_Chosen b qb.1 qb.2.2 r (by omega)
  have x1 := ex_ok es qa qb c1 c2
  have x2 := ex_ch x1 kc kd
  simp only [ha, hb, hst, hr1, hr2, hc, hd, ov_eq x1, ov_eq x2, law16_awake, Option.bind_some, cond_true]
  by_cases h : exV s t a r1 b r2 ≥ 0
  · have k : exV s t c r1 d r2 ≥ 0 := by
      rw [exV_iff x1] at h
      rw [exV_iff x2]
      have := sum3_ch (w := s.sum) (by have := x1.1.2.2.2; omega) (comb_ch (w := s) kc x1.1.2.2.1.1 ChPt.z) (comb_ch (w := t) kd x1.2.1.2.2.1.1 ChPt.z)
      omega
    simp only [decide_eq_true h, decide_eq_true k, Bool.not_true, cond_false]
  · simp only [decide_eq_false h, Bool.not_false, cond_true])
end Go.Proofs.Ytilffjjibcebmaa.Am
