/- What the law law_law10_ShapeCombineWithin computes, without levels: it is true. -/
import Derived.Test.YtfpdjpleplhcgaaF0
import Derived.Test.YtfpdjpleplhcgaaAmRow2
import Derived.IntWalk
set_option linter.unusedVariables false
set_option linter.unusedSimpArgs false
set_option maxRecDepth 100000
namespace Go.Proofs.Ytfpdjpleplhcgaa.Am
open Go Go.IntWalk

theorem w64 {n : Int} (h : -9223372036854775808 ≤ n ∧ n ≤ 9223372036854775807) : IntKind.wrap .i64 n = n := i64_in n h
theorem den_const {α β : Type} {e : β → α} (inj : ∀ a b, e a = e b → a = b) {x : Nat → Option α} (k : Nat) {r : β} (h : ∀ n, x (n + k) = some (e r)) : den e x = some r :=
  den_of inj k (y := some r) (fun r' hr => by cases hr; exact ⟨0, fun n _ => h n⟩) rfl
theorem mul_bd {x y : Int} {m n : Nat} (hx0 : -(m : Int) ≤ x) (hx1 : x ≤ m) (hy0 : -(n : Int) ≤ y) (hy1 : y ≤ n) : -((m * n : Nat) : Int) ≤ x * y ∧ x * y ≤ ((m * n : Nat) : Int) := by
  have h : (x * y).natAbs ≤ m * n := by
    rw [Int.natAbs_mul]; exact Nat.mul_le_mul (by omega) (by omega)
  omega
/-- a valid interval -/
def V2 (a : I2) : Prop := -2147483648 ≤ a.c0 ∧ a.c0 ≤ a.c1 ∧ a.c1 ≤ 2147483648
instance V2.dec (a : I2) : Decidable (V2 a) := by unfold V2; exact inferInstance
def WithinI (a b : I2) : Prop := V2 a ∧ V2 b ∧ b.c0 ≤ a.c0 ∧ a.c1 ≤ b.c1
instance WithinI.dec (a b : I2) : Decidable (WithinI a b) := by unfold WithinI; exact inferInstance
theorem WithinI.mk {a0 a1 b0 b1 : Int} (h0 : -2147483648 ≤ b0) (h1 : b0 ≤ a0) (h2 : a0 ≤ a1) (h3 : a1 ≤ b1) (h4 : b1 ≤ 2147483648) : WithinI ⟨a0, a1⟩ ⟨b0, b1⟩ := by
  unfold WithinI V2; dsimp only; omega
theorem rb {n k : Nat} (h : n * k ≤ reachBytes) (hk : 1 ≤ k) : n ≤ 1152921504606846976 := by
  have e : reachBytes = 140737488351232 := by decide
  have : n * 1 ≤ n * k := Nat.mul_le_mul_left n hk
  omega
theorem law10_awake : F_law10_awake = some true := den_const (x := X_law10_awake) injO_law10_awake 30 (fun n => by kernel_rfl)
/-- all components within a bound -/
def In6 (b : Int) (c : I6) : Prop := (-b ≤ c.c0 ∧ c.c0 ≤ b) ∧ (-b ≤ c.c1 ∧ c.c1 ≤ b) ∧ (-b ≤ c.c2 ∧ c.c2 ≤ b) ∧ (-b ≤ c.c3 ∧ c.c3 ≤ b) ∧ (-b ≤ c.c4 ∧ c.c4 ≤ b) ∧ (-b ≤ c.c5 ∧ c.c5 ≤ b)
theorem In6.mono {a b : Int} (h : a ≤ b) {c : I6} (hc : In6 a c) : In6 b c := by unfold In6 at *; omega
def ChC (a b x y : Int) : Prop := a = b ∧ x ≤ a ∧ a ≤ y
def ChPt (y x : I6) : Prop := ChC y.c0 y.c1 x.c0 x.c1 ∧ ChC y.c2 y.c3 x.c2 x.c3 ∧ ChC y.c4 y.c5 x.c4 x.c5
def Chs : List I6 → List I6 → Prop
  | [], [] => True
  | y :: r, x :: l => ChPt y x ∧ Chs r l
  | _, _ => False
theorem Chs.length : ∀ {r l : List I6}, Chs r l → r.length = l.length
  | [], [], _ => rfl
  | y :: r, x :: l, h => by simp [Chs.length h.2]
  | [], _ :: _, h => h.elim
  | _ :: _, [], h => h.elim
def Reach (a b : Int) : Prop := -268435456 ≤ a ∧ a ≤ b ∧ b ≤ 268435456
instance Reach.dec (a b : Int) : Decidable (Reach a b) := by unfold Reach; exact inferInstance
def Reach6 (x : I6) : Prop := Reach x.c0 x.c1 ∧ Reach x.c2 x.c3 ∧ Reach x.c4 x.c5
instance Reach6.dec (x : I6) : Decidable (Reach6 x) := by unfold Reach6; exact inferInstance
def AllR (l : List I6) : Prop := ∀ x ∈ l, Reach6 x
instance AllR.dec (l : List I6) : Decidable (AllR l) := by unfold AllR; exact inferInstance
def PlacedP (l : List I6) : Prop := AllR l ∧ 1 ≤ l.length ∧ l.length ≤ 8
instance PlacedP.dec (l : List I6) : Decidable (PlacedP l) := by unfold PlacedP; exact inferInstance
def WOk (w : List Int) : Prop := (∀ x ∈ w, 0 ≤ x) ∧ w.sum ≤ 65536
instance WOk.dec (w : List Int) : Decidable (WOk w) := by unfold WOk; exact inferInstance
def CombOk (l : List I6) (w : List Int) : Prop := PlacedP l ∧ w.length = l.length ∧ WOk w ∧ 1 ≤ w.sum
instance CombOk.dec (l : List I6) (w : List Int) : Decidable (CombOk l w) := by unfold CombOk; exact inferInstance
theorem combOk_of {x : List I6} {w : List Int} (hp : PlacedP x) (wl : w.length = x.length) (wb : ∀ y ∈ w, 0 ≤ y) (s1 : 1 ≤ w.sum) (s2 : w.sum ≤ 65536) : CombOk x w := ⟨hp, wl, ⟨wb, s2⟩, s1⟩
def Z6 : I6 := ⟨0, 0, 0, 0, 0, 0⟩
def addw (c : I6) (w : Int) (x : I6) : I6 := ⟨c.c0 + w * x.c0, c.c1 + w * x.c1, c.c2 + w * x.c2, c.c3 + w * x.c3, c.c4 + w * x.c4, c.c5 + w * x.c5⟩
def comb (c : I6) : List I6 → List Int → I6
  | x :: l, w :: ws => comb (addw c w x) l ws
  | _, _ => c
def combS (l : List I6) (w : List Int) : I6 × Int × Bool := if CombOk l w then (comb Z6 l w, w.sum, true) else (Z6, 0, false)
theorem combS_ok {x : List I6} {w : List Int} (h : CombOk x w) : combS x w = (comb Z6 x w, w.sum, true) := by unfold combS; rw [if_pos h]
theorem Chs.snoc : ∀ {r l : List I6} {y x : I6}, Chs r l → ChPt y x → Chs (r ++ [y]) (l ++ [x])
  | [], [], y, x, _, h => ⟨h, trivial⟩
  | a :: r, b :: l, y, x, h, k => ⟨h.1, Chs.snoc h.2 k⟩
  | [], _ :: _, _, _, h, _ => h.elim
  | _ :: _, [], _, _, h, _ => h.elim
/-- a made point: boxes of bounded width near the origin -/
def Pc (w a b : Int) : Prop := -327689 ≤ a ∧ a ≤ 327689 ∧ a ≤ b ∧ b ≤ a + w
def Pt (w : Int) (x : I6) : Prop := Pc w x.c0 x.c1 ∧ Pc w x.c2 x.c3 ∧ Pc w x.c4 x.c5
theorem Pt.reach {w : Int} (hw : w ≤ 1048576) {x : I6} (h : Pt w x) : Reach6 x := by unfold Pt Pc at h; unfold Reach6 Reach; omega
def AllW (w : List Int) : Prop := ∀ x ∈ w, 0 ≤ x ∧ x ≤ 65536
instance AllW.dec (w : List Int) : Decidable (AllW w) := by unfold AllW; exact inferInstance
theorem AllW.cons {x : Int} {l : List Int} : AllW (x :: l) ↔ (0 ≤ x ∧ x ≤ 65536) ∧ AllW l := by simp [AllW]
theorem AllR.cons {x : I6} {l : List I6} : AllR (x :: l) ↔ Reach6 x ∧ AllR l := by simp [AllR]
theorem Chs.reach : ∀ {r l : List I6}, Chs r l → AllR l → AllR r
  | [], [], _, _ => by simp [AllR]
  | y :: r, x :: l, h, hl => by
    rw [AllR.cons] at hl ⊢
    refine ⟨?_, Chs.reach h.2 hl.2⟩
    have h1 := h.1; have h2 := hl.1
    unfold ChPt ChC at h1; unfold Reach6 Reach at h2 ⊢; omega
  | [], _ :: _, h, _ => h.elim
  | _ :: _, [], h, _ => h.elim
theorem s_make_Round {n k : Int} (hk : 0 < k) (hk2 : k ≤ 4611686018427387904) : Ans (F_make_Round n k) (fun r => 0 ≤ r ∧ r < k) := Ans.of (F_make_Round_of n k) (by
  have hne : (k == 0) = false := by simp; omega
  simp only [hne, cond_false, letIn, Bool.cond_decide]
  have h1 := Int.tmod_lt_of_pos n hk
  have h2 : -k < Int.tmod n k := by
    have := Int.neg_tmod n k
    have h3 := Int.tmod_lt_of_pos (-n) hk
    omega
  by_cases h : Int.tmod n k < 0
  · rw [if_pos h, w64 (by omega)]; exact Ans.ret (by omega)
  · rw [if_neg h]; exact Ans.ret (by omega))
theorem s_part_ch {a b m n : Int} (h : Reach a b) : Ans (F_make_Part (I2.mk a b) m 0) (fun r => ChC r.c0 r.c1 a b) := Ans.of (F_make_Part_of _ m 0) (by
  unfold Reach at h
  simp only [letIn]
  rw [w64 (n := b - a) (by omega), w64 (n := b - a + 1) (by omega)]
  refine Ans.bind (s_make_Round (by omega) (by omega)) fun y hy => ?_
  rw [w64 (n := a + y) (by omega)]
  have e : (IntKind.wrap .i64 ((BitVec.ofInt 64 0 &&& BitVec.ofInt 64 1).toNat : Nat) == 0 : Bool) = true := by decide
  rw [e, cond_true]
  exact Ans.ret ⟨rfl, by dsimp only; omega, by dsimp only; omega⟩)
def SrcOk (c : LI_I) : Prop := 0 ≤ c.c1 ∧ c.c1 ≤ c.c0.length ∧ c.c0.length ≤ 1152921504606846976
theorem s_make_Next {k : Int} (hk : 0 < k) (hk2 : k ≤ 4611686018427387904) {c : LI_I} (hc : SrcOk c) : Ans (F_make_Source_Next k c) (fun y => (0 ≤ y.1 ∧ y.1 < k) ∧ SrcOk y.2) := Ans.of (F_make_Source_Next_of k c) (by
  obtain ⟨h0, h1, h2⟩ := hc
  simp only [letIn, Bool.cond_decide]
  by_cases h : c.c1 ≥ ((c.c0.length : Nat) : Int)
  · rw [if_pos h]; exact Ans.ret ⟨by dsimp only; omega, h0, h1, h2⟩
  · rw [if_neg h, w64 (n := c.c1 + 1) (by omega), w64 (n := c.c1 + 1 - 1) (by omega), if_pos (by omega)]
    rw [nth_of_lt (l := c.c0) (i := (c.c1 + 1 - 1).toNat) (by omega)]
    simp only [Option.bind_some]
    refine Ans.bind (s_make_Round hk hk2) fun y hy => Ans.ret ⟨hy, ?_⟩
    unfold SrcOk; dsimp only; omega)
theorem nth_at {α : Type} {l : List α} {i : Nat} (h : i < l.length) : nth l (Int.toNat ((i : Nat) : Int)) = some l[i] := by
  rw [Int.toNat_natCast]; exact nth_of_lt h
theorem wi {i : Nat} (h : i ≤ 1152921504606846976) : IntKind.wrap .i64 (((i : Nat) : Int) + 1) = ((i + 1 : Nat) : Int) := by
  rw [w64 (by omega)]; omega
theorem s_make_Chosen_0 (l : List I6) (hl : AllR l) (h8 : l.length ≤ 8) : ∀ (d i : Nat), i + d = l.length → ∀ (c : LI_I) (es : List I6), SrcOk c → Chs es (l.take i) →
    Ans (L_make_Chosen_0 l ((i : Nat) : Int) c es) (fun r => Chs r l) := by
  intro d
  induction d with
  | zero =>
    intro i hi c es hc he
    refine Ans.of (L_make_Chosen_0_of _ _ _ _) ?_
    simp only [Bool.cond_decide]
    rw [if_neg (by omega)]
    rw [List.take_of_length_le (by omega)] at he
    exact Ans.ret he
  | succ d ih =>
    intro i hi c es hc he
    refine Ans.of (L_make_Chosen_0_of _ _ _ _) ?_
    have hlt : i < l.length := by omega
    have hr := hl _ (List.getElem_mem hlt)
    simp only [Bool.cond_decide, letIn]
    rw [if_pos (by omega)]
    refine Ans.bind (Q := fun p => p.1 = l ∧ p.2.1 = ((i : Nat) : Int) ∧ SrcOk p.2.2.1 ∧ p.2.2.2.1 = es ∧ ChPt p.2.2.2.2 l[i]) ?_ ?_
    · simp only [nth_at hlt, Option.bind_some, if_pos (show (0 : Int) ≤ (i : Int) by omega)]
      refine Ans.bind (s_make_Next (by omega) (by omega) hc) fun y1 h1 => ?_
      refine Ans.bind (s_part_ch (n := 0) hr.1) fun z1 k1 => ?_
      refine Ans.bind (s_make_Next (by omega) (by omega) h1.2) fun y2 h2 => ?_
      refine Ans.bind (s_part_ch (n := 0) hr.2.1) fun z2 k2 => ?_
      refine Ans.bind (s_make_Next (by omega) (by omega) h2.2) fun y3 h3 => ?_
      refine Ans.bind (s_part_ch (n := 0) hr.2.2) fun z3 k3 => ?_
      exact Ans.ret ⟨rfl, rfl, h3.2, rfl, k1, k2, k3⟩
    · rintro ⟨p1, p2, p3, p4, p5⟩ ⟨e1, e2, hs, e4, hp⟩
      dsimp only at e1 e2 hs e4 hp ⊢
      subst e1 e2 e4
      have hel := he.length
      rw [List.length_take] at hel
      rw [if_pos (by omega), wi (by omega)]
      refine ih (i + 1) (by omega) _ _ hs ?_
      rw [List.take_succ_eq_append_getElem hlt]
      exact he.snoc hp
theorem s_make_From (l : List Int) (hl : l.length ≤ 1152921504606846976) : Ans (F_make_From l) SrcOk := Ans.of (F_make_From_of l) (Ans.ret (by unfold SrcOk; dsimp only; omega))
theorem s_make_Chosen (l : List I6) (hl : AllR l) (h8 : l.length ≤ 8) (m : List Int) (hm : m.length ≤ 1152921504606846976) : Ans (F_make_Chosen l m) (fun r => Chs r l) := Ans.of (F_make_Chosen_of l m) (by
  refine Ans.bind (s_make_From m hm) fun y0 h0 => ?_
  refine Ans.bind (s_make_Chosen_0 l hl h8 l.length 0 (by omega) y0 [] h0 (by simp [Chs])) fun r hr => Ans.ret hr)
theorem comb_ch : ∀ {r l : List I6} {w : List Int} {c d : I6}, Chs r l → (∀ x ∈ w, 0 ≤ x) → ChPt c d → ChPt (comb c r w) (comb d l w)
  | [], [], w, c, d, _, _, h => by simp only [comb]; exact h
  | y :: r, x :: l, [], c, d, _, _, h => by simp only [comb]; exact h
  | y :: r, x :: l, v :: w, c, d, hr, hw, h => by
    simp only [comb]
    have hv := hw v (by simp)
    refine comb_ch hr.2 (fun z hz => hw z (by simp [hz])) ?_
    have key : ∀ {a b p q a' b' p' q' : Int}, ChC a b p q → ChC a' b' p' q' → ChC (a + v * a') (b + v * b') (p + v * p') (q + v * q') := by
      intro a b p q a' b' p' q' h1 h2
      have m1 := Int.mul_le_mul_of_nonneg_left h2.2.1 hv
      have m2 := Int.mul_le_mul_of_nonneg_left h2.2.2 hv
      obtain ⟨e1, f1, g1⟩ := h1
      obtain ⟨e2, f2, g2⟩ := h2
      subst e1 e2
      exact ⟨rfl, by omega, by omega⟩
    exact ⟨key h.1 hr.1.1, key h.2.1 hr.1.2.1, key h.2.2 hr.1.2.2⟩
  | [], _ :: _, _, _, _, h, _, _ => h.elim
  | _ :: _, [], _, _, _, h, _, _ => h.elim
theorem drop_at {α : Type} {l : List α} {i : Nat} (h : i < l.length) : l.drop i = l[i] :: l.drop (i + 1) := List.drop_eq_getElem_cons h
theorem s_make_Total_0 (w : List Int) (hw : ∀ x ∈ w, 0 ≤ x ∧ x ≤ 1000000000) (h8 : w.length ≤ 1000) : ∀ (d i : Nat), i + d = w.length → ∀ (t : Int), 0 ≤ t ∧ t ≤ 1000000000 * i →
    L_make_Total_0 w t ((i : Nat) : Int) = some (t + (w.drop i).sum) := by
  intro d
  induction d with
  | zero =>
    intro i hi t ht
    refine L_make_Total_0_of _ _ _ _ ?_
    have e2 : w.drop i = [] := by rw [List.drop_eq_nil_iff]; omega
    simp only [Bool.cond_decide]
    rw [if_neg (by omega), e2]; simp
  | succ d ih =>
    intro i hi t ht
    refine L_make_Total_0_of _ _ _ _ ?_
    have hlt : i < w.length := by omega
    have hx := hw _ (List.getElem_mem hlt)
    simp only [Bool.cond_decide, letIn, Option.bind_some, nth_at hlt, wi (show i ≤ 1152921504606846976 by omega)]
    rw [if_pos (by omega), if_pos (by omega), w64 (n := t + w[i]) (by omega), ih (i + 1) (by omega) _ (by omega), drop_at hlt, List.sum_cons, Int.add_assoc]
theorem s_make_Total (w : List Int) (hw : ∀ x ∈ w, 0 ≤ x ∧ x ≤ 1000000000) (h8 : w.length ≤ 1000) : F_make_Total w = some w.sum := F_make_Total_of w _ (by
  have := s_make_Total_0 w hw h8 w.length 0 (by omega) 0 (by omega)
  simp only [Int.natCast_zero, List.drop_zero, Int.zero_add] at this
  rw [this]; rfl)
theorem s_make_Signed {k : Int} (hk : 0 ≤ k) (hk2 : k ≤ 1000000000000) {c : LI_I} (hc : SrcOk c) : Ans (F_make_Source_Signed k c) (fun y => (-k ≤ y.1 ∧ y.1 ≤ k) ∧ SrcOk y.2) := Ans.of (F_make_Source_Signed_of k c) (by
  simp only [letIn]
  rw [w64 (n := 2 * k) (by omega), w64 (n := 2 * k + 1) (by omega)]
  refine Ans.bind (s_make_Next (by omega) (by omega) hc) fun y hy => ?_
  rw [w64 (n := y.1 - k) (by omega)]
  exact Ans.ret ⟨by dsimp only; omega, hy.2⟩)
theorem pcw {w c a b e : Int} (hw : 0 ≤ w ∧ w ≤ 1048576) (hc : -196608 ≤ c ∧ c ≤ 196608) (ha : -4 ≤ a ∧ a ≤ 4) (hb : -9 ≤ b ∧ b ≤ 9) (he : 0 ≤ e ∧ e < w + 1) :
    Pc w (IntKind.wrap .i64 (IntKind.wrap .i64 (c + IntKind.wrap .i64 (a * 32768)) + b)) (IntKind.wrap .i64 (IntKind.wrap .i64 (IntKind.wrap .i64 (c + IntKind.wrap .i64 (a * 32768)) + b) + e)) := by
  rw [w64 (n := a * 32768) (by omega), w64 (n := c + a * 32768) (by omega), w64 (n := c + a * 32768 + b) (by omega), w64 (n := c + a * 32768 + b + e) (by omega)]
  unfold Pc; omega
theorem s_make_Points_0 {w : Int} (hw : 0 ≤ w ∧ w ≤ 1048576) (o : I3) (ho : (-196608 ≤ o.c0 ∧ o.c0 ≤ 196608) ∧ (-196608 ≤ o.c1 ∧ o.c1 ≤ 196608) ∧ (-196608 ≤ o.c2 ∧ o.c2 ≤ 196608)) : ∀ (n : Nat) (c : LI_I) (es : List I6), n + es.length ≤ 5 → SrcOk c → (∀ x ∈ es, Pt w x) →
    Ans (L_make_Points_0 w ((n : Nat) : Int) c o es) (fun r => r.length = es.length + n ∧ ∀ x ∈ r, Pt w x) := by
  intro n
  induction n with
  | zero =>
    intro c es hn hc he
    refine Ans.of (L_make_Points_0_of _ _ _ _ _) ?_
    simp only [Bool.cond_decide]
    rw [if_neg (by omega)]
    exact Ans.ret ⟨by omega, he⟩
  | succ n ih =>
    intro c es hn hc he
    refine Ans.of (L_make_Points_0_of _ _ _ _ _) ?_
    simp only [Bool.cond_decide, letIn]
    rw [if_pos (by omega), w64 (n := w + 1) (by omega)]
    refine Ans.bind (Q := fun p => p.1 = w ∧ p.2.1 = ((n + 1 : Nat) : Int) ∧ SrcOk p.2.2.1 ∧ p.2.2.2.1 = o ∧ p.2.2.2.2.1 = es ∧ Pt w p.2.2.2.2.2) ?_ ?_
    · refine Ans.bind (s_make_Signed (by omega) (by omega) hc) fun y1 h1 => ?_
      refine Ans.bind (s_make_Signed (by omega) (by omega) h1.2) fun y2 h2 => ?_
      refine Ans.bind (s_make_Next (by omega) (by omega) h2.2) fun y3 h3 => ?_
      refine Ans.bind (s_make_Signed (by omega) (by omega) h3.2) fun y4 h4 => ?_
      refine Ans.bind (s_make_Signed (by omega) (by omega) h4.2) fun y5 h5 => ?_
      refine Ans.bind (s_make_Next (by omega) (by omega) h5.2) fun y6 h6 => ?_
      refine Ans.bind (s_make_Signed (by omega) (by omega) h6.2) fun y7 h7 => ?_
      refine Ans.bind (s_make_Signed (by omega) (by omega) h7.2) fun y8 h8 => ?_
      refine Ans.bind (s_make_Next (by omega) (by omega) h8.2) fun y9 h9 => ?_
      refine Ans.ret ⟨rfl, rfl, h9.2, rfl, rfl, ?_⟩
      exact ⟨pcw hw ho.1 h1.1 h2.1 h3.1, pcw hw ho.2.1 h4.1 h5.1 h6.1, pcw hw ho.2.2 h7.1 h8.1 h9.1⟩
    · rintro ⟨p1, p2, p3, p4, p5, p6⟩ ⟨e1, e2, hs, e4, e5, hp⟩
      dsimp only at e1 e2 hs e4 e5 hp ⊢
      subst e1 e2 e4 e5
      rw [if_pos (by omega), w64 (n := ((n + 1 : Nat) : Int) - 1) (by omega), show ((n + 1 : Nat) : Int) - 1 = ((n : Nat) : Int) by omega]
      refine (ih p3 (p5 ++ [p6]) (by simp; omega) hs ?_).mono fun r hr => ⟨by rw [hr.1]; simp; omega, hr.2⟩
      intro x hx
      rcases List.mem_append.1 hx with hx | hx
      · exact he x hx
      · simp at hx; subst hx; exact hp
theorem s_make_Points (l : List Int) (hl : l.length ≤ 1152921504606846976) {w : Int} (hw : 0 ≤ w ∧ w ≤ 1048576) : Ans (F_make_Points l w) (fun r => (1 ≤ r.length ∧ r.length ≤ 5) ∧ ∀ x ∈ r, Pt w x) := Ans.of (F_make_Points_of l w) (by
  simp only [letIn]
  refine Ans.bind (s_make_From l hl) fun y0 h0 => ?_
  refine Ans.bind (s_make_Signed (by omega) (by omega) h0) fun y1 h1 => ?_
  refine Ans.bind (s_make_Signed (by omega) (by omega) h1.2) fun y2 h2 => ?_
  refine Ans.bind (s_make_Signed (by omega) (by omega) h2.2) fun y3 h3 => ?_
  refine Ans.bind (s_make_Next (by omega) (by omega) h3.2) fun y4 h4 => ?_
  rw [w64 (n := y1.1 * 32768) (by omega), w64 (n := y2.1 * 32768) (by omega), w64 (n := y3.1 * 32768) (by omega), w64 (n := 1 + y4.1) (by omega)]
  obtain ⟨n, hn⟩ : ∃ n : Nat, 1 + y4.1 = ((n : Nat) : Int) := ⟨(1 + y4.1).toNat, by omega⟩
  rw [hn]
  refine Ans.bind (s_make_Points_0 hw ⟨y1.1 * 32768, y2.1 * 32768, y3.1 * 32768⟩ (by dsimp only; omega) n y4.2 [] (by simp; omega) h4.2 (by simp)) fun r hr => ?_
  exact Ans.ret ⟨by have := hr.1; simp at this; omega, hr.2⟩)
theorem placed_of {w : Int} (hw : w ≤ 1048576) {l : List I6} (h : (1 ≤ l.length ∧ l.length ≤ 5) ∧ ∀ x ∈ l, Pt w x) : PlacedP l :=
  ⟨fun x hx => (h.2 x hx).reach hw, h.1.1, by omega⟩
theorem upd_sum : ∀ {l : List Int} {i : Nat} {x y : Int}, nth l i = some x → (upd l i y).sum = l.sum - x + y
  | a :: l, 0, x, y, h => by simp only [nth, Option.some.injEq] at h; subst h; simp only [upd, List.sum_cons]; omega
  | a :: l, i + 1, x, y, h => by
    simp only [nth] at h
    have := upd_sum (y := y) h
    simp only [upd, List.sum_cons, this]; omega
theorem upd_mem : ∀ {l : List Int} {i : Nat} {y z : Int}, z ∈ upd l i y → z ∈ l ∨ z = y
  | a :: l, 0, y, z, h => by
    simp only [upd, List.mem_cons] at h
    rcases h with h | h
    · exact .inr h
    · exact .inl (by simp [h])
  | a :: l, i + 1, y, z, h => by
    simp only [upd, List.mem_cons] at h
    rcases h with h | h
    · exact .inl (by simp [h])
    · rcases upd_mem h with h | h
      · exact .inl (by simp [h])
      · exact .inr h
theorem sum_le : ∀ {l : List Int} {b : Int}, (∀ x ∈ l, x ≤ b) → l.sum ≤ b * l.length
  | [], b, _ => by simp
  | x :: l, b, h => by
    have := sum_le (l := l) (b := b) fun y hy => h y (by simp [hy])
    have := h x (by simp)
    simp only [List.sum_cons, List.length_cons]
    have e : b * ((l.length + 1 : Nat) : Int) = b * (l.length : Int) + b := by rw [Int.natCast_add, Int.mul_add]; simp
    rw [e]; omega
theorem s_make_Weights_0 (m : Nat) (hm : m ≤ 8) : ∀ (d i : Nat), i + d = m → ∀ (c : LI_I) (es : List Int), SrcOk c → es.length = i → (∀ x ∈ es, 0 ≤ x ∧ x ≤ 8) →
    Ans (L_make_Weights_0 ((m : Nat) : Int) ((i : Nat) : Int) c es) (fun r => r.1 = ((m : Nat) : Int) ∧ SrcOk r.2.1 ∧ r.2.2.length = m ∧ ∀ x ∈ r.2.2, 0 ≤ x ∧ x ≤ 8) := by
  intro d
  induction d with
  | zero =>
    intro i hi c es hc hl he
    refine Ans.of (L_make_Weights_0_of _ _ _ _) ?_
    simp only [Bool.cond_decide]
    rw [if_neg (by omega)]
    exact Ans.ret ⟨rfl, hc, by dsimp only; omega, he⟩
  | succ d ih =>
    intro i hi c es hc hl he
    refine Ans.of (L_make_Weights_0_of _ _ _ _) ?_
    simp only [Bool.cond_decide, letIn]
    rw [if_pos (by omega)]
    refine Ans.bind (s_make_Next (by omega) (by omega) hc) fun y hy => ?_
    rw [if_pos (by omega), wi (by omega)]
    refine ih (i + 1) (by omega) y.2 (es ++ [y.1]) hy.2 (by simp; omega) ?_
    intro x hx
    rcases List.mem_append.1 hx with hx | hx
    · exact he x hx
    · simp at hx; subst hx; omega
theorem sum_nonneg : ∀ {w : List Int}, (∀ x ∈ w, 0 ≤ x) → 0 ≤ w.sum
  | [], _ => by simp
  | x :: w, h => by
    have := sum_nonneg (w := w) fun y hy => h y (by simp [hy])
    have := h x (by simp)
    rw [List.sum_cons]; omega
theorem s_make_Weights (m : Nat) (hm : 1 ≤ m ∧ m ≤ 8) (l : List Int) (hl : l.length ≤ 1152921504606846976) : Ans (F_make_Weights ((m : Nat) : Int) l) (fun r => r.length = m ∧ (∀ x ∈ r, 0 ≤ x ∧ x ≤ 9) ∧ 1 ≤ r.sum ∧ r.sum ≤ 65) := Ans.of (F_make_Weights_of _ l) (by
  simp only [Bool.cond_decide, letIn]
  refine Ans.bind (s_make_From l hl) fun y0 h0 => ?_
  refine Ans.bind (s_make_Weights_0 m hm.2 m 0 (by omega) y0 [] h0 rfl (by simp)) ?_
  rintro ⟨p1, p2, p3⟩ ⟨rfl, h2, h3, h4⟩
  dsimp only at h2 h3 h4 ⊢
  rw [if_pos (by omega)]
  refine Ans.bind (s_make_Next (by omega) (by omega) h2) fun y hy => ?_
  rw [if_pos (by omega)]
  have hlt : y.1.toNat < p3.length := by omega
  have hx := h4 _ (List.getElem_mem hlt)
  rw [nth_of_lt hlt]
  simp only [Option.bind_some, if_pos hy.1.1]
  rw [w64 (n := p3[y.1.toNat] + 1) (by omega)]
  refine Ans.ret ⟨by rw [upd_length]; exact h3, ?_, ?_⟩
  · intro z hz
    rcases upd_mem hz with hz | hz
    · have := h4 z hz; omega
    · omega
  · rw [upd_sum (nth_of_lt hlt)]
    have s0 := sum_nonneg (w := p3) fun x hx => (h4 x hx).1
    have s1 := sum_le (l := p3) (b := 8) fun x hx => (h4 x hx).2
    rw [h3] at s1
    omega)
theorem len_test (n : Nat) : (if (((n : Nat) : Int)) ≥ 1 then some (decide ((((n : Nat) : Int)) ≤ 8)) else some false) = some (decide (1 ≤ n ∧ n ≤ 8)) := by
  by_cases h1 : 1 ≤ n
  · rw [if_pos (by omega)]; congr 1
    rw [Bool.eq_iff_iff, decide_eq_true_eq, decide_eq_true_eq]; omega
  · rw [if_neg (by omega), decide_eq_false (by omega)]
theorem s_shape_reaches (a : I2) : F_shape_reaches a = some (decide (Reach a.c0 a.c1)) := by
  rw [F_shape_reaches_eq]; congr 1
  rw [Bool.eq_iff_iff, decide_eq_true_eq]
  simp [G_shape_reaches, Reach, Bool.cond_decide]
theorem s_shape_Placed_0 (u l : List I6) (hl : l.length ≤ 1152921504606846976) : ∀ (d i : Nat), i + d = l.length →
    L_shape_Placed_0 u l ((l.length : Nat) : Int) ((i : Nat) : Int) = some (if AllR (l.drop i) then .inr u else .inl false) := by
  intro d
  induction d with
  | zero =>
    intro i hi
    refine L_shape_Placed_0_of _ _ _ _ _ ?_
    have e : l.drop i = [] := by rw [List.drop_eq_nil_iff]; omega
    rw [e, if_pos (by simp [AllR])]
    simp only [Bool.cond_decide]
    rw [if_neg (by omega)]
  | succ d ih =>
    intro i hi
    refine L_shape_Placed_0_of _ _ _ _ _ ?_
    have hlt : i < l.length := by omega
    simp only [Bool.cond_decide, letIn, s_shape_reaches, Option.bind_some, nth_at hlt, wi (show i ≤ 1152921504606846976 by omega)]
    rw [if_pos (by omega), if_pos (by omega), ih (i + 1) (by omega), drop_at hlt]
    simp only [AllR.cons, Reach6]
    by_cases h1 : Reach l[i].c0 l[i].c1
    · by_cases h2 : Reach l[i].c2 l[i].c3
      · by_cases h3 : Reach l[i].c4 l[i].c5 <;> simp [h1, h2, h3]
      · simp [h1, h2]
    · simp [h1]
theorem s_shape_Placed (l : List I6) (hl : l.length ≤ 1152921504606846976) : F_shape_Placed l = some (decide (PlacedP l)) := F_shape_Placed_of l _ (by
  have := s_shape_Placed_0 l l hl l.length 0 (by omega)
  rw [List.drop_zero] at this
  simp only [Int.natCast_zero] at this
  rw [this]
  simp only [Option.bind_some, PlacedP]
  by_cases h : AllR l
  · simp only [h, if_true, true_and, Bool.cond_decide]
    exact len_test l.length
  · simp [h])
theorem Reach6.in6 {x : I6} (h : Reach6 x) : In6 268435456 x := by unfold Reach6 Reach at h; unfold In6; omega
theorem pw {w x : Int} (hw : 0 ≤ w ∧ w ≤ 65536) (hx : -268435456 ≤ x ∧ x ≤ 268435456) : -17592186044416 ≤ w * x ∧ w * x ≤ 17592186044416 :=
  mul_bd (m := 65536) (n := 268435456) (by omega) (by omega) (by omega) (by omega)
theorem addw_in {b : Int} {c x : I6} {w : Int} (hc : In6 b c) (hx : In6 268435456 x) (hw : 0 ≤ w ∧ w ≤ 65536) : In6 (b + 17592186044416) (addw c w x) := by
  obtain ⟨x0, x1, x2, x3, x4, x5⟩ := hx
  have p0 := pw hw x0; have p1 := pw hw x1; have p2 := pw hw x2; have p3 := pw hw x3; have p4 := pw hw x4; have p5 := pw hw x5
  unfold In6 at hc; unfold In6 addw; dsimp only
  generalize w * x.c0 = y0 at *; generalize w * x.c1 = y1 at *; generalize w * x.c2 = y2 at *; generalize w * x.c3 = y3 at *; generalize w * x.c4 = y4 at *; generalize w * x.c5 = y5 at *
  omega
/-- one round's sums do not overflow -/
theorem addw_wrap {b : Int} {c x : I6} {w : Int} (hb : 0 ≤ b ∧ b ≤ 1000000000000000000) (hc : In6 b c) (hx : In6 268435456 x) (hw : 0 ≤ w ∧ w ≤ 65536) :
    I6.mk (IntKind.wrap .i64 (c.c0 + IntKind.wrap .i64 (w * x.c0))) (IntKind.wrap .i64 (c.c1 + IntKind.wrap .i64 (w * x.c1))) (IntKind.wrap .i64 (c.c2 + IntKind.wrap .i64 (w * x.c2))) (IntKind.wrap .i64 (c.c3 + IntKind.wrap .i64 (w * x.c3))) (IntKind.wrap .i64 (c.c4 + IntKind.wrap .i64 (w * x.c4))) (IntKind.wrap .i64 (c.c5 + IntKind.wrap .i64 (w * x.c5))) = addw c w x := by
  obtain ⟨x0, x1, x2, x3, x4, x5⟩ := hx
  have p0 := pw hw x0; have p1 := pw hw x1; have p2 := pw hw x2; have p3 := pw hw x3; have p4 := pw hw x4; have p5 := pw hw x5
  unfold In6 at hc
  unfold addw
  rw [w64 (n := w * x.c0) (by omega), w64 (n := w * x.c1) (by omega), w64 (n := w * x.c2) (by omega), w64 (n := w * x.c3) (by omega), w64 (n := w * x.c4) (by omega), w64 (n := w * x.c5) (by omega)]
  rw [w64 (n := c.c0 + w * x.c0) (by omega), w64 (n := c.c1 + w * x.c1) (by omega), w64 (n := c.c2 + w * x.c2) (by omega), w64 (n := c.c3 + w * x.c3) (by omega), w64 (n := c.c4 + w * x.c4) (by omega), w64 (n := c.c5 + w * x.c5) (by omega)]
theorem s_shape_Combine_0 (l : List I6) (w : List Int) (hl : AllR l) (hn : w.length = l.length) (h8 : l.length ≤ 8) : ∀ (d i : Nat), i + d = l.length → ∀ (t : Int) (c9 c : I6), 0 ≤ t ∧ t ≤ 65536 * i → In6 (17592186044416 * i) c →
    L_shape_Combine_0 l t w ((w.length : Nat) : Int) ((i : Nat) : Int) c9 c = some (if AllW (w.drop i) then .inr (t + (w.drop i).sum, c9, comb c (l.drop i) (w.drop i)) else .inl (0, false, Z6)) := by
  intro d
  induction d with
  | zero =>
    intro i hi t c9 c ht hc
    refine L_shape_Combine_0_of _ _ _ _ _ _ _ _ ?_
    have e : l.drop i = [] := by rw [List.drop_eq_nil_iff]; omega
    have e2 : w.drop i = [] := by rw [List.drop_eq_nil_iff]; omega
    rw [e, e2, if_pos (by simp [AllW])]
    simp only [Bool.cond_decide]
    rw [if_neg (by omega)]
    simp [comb]
  | succ d ih =>
    intro i hi t c9 c ht hc
    refine L_shape_Combine_0_of _ _ _ _ _ _ _ _ ?_
    have hlt : i < l.length := by omega
    have hlw : i < w.length := by omega
    have hr : Reach6 l[i] := hl _ (List.getElem_mem hlt)
    simp only [Bool.cond_decide, letIn, Option.bind_some, nth_at hlt, nth_at hlw, wi (show i ≤ 1152921504606846976 by omega)]
    simp only [if_pos (show (0 : Int) ≤ (i : Int) by omega)]
    rw [if_pos (by omega), drop_at hlt, drop_at hlw]
    simp only [AllW.cons]
    by_cases h1 : w[i] < 0
    · rw [if_pos h1, if_neg (by omega)]; rfl
    · rw [if_neg h1]
      by_cases h2 : w[i] > 65536
      · rw [if_pos h2, if_neg (by omega)]; rfl
      · rw [if_neg h2, addw_wrap (b := 17592186044416 * i) (by omega) hc hr.in6 (by omega), w64 (n := t + w[i]) (by omega)]
        have hc2 := addw_in hc hr.in6 (w := w[i]) (by omega)
        rw [show (17592186044416 : Int) * (i : Int) + 17592186044416 = 17592186044416 * ((i + 1 : Nat) : Int) by omega] at hc2
        simp only [Option.bind_some, wi (show i ≤ 1152921504606846976 by omega)]
        rw [ih (i + 1) (by omega) (t + w[i]) c9 _ (by omega) hc2]
        have hw' : 0 ≤ w[i] ∧ w[i] ≤ 65536 := by omega
        by_cases h3 : AllW (w.drop (i + 1))
        · rw [if_pos h3, if_pos ⟨hw', h3⟩, List.sum_cons]
          simp only [comb, Int.add_assoc]
        · rw [if_neg h3, if_neg (fun q => h3 q.2)]
theorem le_sum : ∀ {w : List Int}, (∀ x ∈ w, 0 ≤ x) → ∀ x ∈ w, x ≤ w.sum
  | [], _, x, hx => by cases hx
  | y :: w, h, x, hx => by
    have h1 := sum_nonneg (w := w) fun z hz => h z (by simp [hz])
    have h2 := h y (by simp)
    rw [List.sum_cons]
    rcases List.mem_cons.1 hx with rfl | hx
    · omega
    · have := le_sum (w := w) (fun z hz => h z (by simp [hz])) x hx
      omega
theorem WOk.allW {w : List Int} (h : WOk w) : AllW w := fun x hx => ⟨h.1 x hx, Int.le_trans (le_sum h.1 x hx) h.2⟩
theorem In6.z : In6 0 Z6 := by unfold In6 Z6; simp
theorem s_shape_Combine (l : List I6) (w : List Int) (hl : l.length ≤ 1152921504606846976) : F_shape_Combine l w = some (combS l w) := F_shape_Combine_of l w _ (by
  simp only [s_shape_Placed l hl, Option.bind_some]
  unfold combS
  by_cases hp : PlacedP l
  · by_cases hn : w.length = l.length
    · have := s_shape_Combine_0 l w hp.1 hn hp.2.2 l.length 0 (by omega) 0 Z6 Z6 (by omega) (by simpa using In6.z)
      simp only [List.drop_zero, Int.natCast_zero, Int.zero_add] at this
      have hne : ((((w.length : Nat) : Int)) != (((l.length : Nat) : Int))) = false := by simp [hn]
      simp only [hp, decide_true, Bool.not_true, cond_false, hne]
      rw [show (I6.mk 0 0 0 0 0 0) = Z6 from rfl, this]
      by_cases hw : AllW w
      · simp only [hw, if_true, Option.bind_some, Bool.cond_decide]
        have h0 : ∀ x ∈ w, 0 ≤ x := fun x hx => (hw x hx).1
        by_cases h1 : w.sum < 1
        · rw [if_pos h1, if_neg (fun q => by have := q.2.2.2; omega)]
        · rw [if_neg h1]
          by_cases h2 : w.sum > 65536
          · rw [if_pos h2, if_neg (fun q => by have := q.2.2.1.2; omega)]
          · rw [if_neg h2, if_pos ⟨hp, hn, ⟨h0, by omega⟩, by omega⟩]
      · simp only [hw, if_false, Option.bind_some]
        rw [if_neg (fun q => hw q.2.2.1.allW)]
    · have hne : ((((w.length : Nat) : Int)) != (((l.length : Nat) : Int))) = true := by simp; omega
      simp only [hp, decide_true, Bool.not_true, cond_false, hne, cond_true]
      rw [if_neg (fun q => hn q.2.1)]; rfl
  · simp only [hp, decide_false, Bool.not_false, cond_true]
    rw [if_neg (fun q => hp q.1)]; rfl)
theorem law_law10_ShapeCombineWithin (l m n : List Int) (h3 : l.length * 8 ≤ reachBytes) (b3 : ∀ x ∈ l, BI x) (h4 : m.length * 8 ≤ reachBytes) (b4 : ∀ x ∈ m, BI x) (h5 : n.length * 8 ≤ reachBytes) (b5 : ∀ x ∈ n, BI x) :
    F_law10_ShapeCombineWithin l m n = some true := F_law10_ShapeCombineWithin_of l m n _ (by
  obtain ⟨x, hx, hp⟩ := s_make_Points l (rb h3 (by omega)) (w := 3000) (by omega)
  obtain ⟨w, hw, wl, wb, ws1, ws2⟩ := s_make_Weights x.length (by omega) m (rb h4 (by omega))
  have hxl : x.length ≤ 1152921504606846976 := by omega
  have hpl := placed_of (by omega) hp
  obtain ⟨y, hy, hc⟩ := s_make_Chosen x hpl.1 hpl.2.2 n (rb h5 (by omega))
  have hyl := hc.length
  have hpy : PlacedP y := ⟨hc.reach hpl.1, by have := hpl.2; omega, by have := hpl.2; omega⟩
  have w0 : ∀ z ∈ w, 0 ≤ z := fun z hz => (wb z hz).1
  have ok1 : CombOk x w := combOk_of hpl wl w0 ws1 (by omega)
  have ok2 : CombOk y w := combOk_of hpy (by omega) w0 ws1 (by omega)
  have hz : ChPt Z6 Z6 := by unfold ChPt ChC Z6; simp
  obtain ⟨⟨a1, a2, a3⟩, ⟨b1, b2, b3'⟩, ⟨c1, c2, c3⟩⟩ := comb_ch hc w0 hz
  have tot := s_make_Total w (fun z hz => ⟨(wb z hz).1, by have := (wb z hz).2; omega⟩) (by omega)
  simp only [hx, hw, hy, Option.bind_some, s_shape_Combine x _ hxl, s_shape_Combine y _ (show y.length ≤ 1152921504606846976 by omega), combS_ok ok1, combS_ok ok2, law10_awake, Bool.cond_decide]
  generalize comb Z6 y w = p at *
  generalize comb Z6 x w = q at *
  have e1 : (p.c0 != p.c1) = false := by simp [a1]
  have e2 : (p.c2 != p.c3) = false := by simp [b1]
  have e3 : (p.c4 != p.c5) = false := by simp [c1]
  rw [e1, e2, e3]
  simp only [cond_false]
  rw [if_neg (by omega), if_neg (by omega), if_neg (by omega), if_neg (by omega), if_neg (by omega), if_neg (by omega)]
  simp [tot])
end Go.Proofs.Ytfpdjpleplhcgaa.Am
