/- What the law law_law13_SupportDots computes, without levels: it is true. -/
import Derived.Test.YtfpdjpleplhcgaaF0
import Derived.Test.YtfpdjpleplhcgaaAmRow2
import Derived.IntWalk
set_option linter.unusedVariables false
set_option linter.unusedSimpArgs false
set_option maxRecDepth 100000
namespace Go.Proofs.Ytfpdjpleplhcgaa.Am
open Go Go.IntWalk

theorem w64 {n : Int} (h : -9223372036854775808 ≤ n ∧ n ≤ 9223372036854775807) : IntKind.wrap .i64 n = n := i64_in n h
theorem den_const {α β : Type} {e : β → α} (inj : ∀ a b, e a = e b → a = b) {x : Nat → Option α} (k : Nat) {r : β} (h : ∀ n, x (n + k) = some (e r)) : den e x = some r :=
  den_of inj k (y := some r) (fun r' hr => by cases hr; exact ⟨0, fun n _ => h n⟩) rfl
/-- a valid interval -/
def V2 (a : I2) : Prop := -2147483648 ≤ a.c0 ∧ a.c0 ≤ a.c1 ∧ a.c1 ≤ 2147483648
instance V2.dec (a : I2) : Decidable (V2 a) := by unfold V2; exact inferInstance
def WithinI (a b : I2) : Prop := V2 a ∧ V2 b ∧ b.c0 ≤ a.c0 ∧ a.c1 ≤ b.c1
instance WithinI.dec (a b : I2) : Decidable (WithinI a b) := by unfold WithinI; exact inferInstance
theorem WithinI.mk {a0 a1 b0 b1 : Int} (h0 : -2147483648 ≤ b0) (h1 : b0 ≤ a0) (h2 : a0 ≤ a1) (h3 : a1 ≤ b1) (h4 : b1 ≤ 2147483648) : WithinI ⟨a0, a1⟩ ⟨b0, b1⟩ := by
  unfold WithinI V2; dsimp only; omega
/-- all components within a bound -/
def In6 (b : Int) (c : I6) : Prop := (-b ≤ c.c0 ∧ c.c0 ≤ b) ∧ (-b ≤ c.c1 ∧ c.c1 ≤ b) ∧ (-b ≤ c.c2 ∧ c.c2 ≤ b) ∧ (-b ≤ c.c3 ∧ c.c3 ≤ b) ∧ (-b ≤ c.c4 ∧ c.c4 ≤ b) ∧ (-b ≤ c.c5 ∧ c.c5 ≤ b)
theorem In6.mono {a b : Int} (h : a ≤ b) {c : I6} (hc : In6 a c) : In6 b c := by unfold In6 at *; omega
def ChC (a b x y : Int) : Prop := a = b ∧ x ≤ a ∧ a ≤ y
def ChPt (y x : I6) : Prop := ChC y.c0 y.c1 x.c0 x.c1 ∧ ChC y.c2 y.c3 x.c2 x.c3 ∧ ChC y.c4 y.c5 x.c4 x.c5
def Chs : List I6 → List I6 → Prop
  | [], [] => True
  | y :: r, x :: l => ChPt y x ∧ Chs r l
  | _, _ => False
theorem Chs.length : ∀ {r l : List I6}, Chs r l → r.length = l.length
  | [], [], _ => rfl
  | y :: r, x :: l, h => by simp [Chs.length h.2]
  | [], _ :: _, h => h.elim
  | _ :: _, [], h => h.elim
def SrcOk (c : LI_I) : Prop := 0 ≤ c.c1 ∧ c.c1 ≤ c.c0.length ∧ c.c0.length ≤ 1152921504606846976
theorem s_make_From (l : List Int) (hl : l.length ≤ 1152921504606846976) : Ans (F_make_From l) SrcOk := Ans.of (F_make_From_of l) (Ans.ret (by unfold SrcOk; dsimp only; omega))
theorem s_make_Round {n k : Int} (hk : 0 < k) (hk2 : k ≤ 4611686018427387904) : Ans (F_make_Round n k) (fun r => 0 ≤ r ∧ r < k) := Ans.of (F_make_Round_of n k) (by
  have hne : (k == 0) = false := by simp; omega
  simp only [hne, cond_false, letIn, Bool.cond_decide]
  have h1 := Int.tmod_lt_of_pos n hk
  have h2 : -k < Int.tmod n k := by
    have := Int.neg_tmod n k
    have h3 := Int.tmod_lt_of_pos (-n) hk
    omega
  by_cases h : Int.tmod n k < 0
  · rw [if_pos h, w64 (by omega)]; exact Ans.ret (by omega)
  · rw [if_neg h]; exact Ans.ret (by omega))
theorem s_make_Next {k : Int} (hk : 0 < k) (hk2 : k ≤ 4611686018427387904) {c : LI_I} (hc : SrcOk c) : Ans (F_make_Source_Next k c) (fun y => (0 ≤ y.1 ∧ y.1 < k) ∧ SrcOk y.2) := Ans.of (F_make_Source_Next_of k c) (by
  obtain ⟨h0, h1, h2⟩ := hc
  simp only [letIn, Bool.cond_decide]
  by_cases h : c.c1 ≥ ((c.c0.length : Nat) : Int)
  · rw [if_pos h]; exact Ans.ret ⟨by dsimp only; omega, h0, h1, h2⟩
  · rw [if_neg h, w64 (n := c.c1 + 1) (by omega), w64 (n := c.c1 + 1 - 1) (by omega), if_pos (by omega)]
    rw [nth_of_lt (l := c.c0) (i := (c.c1 + 1 - 1).toNat) (by omega)]
    simp only [Option.bind_some]
    refine Ans.bind (s_make_Round hk hk2) fun y hy => Ans.ret ⟨hy, ?_⟩
    unfold SrcOk; dsimp only; omega)
theorem s_make_Signed {k : Int} (hk : 0 ≤ k) (hk2 : k ≤ 1000000000000) {c : LI_I} (hc : SrcOk c) : Ans (F_make_Source_Signed k c) (fun y => (-k ≤ y.1 ∧ y.1 ≤ k) ∧ SrcOk y.2) := Ans.of (F_make_Source_Signed_of k c) (by
  simp only [letIn]
  rw [w64 (n := 2 * k) (by omega), w64 (n := 2 * k + 1) (by omega)]
  refine Ans.bind (s_make_Next (by omega) (by omega) hc) fun y hy => ?_
  rw [w64 (n := y.1 - k) (by omega)]
  exact Ans.ret ⟨by dsimp only; omega, hy.2⟩)
/-- a made point: boxes of bounded width near the origin -/
def Pc (w a b : Int) : Prop := -327689 ≤ a ∧ a ≤ 327689 ∧ a ≤ b ∧ b ≤ a + w
def Pt (w : Int) (x : I6) : Prop := Pc w x.c0 x.c1 ∧ Pc w x.c2 x.c3 ∧ Pc w x.c4 x.c5
theorem pcw {w c a b e : Int} (hw : 0 ≤ w ∧ w ≤ 1048576) (hc : -196608 ≤ c ∧ c ≤ 196608) (ha : -4 ≤ a ∧ a ≤ 4) (hb : -9 ≤ b ∧ b ≤ 9) (he : 0 ≤ e ∧ e < w + 1) :
    Pc w (IntKind.wrap .i64 (IntKind.wrap .i64 (c + IntKind.wrap .i64 (a * 32768)) + b)) (IntKind.wrap .i64 (IntKind.wrap .i64 (IntKind.wrap .i64 (c + IntKind.wrap .i64 (a * 32768)) + b) + e)) := by
  rw [w64 (n := a * 32768) (by omega), w64 (n := c + a * 32768) (by omega), w64 (n := c + a * 32768 + b) (by omega), w64 (n := c + a * 32768 + b + e) (by omega)]
  unfold Pc; omega
theorem s_make_Points_0 {w : Int} (hw : 0 ≤ w ∧ w ≤ 1048576) (o : I3) (ho : (-196608 ≤ o.c0 ∧ o.c0 ≤ 196608) ∧ (-196608 ≤ o.c1 ∧ o.c1 ≤ 196608) ∧ (-196608 ≤ o.c2 ∧ o.c2 ≤ 196608)) : ∀ (n : Nat) (c : LI_I) (es : List I6), n + es.length ≤ 5 → SrcOk c → (∀ x ∈ es, Pt w x) →
    Ans (L_make_Points_0 w ((n : Nat) : Int) c o es) (fun r => r.length = es.length + n ∧ ∀ x ∈ r, Pt w x) := by
  intro n
  induction n with
  | zero =>
    intro c es hn hc he
    refine Ans.of (L_make_Points_0_of _ _ _ _ _) ?_
    simp only [Bool.cond_decide]
    rw [if_neg (by omega)]
    exact Ans.ret ⟨by omega, he⟩
  | succ n ih =>
    intro c es hn hc he
    refine Ans.of (L_make_Points_0_of _ _ _ _ _) ?_
    simp only [Bool.cond_decide, letIn]
    rw [if_pos (by omega), w64 (n := w + 1) (by omega)]
    refine Ans.bind (Q := fun p => p.1 = w ∧ p.2.1 = ((n + 1 : Nat) : Int) ∧ SrcOk p.2.2.1 ∧ p.2.2.2.1 = o ∧ p.2.2.2.2.1 = es ∧ Pt w p.2.2.2.2.2) ?_ ?_
    · refine Ans.bind (s_make_Signed (by omega) (by omega) hc) fun y1 h1 => ?_
      refine Ans.bind (s_make_Signed (by omega) (by omega) h1.2) fun y2 h2 => ?_
      refine Ans.bind (s_make_Next (by omega) (by omega) h2.2) fun y3 h3 => ?_
      refine Ans.bind (s_make_Signed (by omega) (by omega) h3.2) fun y4 h4 => ?_
      refine Ans.bind (s_make_Signed (by omega) (by omega) h4.2) fun y5 h5 => ?_
      refine Ans.bind (s_make_Next (by omega) (by omega) h5.2) fun y6 h6 => ?_
      refine Ans.bind (s_make_Signed (by omega) (by omega) h6.2) fun y7 h7 => ?_
      refine Ans.bind (s_make_Signed (by omega) (by omega) h7.2) fun y8 h8 => ?_
      refine Ans.bind (s_make_Next (by omega) (by omega) h8.2) fun y9 h9 => ?_
      refine Ans.ret ⟨rfl, rfl, h9.2, rfl, rfl, ?_⟩
      exact ⟨pcw hw ho.1 h1.1 h2.1 h3.1, pcw hw ho.2.1 h4.1 h5.1 h6.1, pcw hw ho.2.2 h7.1 h8.1 h9.1⟩
    · rintro ⟨p1, p2, p3, p4, p5, p6⟩ ⟨e1, e2, hs, e4, e5, hp⟩
      dsimp only at e1 e2 hs e4 e5 hp ⊢
      subst e1 e2 e4 e5
      rw [if_pos (by omega), w64 (n := ((n + 1 : Nat) : Int) - 1) (by omega), show ((n + 1 : Nat) : Int) - 1 = ((n : Nat) : Int) by omega]
      refine (ih p3 (p5 ++ [p6]) (by simp; omega) hs ?_).mono fun r hr => ⟨by rw [hr.1]; simp; omega, hr.2⟩
      intro x hx
      rcases List.mem_append.1 hx with hx | hx
      · exact he x hx
      · simp at hx; subst hx; exact hp
theorem s_make_Points (l : List Int) (hl : l.length ≤ 1152921504606846976) {w : Int} (hw : 0 ≤ w ∧ w ≤ 1048576) : Ans (F_make_Points l w) (fun r => (1 ≤ r.length ∧ r.length ≤ 5) ∧ ∀ x ∈ r, Pt w x) := Ans.of (F_make_Points_of l w) (by
  simp only [letIn]
  refine Ans.bind (s_make_From l hl) fun y0 h0 => ?_
  refine Ans.bind (s_make_Signed (by omega) (by omega) h0) fun y1 h1 => ?_
  refine Ans.bind (s_make_Signed (by omega) (by omega) h1.2) fun y2 h2 => ?_
  refine Ans.bind (s_make_Signed (by omega) (by omega) h2.2) fun y3 h3 => ?_
  refine Ans.bind (s_make_Next (by omega) (by omega) h3.2) fun y4 h4 => ?_
  rw [w64 (n := y1.1 * 32768) (by omega), w64 (n := y2.1 * 32768) (by omega), w64 (n := y3.1 * 32768) (by omega), w64 (n := 1 + y4.1) (by omega)]
  obtain ⟨n, hn⟩ : ∃ n : Nat, 1 + y4.1 = ((n : Nat) : Int) := ⟨(1 + y4.1).toNat, by omega⟩
  rw [hn]
  refine Ans.bind (s_make_Points_0 hw ⟨y1.1 * 32768, y2.1 * 32768, y3.1 * 32768⟩ (by dsimp only; omega) n y4.2 [] (by simp; omega) h4.2 (by simp)) fun r hr => ?_
  exact Ans.ret ⟨by have := hr.1; simp at this; omega, hr.2⟩)
theorem nth_at {α : Type} {l : List α} {i : Nat} (h : i < l.length) : nth l (Int.toNat ((i : Nat) : Int)) = some l[i] := by
  rw [Int.toNat_natCast]; exact nth_of_lt h
theorem drop_at {α : Type} {l : List α} {i : Nat} (h : i < l.length) : l.drop i = l[i] :: l.drop (i + 1) := List.drop_eq_getElem_cons h
theorem wi {i : Nat} (h : i ≤ 1152921504606846976) : IntKind.wrap .i64 (((i : Nat) : Int) + 1) = ((i + 1 : Nat) : Int) := by
  rw [w64 (by omega)]; omega
def Reach (a b : Int) : Prop := -268435456 ≤ a ∧ a ≤ b ∧ b ≤ 268435456
instance Reach.dec (a b : Int) : Decidable (Reach a b) := by unfold Reach; exact inferInstance
def Reach6 (x : I6) : Prop := Reach x.c0 x.c1 ∧ Reach x.c2 x.c3 ∧ Reach x.c4 x.c5
instance Reach6.dec (x : I6) : Decidable (Reach6 x) := by unfold Reach6; exact inferInstance
def AllR (l : List I6) : Prop := ∀ x ∈ l, Reach6 x
instance AllR.dec (l : List I6) : Decidable (AllR l) := by unfold AllR; exact inferInstance
def PlacedP (l : List I6) : Prop := AllR l ∧ 1 ≤ l.length ∧ l.length ≤ 8
instance PlacedP.dec (l : List I6) : Decidable (PlacedP l) := by unfold PlacedP; exact inferInstance
def AllW (w : List Int) : Prop := ∀ x ∈ w, 0 ≤ x ∧ x ≤ 65536
instance AllW.dec (w : List Int) : Decidable (AllW w) := by unfold AllW; exact inferInstance
theorem AllW.cons {x : Int} {l : List Int} : AllW (x :: l) ↔ (0 ≤ x ∧ x ≤ 65536) ∧ AllW l := by simp [AllW]
theorem AllR.cons {x : I6} {l : List I6} : AllR (x :: l) ↔ Reach6 x ∧ AllR l := by simp [AllR]
theorem s_shape_reaches (a : I2) : F_shape_reaches a = some (decide (Reach a.c0 a.c1)) := by
  rw [F_shape_reaches_eq]; congr 1
  rw [Bool.eq_iff_iff, decide_eq_true_eq]
  simp [G_shape_reaches, Reach, Bool.cond_decide]
theorem len_test (n : Nat) : (if (((n : Nat) : Int)) ≥ 1 then some (decide ((((n : Nat) : Int)) ≤ 8)) else some false) = some (decide (1 ≤ n ∧ n ≤ 8)) := by
  by_cases h1 : 1 ≤ n
  · rw [if_pos (by omega)]; congr 1
    rw [Bool.eq_iff_iff, decide_eq_true_eq, decide_eq_true_eq]; omega
  · rw [if_neg (by omega), decide_eq_false (by omega)]
theorem s_shape_Placed_0 (u l : List I6) (hl : l.length ≤ 1152921504606846976) : ∀ (d i : Nat), i + d = l.length →
    L_shape_Placed_0 u l ((l.length : Nat) : Int) ((i : Nat) : Int) = some (if AllR (l.drop i) then .inr u else .inl false) := by
  intro d
  induction d with
  | zero =>
    intro i hi
    refine L_shape_Placed_0_of _ _ _ _ _ ?_
    have e : l.drop i = [] := by rw [List.drop_eq_nil_iff]; omega
    rw [e, if_pos (by simp [AllR])]
    simp only [Bool.cond_decide]
    rw [if_neg (by omega)]
  | succ d ih =>
    intro i hi
    refine L_shape_Placed_0_of _ _ _ _ _ ?_
    have hlt : i < l.length := by omega
    simp only [Bool.cond_decide, letIn, s_shape_reaches, Option.bind_some, nth_at hlt, wi (show i ≤ 1152921504606846976 by omega)]
    rw [if_pos (by omega), if_pos (by omega), ih (i + 1) (by omega), drop_at hlt]
    simp only [AllR.cons, Reach6]
    by_cases h1 : Reach l[i].c0 l[i].c1
    · by_cases h2 : Reach l[i].c2 l[i].c3
      · by_cases h3 : Reach l[i].c4 l[i].c5 <;> simp [h1, h2, h3]
      · simp [h1, h2]
    · simp [h1]
theorem s_shape_Placed (l : List I6) (hl : l.length ≤ 1152921504606846976) : F_shape_Placed l = some (decide (PlacedP l)) := F_shape_Placed_of l _ (by
  have := s_shape_Placed_0 l l hl l.length 0 (by omega)
  rw [List.drop_zero] at this
  simp only [Int.natCast_zero] at this
  rw [this]
  simp only [Option.bind_some, PlacedP]
  by_cases h : AllR l
  · simp only [h, if_true, true_and, Bool.cond_decide]
    exact len_test l.length
  · simp [h])
theorem s_ref10_reached (x : I6) : F_ref10_reached x = some (decide (Reach6 x)) := by
  rw [F_ref10_reached_eq]; congr 1
  simp only [G_ref10_reached, letIn, Bool.cond_decide]
  by_cases h : Reach6 x
  · rw [decide_eq_true h]
    unfold Reach6 Reach at h
    rw [if_neg (by omega), if_neg (by omega), if_neg (by omega), if_neg (by omega), if_neg (by omega), if_neg (by omega), if_neg (by omega), if_neg (by omega), if_neg (by omega)]
  · rw [decide_eq_false h]
    unfold Reach6 Reach at h
    split
    · rename_i e he
      (repeat' split at he) <;> first | (cases he; rfl) | (cases he; done)
    · rename_i e he
      exfalso
      (repeat' split at he) <;> first | (cases he; done) | (apply h; omega)
def Fit3 (n : I3) : Prop := (-16384 ≤ n.c0 ∧ n.c0 ≤ 16384) ∧ (-16384 ≤ n.c1 ∧ n.c1 ≤ 16384) ∧ (-16384 ≤ n.c2 ∧ n.c2 ≤ 16384)
instance Fit3.dec (n : I3) : Decidable (Fit3 n) := by unfold Fit3; exact inferInstance
def UsableP (n : I3) : Prop := Fit3 n ∧ ¬ (n.c0 = 0 ∧ n.c1 = 0 ∧ n.c2 = 0)
instance UsableP.dec (n : I3) : Decidable (UsableP n) := by unfold UsableP; exact inferInstance
theorem zero3 (n : I3) : (!((n.c0 == 0) && ((n.c1 == 0) && ((n.c2 == 0) && true)))) = decide (¬ (n.c0 = 0 ∧ n.c1 = 0 ∧ n.c2 = 0)) := by
  by_cases h0 : n.c0 = 0 <;> by_cases h1 : n.c1 = 0 <;> by_cases h2 : n.c2 = 0 <;> simp [h0, h1, h2]
theorem s_support_fits (n : I3) : F_support_fits n = some (decide (Fit3 n)) := by
  rw [F_support_fits_eq]; congr 1
  simp only [G_support_fits, letIn, Bool.cond_decide]
  by_cases h : Fit3 n
  · rw [decide_eq_true h]
    unfold Fit3 at h
    rw [if_neg (by omega), if_neg (by omega), if_neg (by omega), if_neg (by omega), if_neg (by omega), if_neg (by omega)]
  · rw [decide_eq_false h]
    unfold Fit3 at h
    split
    · rename_i e he
      (repeat' split at he) <;> first | (cases he; rfl) | (cases he; done)
    · rename_i e he
      exfalso
      (repeat' split at he) <;> first | (cases he; done) | (apply h; omega)
theorem s_support_Usable (n : I3) : F_support_Usable n = some (decide (UsableP n)) := F_support_Usable_of n _ (by
  simp only [s_support_fits, Option.bind_some, letIn, zero3, UsableP]
  by_cases h : Fit3 n <;> simp [h])
theorem s_ref6_Near (n : I3) : F_ref6_Near n 16384 = some (decide (Fit3 n)) := by
  rw [F_ref6_Near_eq]; congr 1
  have e : IntKind.wrap .i64 (0 - 16384) = -16384 := by rw [w64 (by omega)]; rfl
  simp only [G_ref6_Near, letIn, Bool.cond_decide, e]
  by_cases h : Fit3 n
  · rw [decide_eq_true h]
    unfold Fit3 at h
    rw [if_neg (by omega), if_neg (by omega), if_neg (by omega), if_neg (by omega), if_neg (by omega), if_neg (by omega)]
  · rw [decide_eq_false h]
    unfold Fit3 at h
    split
    · rename_i e he
      (repeat' split at he) <;> first | (cases he; rfl) | (cases he; done)
    · rename_i e he
      exfalso
      (repeat' split at he) <;> first | (cases he; done) | (apply h; omega)
theorem s_ref10_Usable (n : I3) : F_ref10_Usable n = some (decide (UsableP n)) := F_ref10_Usable_of n _ (by
  simp only [s_ref6_Near, Option.bind_some, letIn, zero3, UsableP]
  by_cases h : Fit3 n <;> by_cases h2 : n.c0 = 0 ∧ n.c1 = 0 ∧ n.c2 = 0 <;> simp [h, h2])
theorem s_make_Normal (a b c : Int) : Ans (F_make_Normal a b c) UsableP := Ans.of (F_make_Normal_of a b c) (by
  simp only [letIn, s_ref10_Usable, Option.bind_some]
  have one : UsableP ⟨1, 0, 0⟩ := by decide
  refine Ans.bind (s_make_Round (by omega) (by omega)) fun y4 h4 => ?_
  refine Ans.bind (s_make_Round (by omega) (by omega)) fun y6 h6 => ?_
  refine Ans.bind (s_make_Round (by omega) (by omega)) fun y8 h8 => ?_
  have key : ∀ v : I3, Ans (bif !decide (UsableP v) then some (I3.mk 1 0 0) else some v) UsableP := by
    intro v
    by_cases h : UsableP v
    · simp only [h, decide_true, Bool.not_true, cond_false]; exact Ans.ret h
    · simp only [h, decide_false, Bool.not_false, cond_true]; exact Ans.ret one
  cases (IntKind.wrap .i64 ((BitVec.ofInt 64 a &&& BitVec.ofInt 64 8).toNat : Nat) == 8 : Bool) with
  | true =>
    rw [cond_true]
    refine Ans.bind (s_make_Round (by omega) (by omega)) fun y11 h11 => ?_
    refine Ans.bind (s_make_Round (by omega) (by omega)) fun y13 h13 => ?_
    refine Ans.bind (s_make_Round (by omega) (by omega)) fun y15 h15 => ?_
    exact key _
  | false => exact key _)
def dotS (n : I3) (v : I6) : Int × Int := if UsableP n ∧ Reach6 v then G_support_dot n v else (0, 0)
theorem s_support_Dot (n : I3) (v : I6) : F_support_Dot n v = some (dotS n v) := F_support_Dot_of n v _ (by
  have e : PlacedP [v] ↔ Reach6 v := by simp [PlacedP, AllR]
  simp only [s_support_Usable, s_shape_Placed [v] (by simp), F_support_dot_eq, Option.bind_some, dotS, e]
  by_cases h : UsableP n <;> by_cases h2 : Reach6 v <;> simp [h, h2])
theorem s_ref10_Dot (n : I3) (v : I6) : F_ref10_Dot n v = some (dotS n v) := F_ref10_Dot_of n v _ (by
  simp only [s_ref10_Usable, s_ref10_reached, Option.bind_some, dotS]
  by_cases h : UsableP n
  · by_cases h2 : Reach6 v
    · simp only [h, h2, and_self, if_true, decide_true, Bool.not_true, cond_false]; rfl
    · simp [h, h2]
  · simp [h])
theorem law13_awake : F_law13_awake = some true := den_const (x := X_law13_awake) injO_law13_awake 60 (fun n => by kernel_rfl)
theorem s_law13_dots (n : I3) (v : I6) : F_law13_dots n v = some true := F_law13_dots_of n v _ (by
  simp only [s_support_Dot, s_ref10_Dot, Option.bind_some, beq_self_eq_true, cond_true])
theorem rb' {n k : Nat} (h : n * k ≤ reachBytes) (hk : 1 ≤ k) : n ≤ 1152921504606846976 := by
  have e : reachBytes = 140737488351232 := by decide
  have : n * 1 ≤ n * k := Nat.mul_le_mul_left n hk
  omega
theorem law_law13_SupportDots (n : I3) (v : I6) (a b c : Int) (l : List Int) (hn : BI3 n) (hv : BI6 v) (ha : I64 a) (hb : I64 b) (hc : I64 c) (h3 : l.length * 8 ≤ reachBytes) (b3 : ∀ x ∈ l, BI x) : F_law13_SupportDots n v a b c l = some true := F_law13_SupportDots_of n v a b c l _ (by
  obtain ⟨m, hm, um⟩ := s_make_Normal a b c
  obtain ⟨x, hx, hp⟩ := s_make_Points l (rb' h3 (by omega)) (w := 3000) (by omega)
  have h0 : 0 < x.length := by omega
  simp only [hm, hx, nth_of_lt h0, law13_awake, s_law13_dots, Option.bind_some, cond_true])
end Go.Proofs.Ytfpdjpleplhcgaa.Am
