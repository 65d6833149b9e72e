/- What the law law_law16_OverlapCommon computes, without levels: it is true. -/
import Derived.Test.YtfpdjpleplhcgaaF0
import Derived.Test.YtfpdjpleplhcgaaAmRow2
import Derived.IntWalk
set_option linter.unusedVariables false
set_option linter.unusedSimpArgs false
set_option maxRecDepth 100000
namespace Go.Proofs.Ytfpdjpleplhcgaa.Am
open Go Go.IntWalk

theorem w64 {n : Int} (h : -9223372036854775808 ≤ n ∧ n ≤ 9223372036854775807) : IntKind.wrap .i64 n = n := i64_in n h
theorem den_const {α β : Type} {e : β → α} (inj : ∀ a b, e a = e b → a = b) {x : Nat → Option α} (k : Nat) {r : β} (h : ∀ n, x (n + k) = some (e r)) : den e x = some r :=
  den_of inj k (y := some r) (fun r' hr => by cases hr; exact ⟨0, fun n _ => h n⟩) rfl
theorem mul_bd {x y : Int} {m n : Nat} (hx0 : -(m : Int) ≤ x) (hx1 : x ≤ m) (hy0 : -(n : Int) ≤ y) (hy1 : y ≤ n) : -((m * n : Nat) : Int) ≤ x * y ∧ x * y ≤ ((m * n : Nat) : Int) := by
  have h : (x * y).natAbs ≤ m * n := by
    rw [Int.natAbs_mul]; exact Nat.mul_le_mul (by omega) (by omega)
  omega
theorem tdiv_pos_eq {a b : Int} (ha : 0 ≤ a) : Int.tdiv a b = a / b := Int.tdiv_eq_ediv_of_nonneg ha
/-- a valid interval -/
def V2 (a : I2) : Prop := -2147483648 ≤ a.c0 ∧ a.c0 ≤ a.c1 ∧ a.c1 ≤ 2147483648
instance V2.dec (a : I2) : Decidable (V2 a) := by unfold V2; exact inferInstance
def WithinI (a b : I2) : Prop := V2 a ∧ V2 b ∧ b.c0 ≤ a.c0 ∧ a.c1 ≤ b.c1
instance WithinI.dec (a b : I2) : Decidable (WithinI a b) := by unfold WithinI; exact inferInstance
theorem WithinI.mk {a0 a1 b0 b1 : Int} (h0 : -2147483648 ≤ b0) (h1 : b0 ≤ a0) (h2 : a0 ≤ a1) (h3 : a1 ≤ b1) (h4 : b1 ≤ 2147483648) : WithinI ⟨a0, a1⟩ ⟨b0, b1⟩ := by
  unfold WithinI V2; dsimp only; omega
theorem sq_nonneg (x : Int) : 0 ≤ x * x := by
  rcases Int.le_total 0 x with h | h
  · exact Int.mul_nonneg h h
  · exact Int.mul_nonneg_of_nonpos_of_nonpos h h
theorem rb {n k : Nat} (h : n * k ≤ reachBytes) (hk : 1 ≤ k) : n ≤ 1152921504606846976 := by
  have e : reachBytes = 140737488351232 := by decide
  have : n * 1 ≤ n * k := Nat.mul_le_mul_left n hk
  omega
/-- all components within a bound -/
def In6 (b : Int) (c : I6) : Prop := (-b ≤ c.c0 ∧ c.c0 ≤ b) ∧ (-b ≤ c.c1 ∧ c.c1 ≤ b) ∧ (-b ≤ c.c2 ∧ c.c2 ≤ b) ∧ (-b ≤ c.c3 ∧ c.c3 ≤ b) ∧ (-b ≤ c.c4 ∧ c.c4 ≤ b) ∧ (-b ≤ c.c5 ∧ c.c5 ≤ b)
theorem In6.mono {a b : Int} (h : a ≤ b) {c : I6} (hc : In6 a c) : In6 b c := by unfold In6 at *; omega
def ChC (a b x y : Int) : Prop := a = b ∧ x ≤ a ∧ a ≤ y
def ChPt (y x : I6) : Prop := ChC y.c0 y.c1 x.c0 x.c1 ∧ ChC y.c2 y.c3 x.c2 x.c3 ∧ ChC y.c4 y.c5 x.c4 x.c5
def Chs : List I6 → List I6 → Prop
  | [], [] => True
  | y :: r, x :: l => ChPt y x ∧ Chs r l
  | _, _ => False
theorem Chs.length : ∀ {r l : List I6}, Chs r l → r.length = l.length
  | [], [], _ => rfl
  | y :: r, x :: l, h => by simp [Chs.length h.2]
  | [], _ :: _, h => h.elim
  | _ :: _, [], h => h.elim
/-- a made point: boxes of bounded width near the origin -/
def Pc (w a b : Int) : Prop := -327689 ≤ a ∧ a ≤ 327689 ∧ a ≤ b ∧ b ≤ a + w
def Pt (w : Int) (x : I6) : Prop := Pc w x.c0 x.c1 ∧ Pc w x.c2 x.c3 ∧ Pc w x.c4 x.c5
def Reach (a b : Int) : Prop := -268435456 ≤ a ∧ a ≤ b ∧ b ≤ 268435456
instance Reach.dec (a b : Int) : Decidable (Reach a b) := by unfold Reach; exact inferInstance
def Reach6 (x : I6) : Prop := Reach x.c0 x.c1 ∧ Reach x.c2 x.c3 ∧ Reach x.c4 x.c5
instance Reach6.dec (x : I6) : Decidable (Reach6 x) := by unfold Reach6; exact inferInstance
theorem Pt.reach {w : Int} (hw : w ≤ 1048576) {x : I6} (h : Pt w x) : Reach6 x := by unfold Pt Pc at h; unfold Reach6 Reach; omega
def AllR (l : List I6) : Prop := ∀ x ∈ l, Reach6 x
instance AllR.dec (l : List I6) : Decidable (AllR l) := by unfold AllR; exact inferInstance
def AllW (w : List Int) : Prop := ∀ x ∈ w, 0 ≤ x ∧ x ≤ 65536
instance AllW.dec (w : List Int) : Decidable (AllW w) := by unfold AllW; exact inferInstance
theorem AllW.cons {x : Int} {l : List Int} : AllW (x :: l) ↔ (0 ≤ x ∧ x ≤ 65536) ∧ AllW l := by simp [AllW]
theorem AllR.cons {x : I6} {l : List I6} : AllR (x :: l) ↔ Reach6 x ∧ AllR l := by simp [AllR]
theorem Chs.reach : ∀ {r l : List I6}, Chs r l → AllR l → AllR r
  | [], [], _, _ => by simp [AllR]
  | y :: r, x :: l, h, hl => by
    rw [AllR.cons] at hl ⊢
    refine ⟨?_, Chs.reach h.2 hl.2⟩
    have h1 := h.1; have h2 := hl.1
    unfold ChPt ChC at h1; unfold Reach6 Reach at h2 ⊢; omega
  | [], _ :: _, h, _ => h.elim
  | _ :: _, [], h, _ => h.elim
def SrcOk (c : LI_I) : Prop := 0 ≤ c.c1 ∧ c.c1 ≤ c.c0.length ∧ c.c0.length ≤ 1152921504606846976
theorem s_make_From (l : List Int) (hl : l.length ≤ 1152921504606846976) : Ans (F_make_From l) SrcOk := Ans.of (F_make_From_of l) (Ans.ret (by unfold SrcOk; dsimp only; omega))
theorem s_make_Round {n k : Int} (hk : 0 < k) (hk2 : k ≤ 4611686018427387904) : Ans (F_make_Round n k) (fun r => 0 ≤ r ∧ r < k) := Ans.of (F_make_Round_of n k) (by
  have hne : (k == 0) = false := by simp; omega
  simp only [hne, cond_false, letIn, Bool.cond_decide]
  have h1 := Int.tmod_lt_of_pos n hk
  have h2 : -k < Int.tmod n k := by
    have := Int.neg_tmod n k
    have h3 := Int.tmod_lt_of_pos (-n) hk
    omega
  by_cases h : Int.tmod n k < 0
  · rw [if_pos h, w64 (by omega)]; exact Ans.ret (by omega)
  · rw [if_neg h]; exact Ans.ret (by omega))
theorem s_make_Next {k : Int} (hk : 0 < k) (hk2 : k ≤ 4611686018427387904) {c : LI_I} (hc : SrcOk c) : Ans (F_make_Source_Next k c) (fun y => (0 ≤ y.1 ∧ y.1 < k) ∧ SrcOk y.2) := Ans.of (F_make_Source_Next_of k c) (by
  obtain ⟨h0, h1, h2⟩ := hc
  simp only [letIn, Bool.cond_decide]
  by_cases h : c.c1 ≥ ((c.c0.length : Nat) : Int)
  · rw [if_pos h]; exact Ans.ret ⟨by dsimp only; omega, h0, h1, h2⟩
  · rw [if_neg h, w64 (n := c.c1 + 1) (by omega), w64 (n := c.c1 + 1 - 1) (by omega), if_pos (by omega)]
    rw [nth_of_lt (l := c.c0) (i := (c.c1 + 1 - 1).toNat) (by omega)]
    simp only [Option.bind_some]
    refine Ans.bind (s_make_Round hk hk2) fun y hy => Ans.ret ⟨hy, ?_⟩
    unfold SrcOk; dsimp only; omega)
theorem s_make_Signed {k : Int} (hk : 0 ≤ k) (hk2 : k ≤ 1000000000000) {c : LI_I} (hc : SrcOk c) : Ans (F_make_Source_Signed k c) (fun y => (-k ≤ y.1 ∧ y.1 ≤ k) ∧ SrcOk y.2) := Ans.of (F_make_Source_Signed_of k c) (by
  simp only [letIn]
  rw [w64 (n := 2 * k) (by omega), w64 (n := 2 * k + 1) (by omega)]
  refine Ans.bind (s_make_Next (by omega) (by omega) hc) fun y hy => ?_
  rw [w64 (n := y.1 - k) (by omega)]
  exact Ans.ret ⟨by dsimp only; omega, hy.2⟩)
theorem pcw {w c a b e : Int} (hw : 0 ≤ w ∧ w ≤ 1048576) (hc : -196608 ≤ c ∧ c ≤ 196608) (ha : -4 ≤ a ∧ a ≤ 4) (hb : -9 ≤ b ∧ b ≤ 9) (he : 0 ≤ e ∧ e < w + 1) :
    Pc w (IntKind.wrap .i64 (IntKind.wrap .i64 (c + IntKind.wrap .i64 (a * 32768)) + b)) (IntKind.wrap .i64 (IntKind.wrap .i64 (IntKind.wrap .i64 (c + IntKind.wrap .i64 (a * 32768)) + b) + e)) := by
  rw [w64 (n := a * 32768) (by omega), w64 (n := c + a * 32768) (by omega), w64 (n := c + a * 32768 + b) (by omega), w64 (n := c + a * 32768 + b + e) (by omega)]
  unfold Pc; omega
def dpt (n : I3) (y : I6) : Int := n.c0 * y.c0 + n.c1 * y.c2 + n.c2 * y.c4
def hs (n : I3) : List I6 → List Int → Int
  | y :: ys, w :: ws => w * dpt n y + hs n ys ws
  | _, _ => 0
theorem s_make_Points_0 {w : Int} (hw : 0 ≤ w ∧ w ≤ 1048576) (o : I3) (ho : (-196608 ≤ o.c0 ∧ o.c0 ≤ 196608) ∧ (-196608 ≤ o.c1 ∧ o.c1 ≤ 196608) ∧ (-196608 ≤ o.c2 ∧ o.c2 ≤ 196608)) : ∀ (n : Nat) (c : LI_I) (es : List I6), n + es.length ≤ 5 → SrcOk c → (∀ x ∈ es, Pt w x) →
    Ans (L_make_Points_0 w ((n : Nat) : Int) c o es) (fun r => r.length = es.length + n ∧ ∀ x ∈ r, Pt w x) := by
  intro n
  induction n with
  | zero =>
    intro c es hn hc he
    refine Ans.of (L_make_Points_0_of _ _ _ _ _) ?_
    simp only [Bool.cond_decide]
    rw [if_neg (by omega)]
    exact Ans.ret ⟨by omega, he⟩
  | succ n ih =>
    intro c es hn hc he
    refine Ans.of (L_make_Points_0_of _ _ _ _ _) ?_
    simp only [Bool.cond_decide, letIn]
    rw [if_pos (by omega), w64 (n := w + 1) (by omega)]
    refine Ans.bind (Q := fun p => p.1 = w ∧ p.2.1 = ((n + 1 : Nat) : Int) ∧ SrcOk p.2.2.1 ∧ p.2.2.2.1 = o ∧ p.2.2.2.2.1 = es ∧ Pt w p.2.2.2.2.2) ?_ ?_
    · refine Ans.bind (s_make_Signed (by omega) (by omega) hc) fun y1 h1 => ?_
      refine Ans.bind (s_make_Signed (by omega) (by omega) h1.2) fun y2 h2 => ?_
      refine Ans.bind (s_make_Next (by omega) (by omega) h2.2) fun y3 h3 => ?_
      refine Ans.bind (s_make_Signed (by omega) (by omega) h3.2) fun y4 h4 => ?_
      refine Ans.bind (s_make_Signed (by omega) (by omega) h4.2) fun y5 h5 => ?_
      refine Ans.bind (s_make_Next (by omega) (by omega) h5.2) fun y6 h6 => ?_
      refine Ans.bind (s_make_Signed (by omega) (by omega) h6.2) fun y7 h7 => ?_
      refine Ans.bind (s_make_Signed (by omega) (by omega) h7.2) fun y8 h8 => ?_
      refine Ans.bind (s_make_Next (by omega) (by omega) h8.2) fun y9 h9 => ?_
      refine Ans.ret ⟨rfl, rfl, h9.2, rfl, rfl, ?_⟩
      exact ⟨pcw hw ho.1 h1.1 h2.1 h3.1, pcw hw ho.2.1 h4.1 h5.1 h6.1, pcw hw ho.2.2 h7.1 h8.1 h9.1⟩
    · rintro ⟨p1, p2, p3, p4, p5, p6⟩ ⟨e1, e2, hs, e4, e5, hp⟩
      dsimp only at e1 e2 hs e4 e5 hp ⊢
      subst e1 e2 e4 e5
      rw [if_pos (by omega), w64 (n := ((n + 1 : Nat) : Int) - 1) (by omega), show ((n + 1 : Nat) : Int) - 1 = ((n : Nat) : Int) by omega]
      refine (ih p3 (p5 ++ [p6]) (by simp; omega) hs ?_).mono fun r hr => ⟨by rw [hr.1]; simp; omega, hr.2⟩
      intro x hx
      rcases List.mem_append.1 hx with hx | hx
      · exact he x hx
      · simp at hx; subst hx; exact hp
theorem s_make_Points (l : List Int) (hl : l.length ≤ 1152921504606846976) {w : Int} (hw : 0 ≤ w ∧ w ≤ 1048576) : Ans (F_make_Points l w) (fun r => (1 ≤ r.length ∧ r.length ≤ 5) ∧ ∀ x ∈ r, Pt w x) := Ans.of (F_make_Points_of l w) (by
  simp only [letIn]
  refine Ans.bind (s_make_From l hl) fun y0 h0 => ?_
  refine Ans.bind (s_make_Signed (by omega) (by omega) h0) fun y1 h1 => ?_
  refine Ans.bind (s_make_Signed (by omega) (by omega) h1.2) fun y2 h2 => ?_
  refine Ans.bind (s_make_Signed (by omega) (by omega) h2.2) fun y3 h3 => ?_
  refine Ans.bind (s_make_Next (by omega) (by omega) h3.2) fun y4 h4 => ?_
  rw [w64 (n := y1.1 * 32768) (by omega), w64 (n := y2.1 * 32768) (by omega), w64 (n := y3.1 * 32768) (by omega), w64 (n := 1 + y4.1) (by omega)]
  obtain ⟨n, hn⟩ : ∃ n : Nat, 1 + y4.1 = ((n : Nat) : Int) := ⟨(1 + y4.1).toNat, by omega⟩
  rw [hn]
  refine Ans.bind (s_make_Points_0 hw ⟨y1.1 * 32768, y2.1 * 32768, y3.1 * 32768⟩ (by dsimp only; omega) n y4.2 [] (by simp; omega) h4.2 (by simp)) fun r hr => ?_
  exact Ans.ret ⟨by have := hr.1; simp at this; omega, hr.2⟩)
def PlacedP (l : List I6) : Prop := AllR l ∧ 1 ≤ l.length ∧ l.length ≤ 8
instance PlacedP.dec (l : List I6) : Decidable (PlacedP l) := by unfold PlacedP; exact inferInstance
theorem placed_of {w : Int} (hw : w ≤ 1048576) {l : List I6} (h : (1 ≤ l.length ∧ l.length ≤ 5) ∧ ∀ x ∈ l, Pt w x) : PlacedP l :=
  ⟨fun x hx => (h.2 x hx).reach hw, h.1.1, by omega⟩
theorem upd_sum : ∀ {l : List Int} {i : Nat} {x y : Int}, nth l i = some x → (upd l i y).sum = l.sum - x + y
  | a :: l, 0, x, y, h => by simp only [nth, Option.some.injEq] at h; subst h; simp only [upd, List.sum_cons]; omega
  | a :: l, i + 1, x, y, h => by
    simp only [nth] at h
    have := upd_sum (y := y) h
    simp only [upd, List.sum_cons, this]; omega
theorem upd_mem : ∀ {l : List Int} {i : Nat} {y z : Int}, z ∈ upd l i y → z ∈ l ∨ z = y
  | a :: l, 0, y, z, h => by
    simp only [upd, List.mem_cons] at h
    rcases h with h | h
    · exact .inr h
    · exact .inl (by simp [h])
  | a :: l, i + 1, y, z, h => by
    simp only [upd, List.mem_cons] at h
    rcases h with h | h
    · exact .inl (by simp [h])
    · rcases upd_mem h with h | h
      · exact .inl (by simp [h])
      · exact .inr h
theorem and3 (r : Int) : 0 ≤ (((BitVec.ofInt 64 r &&& BitVec.ofInt 64 3).toNat : Nat) : Int) ∧ (((BitVec.ofInt 64 r &&& BitVec.ofInt 64 3).toNat : Nat) : Int) ≤ 3 := by
  have h : (BitVec.ofInt 64 r &&& BitVec.ofInt 64 3).toNat ≤ 3 := by
    rw [BitVec.toNat_and]
    have e : (BitVec.ofInt 64 3).toNat = 3 := by decide
    rw [e]; exact Nat.and_le_right
  omega
theorem s_law16_radius (r : Int) : Ans (F_law16_radius r) (fun x => 0 ≤ x ∧ x ≤ 1048576) := Ans.of (F_law16_radius_of r) (by
  have h := and3 r
  simp only [letIn]
  rw [w64 (by omega)]
  generalize (((BitVec.ofInt 64 r &&& BitVec.ofInt 64 3).toNat : Nat) : Int) = k at *
  have hc : k = 0 ∨ k = 1 ∨ k = 2 ∨ k = 3 := by omega
  rcases hc with rfl | rfl | rfl | rfl
  · show Ans ((F_make_Round (Int.fdiv r 4) 1).bind fun y6 => some y6) (fun x => 0 ≤ x ∧ x ≤ 1048576)
    exact Ans.bind (s_make_Round (k := 1) (by omega) (by omega)) fun y hy => Ans.ret (by omega)
  · show Ans ((F_make_Round (Int.fdiv r 4) 30000).bind fun y6 => some y6) (fun x => 0 ≤ x ∧ x ≤ 1048576)
    exact Ans.bind (s_make_Round (k := 30000) (by omega) (by omega)) fun y hy => Ans.ret (by omega)
  · show Ans ((F_make_Round (Int.fdiv r 4) 200000).bind fun y6 => some y6) (fun x => 0 ≤ x ∧ x ≤ 1048576)
    exact Ans.bind (s_make_Round (k := 200000) (by omega) (by omega)) fun y hy => Ans.ret (by omega)
  · show Ans ((F_make_Round (Int.fdiv r 4) 1048577).bind fun y6 => some y6) (fun x => 0 ≤ x ∧ x ≤ 1048576)
    exact Ans.bind (s_make_Round (k := 1048577) (by omega) (by omega)) fun y hy => Ans.ret (by omega))
theorem zeros_at {n i : Nat} (h : i < n) : nth (List.replicate n (0 : Int)) i = some 0 := by
  rw [nth_of_lt (by simpa using h)]; simp
theorem nth_upd_self {α : Type} {l : List α} {i : Nat} {y : α} (h : i < l.length) : nth (upd l i y) i = some y := by
  rw [nth_eq, upd_eq]; simp [h]
theorem zeros_sum : ∀ n : Nat, (List.replicate n (0 : Int)).sum = 0
  | 0 => rfl
  | n + 1 => by rw [List.replicate_succ, List.sum_cons, zeros_sum n]; rfl
def addw (c : I6) (w : Int) (x : I6) : I6 := ⟨c.c0 + w * x.c0, c.c1 + w * x.c1, c.c2 + w * x.c2, c.c3 + w * x.c3, c.c4 + w * x.c4, c.c5 + w * x.c5⟩
theorem addw_zero (c x : I6) : addw c 0 x = c := by simp [addw]
def comb (c : I6) : List I6 → List Int → I6
  | x :: l, w :: ws => comb (addw c w x) l ws
  | _, _ => c
theorem comb_zeros : ∀ (l : List I6) (n : Nat) (c : I6), comb c l (List.replicate n 0) = c
  | [], n, c => by cases n <;> simp [comb, List.replicate_succ]
  | x :: l, 0, c => by simp [comb]
  | x :: l, n + 1, c => by rw [List.replicate_succ, comb, addw_zero, comb_zeros l n c]
theorem comb_one (w : Int) : ∀ (l : List I6) (k : Nat) (h : k < l.length) (c : I6), comb c l (upd (List.replicate l.length 0) k w) = addw c w l[k]
  | x :: l, 0, h, c => by
    simp only [List.length_cons, List.replicate_succ, upd, comb, comb_zeros, List.getElem_cons_zero]
  | x :: l, k + 1, h, c => by
    simp only [List.length_cons, List.replicate_succ, upd, comb, addw_zero, List.getElem_cons_succ]
    exact comb_one w l k (by simpa using h) c
def Z6 : I6 := ⟨0, 0, 0, 0, 0, 0⟩
def WOk (w : List Int) : Prop := (∀ x ∈ w, 0 ≤ x) ∧ w.sum ≤ 65536
instance WOk.dec (w : List Int) : Decidable (WOk w) := by unfold WOk; exact inferInstance
def CombOk (l : List I6) (w : List Int) : Prop := PlacedP l ∧ w.length = l.length ∧ WOk w ∧ 1 ≤ w.sum
instance CombOk.dec (l : List I6) (w : List Int) : Decidable (CombOk l w) := by unfold CombOk; exact inferInstance
def combS (l : List I6) (w : List Int) : I6 × Int × Bool := if CombOk l w then (comb Z6 l w, w.sum, true) else (Z6, 0, false)
theorem one_ok {l : List I6} {k : Nat} {w : Int} (hl : PlacedP l) (hk : k < l.length) (hw : 1 ≤ w ∧ w ≤ 65536) : combS l (upd (List.replicate l.length 0) k w) = (addw Z6 w l[k], w, true) := by
  have hs : (upd (List.replicate l.length (0 : Int)) k w).sum = w := by
    rw [upd_sum (zeros_at hk), zeros_sum]; omega
  have ok : CombOk l (upd (List.replicate l.length 0) k w) := by
    refine ⟨hl, by rw [upd_length]; simp, ⟨fun x hx => ?_, by rw [hs]; omega⟩, by rw [hs]; omega⟩
    rcases upd_mem hx with h | h
    · rw [List.mem_replicate] at h; omega
    · omega
  unfold combS
  rw [if_pos ok, hs, comb_one w l k hk]
theorem s_greatest_00 : F_overlap_greatest [0, 0] = some 0 := F_overlap_greatest_of _ _ (by
  have h2 : L_overlap_greatest_0 0 [0, 0] 2 2 = some 0 := L_overlap_greatest_0_of _ _ _ _ _ rfl
  have h1 : L_overlap_greatest_0 0 [0, 0] 2 1 = some 0 := L_overlap_greatest_0_of _ _ _ _ _ h2
  have h0 : L_overlap_greatest_0 0 [0, 0] 2 0 = some 0 := L_overlap_greatest_0_of _ _ _ _ _ h1
  exact congrArg (fun x => x.bind fun p11 => some p11) h0)
theorem len_test (n : Nat) : (if (((n : Nat) : Int)) ≥ 1 then some (decide ((((n : Nat) : Int)) ≤ 8)) else some false) = some (decide (1 ≤ n ∧ n ≤ 8)) := by
  by_cases h1 : 1 ≤ n
  · rw [if_pos (by omega)]; congr 1
    rw [Bool.eq_iff_iff, decide_eq_true_eq, decide_eq_true_eq]; omega
  · rw [if_neg (by omega), decide_eq_false (by omega)]
theorem nth_at {α : Type} {l : List α} {i : Nat} (h : i < l.length) : nth l (Int.toNat ((i : Nat) : Int)) = some l[i] := by
  rw [Int.toNat_natCast]; exact nth_of_lt h
theorem drop_at {α : Type} {l : List α} {i : Nat} (h : i < l.length) : l.drop i = l[i] :: l.drop (i + 1) := List.drop_eq_getElem_cons h
theorem wi {i : Nat} (h : i ≤ 1152921504606846976) : IntKind.wrap .i64 (((i : Nat) : Int) + 1) = ((i + 1 : Nat) : Int) := by
  rw [w64 (by omega)]; omega
theorem s_shape_reaches (a : I2) : F_shape_reaches a = some (decide (Reach a.c0 a.c1)) := by
  rw [F_shape_reaches_eq]; congr 1
  rw [Bool.eq_iff_iff, decide_eq_true_eq]
  simp [G_shape_reaches, Reach, Bool.cond_decide]
theorem s_shape_Placed_0 (u l : List I6) (hl : l.length ≤ 1152921504606846976) : ∀ (d i : Nat), i + d = l.length →
    L_shape_Placed_0 u l ((l.length : Nat) : Int) ((i : Nat) : Int) = some (if AllR (l.drop i) then .inr u else .inl false) := by
  intro d
  induction d with
  | zero =>
    intro i hi
    refine L_shape_Placed_0_of _ _ _ _ _ ?_
    have e : l.drop i = [] := by rw [List.drop_eq_nil_iff]; omega
    rw [e, if_pos (by simp [AllR])]
    simp only [Bool.cond_decide]
    rw [if_neg (by omega)]
  | succ d ih =>
    intro i hi
    refine L_shape_Placed_0_of _ _ _ _ _ ?_
    have hlt : i < l.length := by omega
    simp only [Bool.cond_decide, letIn, s_shape_reaches, Option.bind_some, nth_at hlt, wi (show i ≤ 1152921504606846976 by omega)]
    rw [if_pos (by omega), if_pos (by omega), ih (i + 1) (by omega), drop_at hlt]
    simp only [AllR.cons, Reach6]
    by_cases h1 : Reach l[i].c0 l[i].c1
    · by_cases h2 : Reach l[i].c2 l[i].c3
      · by_cases h3 : Reach l[i].c4 l[i].c5 <;> simp [h1, h2, h3]
      · simp [h1, h2]
    · simp [h1]
theorem s_shape_Placed (l : List I6) (hl : l.length ≤ 1152921504606846976) : F_shape_Placed l = some (decide (PlacedP l)) := F_shape_Placed_of l _ (by
  have := s_shape_Placed_0 l l hl l.length 0 (by omega)
  rw [List.drop_zero] at this
  simp only [Int.natCast_zero] at this
  rw [this]
  simp only [Option.bind_some, PlacedP]
  by_cases h : AllR l
  · simp only [h, if_true, true_and, Bool.cond_decide]
    exact len_test l.length
  · simp [h])
theorem Reach6.in6 {x : I6} (h : Reach6 x) : In6 268435456 x := by unfold Reach6 Reach at h; unfold In6; omega
theorem pw {w x : Int} (hw : 0 ≤ w ∧ w ≤ 65536) (hx : -268435456 ≤ x ∧ x ≤ 268435456) : -17592186044416 ≤ w * x ∧ w * x ≤ 17592186044416 :=
  mul_bd (m := 65536) (n := 268435456) (by omega) (by omega) (by omega) (by omega)
theorem addw_in {b : Int} {c x : I6} {w : Int} (hc : In6 b c) (hx : In6 268435456 x) (hw : 0 ≤ w ∧ w ≤ 65536) : In6 (b + 17592186044416) (addw c w x) := by
  obtain ⟨x0, x1, x2, x3, x4, x5⟩ := hx
  have p0 := pw hw x0; have p1 := pw hw x1; have p2 := pw hw x2; have p3 := pw hw x3; have p4 := pw hw x4; have p5 := pw hw x5
  unfold In6 at hc; unfold In6 addw; dsimp only
  generalize w * x.c0 = y0 at *; generalize w * x.c1 = y1 at *; generalize w * x.c2 = y2 at *; generalize w * x.c3 = y3 at *; generalize w * x.c4 = y4 at *; generalize w * x.c5 = y5 at *
  omega
/-- one round's sums do not overflow -/
theorem addw_wrap {b : Int} {c x : I6} {w : Int} (hb : 0 ≤ b ∧ b ≤ 1000000000000000000) (hc : In6 b c) (hx : In6 268435456 x) (hw : 0 ≤ w ∧ w ≤ 65536) :
    I6.mk (IntKind.wrap .i64 (c.c0 + IntKind.wrap .i64 (w * x.c0))) (IntKind.wrap .i64 (c.c1 + IntKind.wrap .i64 (w * x.c1))) (IntKind.wrap .i64 (c.c2 + IntKind.wrap .i64 (w * x.c2))) (IntKind.wrap .i64 (c.c3 + IntKind.wrap .i64 (w * x.c3))) (IntKind.wrap .i64 (c.c4 + IntKind.wrap .i64 (w * x.c4))) (IntKind.wrap .i64 (c.c5 + IntKind.wrap .i64 (w * x.c5))) = addw c w x := by
  obtain ⟨x0, x1, x2, x3, x4, x5⟩ := hx
  have p0 := pw hw x0; have p1 := pw hw x1; have p2 := pw hw x2; have p3 := pw hw x3; have p4 := pw hw x4; have p5 := pw hw x5
  unfold In6 at hc
  unfold addw
  rw [w64 (n := w * x.c0) (by omega), w64 (n := w * x.c1) (by omega), w64 (n := w * x.c2) (by omega), w64 (n := w * x.c3) (by omega), w64 (n := w * x.c4) (by omega), w64 (n := w * x.c5) (by omega)]
  rw [w64 (n := c.c0 + w * x.c0) (by omega), w64 (n := c.c1 + w * x.c1) (by omega), w64 (n := c.c2 + w * x.c2) (by omega), w64 (n := c.c3 + w * x.c3) (by omega), w64 (n := c.c4 + w * x.c4) (by omega), w64 (n := c.c5 + w * x.c5) (by omega)]
theorem s_shape_Combine_0 (l : List I6) (w : List Int) (hl : AllR l) (hn : w.length = l.length) (h8 : l.length ≤ 8) : ∀ (d i : Nat), i + d = l.length → ∀ (t : Int) (c9 c : I6), 0 ≤ t ∧ t ≤ 65536 * i → In6 (17592186044416 * i) c →
    L_shape_Combine_0 l t w ((w.length : Nat) : Int) ((i : Nat) : Int) c9 c = some (if AllW (w.drop i) then .inr (t + (w.drop i).sum, c9, comb c (l.drop i) (w.drop i)) else .inl (0, false, Z6)) := by
  intro d
  induction d with
  | zero =>
    intro i hi t c9 c ht hc
    refine L_shape_Combine_0_of _ _ _ _ _ _ _ _ ?_
    have e : l.drop i = [] := by rw [List.drop_eq_nil_iff]; omega
    have e2 : w.drop i = [] := by rw [List.drop_eq_nil_iff]; omega
    rw [e, e2, if_pos (by simp [AllW])]
    simp only [Bool.cond_decide]
    rw [if_neg (by omega)]
    simp [comb]
  | succ d ih =>
    intro i hi t c9 c ht hc
    refine L_shape_Combine_0_of _ _ _ _ _ _ _ _ ?_
    have hlt : i < l.length := by omega
    have hlw : i < w.length := by omega
    have hr : Reach6 l[i] := hl _ (List.getElem_mem hlt)
    simp only [Bool.cond_decide, letIn, Option.bind_some, nth_at hlt, nth_at hlw, wi (show i ≤ 1152921504606846976 by omega)]
    simp only [if_pos (show (0 : Int) ≤ (i : Int) by omega)]
    rw [if_pos (by omega), drop_at hlt, drop_at hlw]
    simp only [AllW.cons]
    by_cases h1 : w[i] < 0
    · rw [if_pos h1, if_neg (by omega)]; rfl
    · rw [if_neg h1]
      by_cases h2 : w[i] > 65536
      · rw [if_pos h2, if_neg (by omega)]; rfl
      · rw [if_neg h2, addw_wrap (b := 17592186044416 * i) (by omega) hc hr.in6 (by omega), w64 (n := t + w[i]) (by omega)]
        have hc2 := addw_in hc hr.in6 (w := w[i]) (by omega)
        rw [show (17592186044416 : Int) * (i : Int) + 17592186044416 = 17592186044416 * ((i + 1 : Nat) : Int) by omega] at hc2
        simp only [Option.bind_some, wi (show i ≤ 1152921504606846976 by omega)]
        rw [ih (i + 1) (by omega) (t + w[i]) c9 _ (by omega) hc2]
        have hw' : 0 ≤ w[i] ∧ w[i] ≤ 65536 := by omega
        by_cases h3 : AllW (w.drop (i + 1))
        · rw [if_pos h3, if_pos ⟨hw', h3⟩, List.sum_cons]
          simp only [comb, Int.add_assoc]
        · rw [if_neg h3, if_neg (fun q => h3 q.2)]
theorem sum_nonneg : ∀ {w : List Int}, (∀ x ∈ w, 0 ≤ x) → 0 ≤ w.sum
  | [], _ => by simp
  | x :: w, h => by
    have := sum_nonneg (w := w) fun y hy => h y (by simp [hy])
    have := h x (by simp)
    rw [List.sum_cons]; omega
theorem le_sum : ∀ {w : List Int}, (∀ x ∈ w, 0 ≤ x) → ∀ x ∈ w, x ≤ w.sum
  | [], _, x, hx => by cases hx
  | y :: w, h, x, hx => by
    have h1 := sum_nonneg (w := w) fun z hz => h z (by simp [hz])
    have h2 := h y (by simp)
    rw [List.sum_cons]
    rcases List.mem_cons.1 hx with rfl | hx
    · omega
    · have := le_sum (w := w) (fun z hz => h z (by simp [hz])) x hx
      omega
theorem WOk.allW {w : List Int} (h : WOk w) : AllW w := fun x hx => ⟨h.1 x hx, Int.le_trans (le_sum h.1 x hx) h.2⟩
theorem In6.z : In6 0 Z6 := by unfold In6 Z6; simp
theorem s_shape_Combine (l : List I6) (w : List Int) (hl : l.length ≤ 1152921504606846976) : F_shape_Combine l w = some (combS l w) := F_shape_Combine_of l w _ (by
  simp only [s_shape_Placed l hl, Option.bind_some]
  unfold combS
  by_cases hp : PlacedP l
  · by_cases hn : w.length = l.length
    · have := s_shape_Combine_0 l w hp.1 hn hp.2.2 l.length 0 (by omega) 0 Z6 Z6 (by omega) (by simpa using In6.z)
      simp only [List.drop_zero, Int.natCast_zero, Int.zero_add] at this
      have hne : ((((w.length : Nat) : Int)) != (((l.length : Nat) : Int))) = false := by simp [hn]
      simp only [hp, decide_true, Bool.not_true, cond_false, hne]
      rw [show (I6.mk 0 0 0 0 0 0) = Z6 from rfl, this]
      by_cases hw : AllW w
      · simp only [hw, if_true, Option.bind_some, Bool.cond_decide]
        have h0 : ∀ x ∈ w, 0 ≤ x := fun x hx => (hw x hx).1
        by_cases h1 : w.sum < 1
        · rw [if_pos h1, if_neg (fun q => by have := q.2.2.2; omega)]
        · rw [if_neg h1]
          by_cases h2 : w.sum > 65536
          · rw [if_pos h2, if_neg (fun q => by have := q.2.2.1.2; omega)]
          · rw [if_neg h2, if_pos ⟨hp, hn, ⟨h0, by omega⟩, by omega⟩]
      · simp only [hw, if_false, Option.bind_some]
        rw [if_neg (fun q => hw q.2.2.1.allW)]
    · have hne : ((((w.length : Nat) : Int)) != (((l.length : Nat) : Int))) = true := by simp; omega
      simp only [hp, decide_true, Bool.not_true, cond_false, hne, cond_true]
      rw [if_neg (fun q => hn q.2.1)]; rfl
  · simp only [hp, decide_false, Bool.not_false, cond_true]
    rw [if_neg (fun q => hp q.1)]; rfl)
theorem s_overlap_common {l r : List Int} {a b : List I6} {ra rb w : Int} {u : I6} (hla : a.length ≤ 1152921504606846976) (hlb : b.length ≤ 1152921504606846976) (ha : combS a l = (u, w, true)) (hb : combS b r = (u, w, true)) (hw : 1 ≤ w ∧ w ≤ 65536) (hra : 0 ≤ ra ∧ ra ≤ 1048576) (hrb : 0 ≤ rb ∧ rb ≤ 1048576)
    (e0 : u.c0 = u.c1) (e1 : u.c2 = u.c3) (e2 : u.c4 = u.c5) : F_overlap_Overlaps l r a ra b rb = some true := F_overlap_Overlaps_of _ _ _ _ _ _ _ (by
  have ex : F_overlap_Excess l r a ra b rb = some ((ra + rb) * (ra + rb), true) := F_overlap_Excess_of _ _ _ _ _ _ _ (by
    have hp := mul_bd (x := ra + rb) (y := ra + rb) (m := 2097152) (n := 2097152) (by omega) (by omega) (by omega) (by omega)
    have z0 : IntKind.wrap .i64 0 = 0 := w64 (by omega)
    have t0 : Int.tdiv (w - 1) w = 0 := by
      rw [tdiv_pos_eq (by omega)]; exact Int.ediv_eq_zero_of_lt (by omega) (by omega)
    have hne : (w == 0) = false := by simp; omega
    have hww : (w != w) = false := by simp
    have q1 : u.c0 - u.c1 = 0 := by omega
    have q1' : u.c1 - u.c0 = 0 := by omega
    have q2 : u.c2 - u.c3 = 0 := by omega
    have q2' : u.c3 - u.c2 = 0 := by omega
    have q3 : u.c4 - u.c5 = 0 := by omega
    have q3' : u.c5 - u.c4 = 0 := by omega
    have y1 : IntKind.wrap .i64 w = w := w64 (by omega)
    have y2 : IntKind.wrap .i64 (w - 1) = w - 1 := w64 (by omega)
    have y3 : IntKind.wrap .i64 (ra + rb) = ra + rb := w64 (by omega)
    have y4 : IntKind.wrap .i64 ((ra + rb) * (ra + rb)) = (ra + rb) * (ra + rb) := w64 (by omega)
    simp only [s_shape_Combine a l hla, s_shape_Combine b r hlb, ha, hb, Option.bind_some, Bool.not_true, cond_false, hww, letIn, Bool.cond_decide, q1, q1', q2, q2', q3, q3', z0, s_greatest_00, Int.zero_add, y1, y2, y3, y4, hne, t0, Int.mul_zero, Int.sub_zero]
    rw [if_neg (by omega), if_neg (by omega), if_neg (by omega), if_neg (by omega)]
    simp only [if_neg (show ¬ (0 > ra + rb) by omega)]
    rfl)
  have := sq_nonneg (ra + rb)
  simp only [ex, Option.bind_some, cond_true]
  rw [decide_eq_true (by omega)])
theorem law16_awake : F_law16_awake = some true := den_const (x := X_law16_awake) injO_law16_awake 40 (fun n => by kernel_rfl)
theorem rb2 {n k : Nat} (h : n * k ≤ reachBytes) (hk : 1 ≤ k) : n ≤ 1152921504606846976 := by
  have e : reachBytes = 140737488351232 := by decide
  have : n * 1 ≤ n * k := Nat.mul_le_mul_left n hk
  omega
theorem law_law16_OverlapCommon (l m : List Int) (at' wt p q : Int) (h3 : l.length * 8 ≤ reachBytes) (b3 : ∀ x ∈ l, BI x) (h4 : m.length * 8 ≤ reachBytes) (b4 : ∀ x ∈ m, BI x) (ha : I64 at') (hw : I64 wt) (hp : I64 p) (hq : I64 q) : F_law16_OverlapCommon l m at' wt p q = some true := F_law16_OverlapCommon_of l m at' wt p q _ (by
  obtain ⟨x, hx, px⟩ := s_make_Points l (rb2 h3 (by omega)) (w := 0) (by omega)
  obtain ⟨y, hy, py⟩ := s_make_Points m (rb2 h4 (by omega)) (w := 0) (by omega)
  obtain ⟨k, hk, k0, k1⟩ := s_make_Round (n := at') (k := ((x.length : Nat) : Int)) (by omega) (by omega)
  obtain ⟨v, hv, v0, v1⟩ := s_make_Round (n := wt) (k := 65536) (by omega) (by omega)
  obtain ⟨r1, hr1, c1⟩ := s_law16_radius p
  obtain ⟨r2, hr2, c2⟩ := s_law16_radius q
  obtain ⟨i, rfl⟩ : ∃ i : Nat, k = ((i : Nat) : Int) := ⟨k.toNat, by omega⟩
  have hi : i < x.length := by omega
  have hpx := placed_of (by omega) px
  have hz : Pt 0 x[i] := px.2 _ (List.getElem_mem hi)
  obtain ⟨b, hb⟩ : ∃ b, b = y ++ [x[i]] := ⟨_, rfl⟩
  have hbl : b.length = y.length + 1 := by rw [hb]; simp
  have hpb : PlacedP b := by
    refine ⟨?_, by omega, by omega⟩
    intro z hz'
    rw [hb] at hz'
    rcases List.mem_append.1 hz' with h | h
    · exact (py.2 z h).reach (by omega)
    · simp at h; subst h; exact hz.reach (by omega)
  have hlast : b[y.length]'(by omega) = x[i] := by simp [hb]
  have ex := one_ok hpx hi (w := 1 + v) (by omega)
  have eb := one_ok hpb (k := y.length) (by omega) (w := 1 + v) (by omega)
  rw [hlast] at eb
  have ew : IntKind.wrap .i64 (1 + v) = 1 + v := w64 (by omega)
  have ek : IntKind.wrap .i64 (((b.length : Nat) : Int) - 1) = ((y.length : Nat) : Int) := by rw [w64 (by omega)]; omega
  have hov := s_overlap_common (l := upd (List.replicate x.length 0) i (1 + v)) (r := upd (List.replicate b.length 0) y.length (1 + v)) (a := x) (b := b) (ra := r1) (rb := r2) (by omega) (by omega) ex eb (by omega) c1 c2 (by
    unfold Pt Pc at hz; have : x[i].c0 = x[i].c1 := by omega
    simp only [addw, this]; rfl) (by
    unfold Pt Pc at hz; have : x[i].c2 = x[i].c3 := by omega
    simp only [addw, this]; rfl) (by
    unfold Pt Pc at hz; have : x[i].c4 = x[i].c5 := by omega
    simp only [addw, this]; rfl)
  have g : ∀ n : Nat, n ≤ 100 → ((decide ((0 : Int) ≤ ((n : Nat) : Int)) && decide (((n : Nat) : Int) ≤ ((n : Nat) : Int)) && decide (((n : Nat) : Int) ≤ ((n : Nat) : Int)) && decide (n * 8 ≤ 140737488355328))) = true := by
    intro n hn
    simp only [Bool.and_eq_true, decide_eq_true_eq]; omega
  simp only [hx, hy, hk, hv, hr1, hr2, Option.bind_some, letIn, Bool.cond_decide, law16_awake, cond_true, ew, nth_at hi, nth_of_lt hi, ← hb, g x.length (by omega), g b.length (by omega), ek, Int.toNat_natCast, zeros_at hi, zeros_at (show y.length < b.length by omega), nth_upd_self (show i < (List.replicate x.length (0 : Int)).length by simpa using hi), if_pos (show (0 : Int) ≤ (i : Int) by omega), if_pos (show (0 : Int) ≤ (y.length : Int) by omega), if_pos (show (y.length + 1) * 48 ≤ 140737488355328 by omega), hov])
end Go.Proofs.Ytfpdjpleplhcgaa.Am
