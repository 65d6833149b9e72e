/- What the law law_law13_SupportExtremes computes, without levels: it is true. -/
import Derived.Test.YtceaambiagobbaaF0
import Derived.Test.YtceaambiagobbaaAmRow2
import Derived.IntWalk
set_option linter.unusedVariables false
set_option linter.unusedSimpArgs false
set_option maxRecDepth 100000
namespace Go.Proofs.Ytceaambiagobbaa.Am
open Go Go.IntWalk

theorem w64 {n : Int} (h : -9223372036854775808 ≤ n ∧ n ≤ 9223372036854775807) : IntKind.wrap .i64 n = n := i64_in n h
theorem den_const {α β : Type} {e : β → α} (inj : ∀ a b, e a = e b → a = b) {x : Nat → Option α} (k : Nat) {r : β} (h : ∀ n, x (n + k) = some (e r)) : den e x = some r :=
  den_of inj k (y := some r) (fun r' hr => by cases hr; exact ⟨0, fun n _ => h n⟩) rfl
theorem mul_bd {x y : Int} {m n : Nat} (hx0 : -(m : Int) ≤ x) (hx1 : x ≤ m) (hy0 : -(n : Int) ≤ y) (hy1 : y ≤ n) : -((m * n : Nat) : Int) ≤ x * y ∧ x * y ≤ ((m * n : Nat) : Int) := by
  have h : (x * y).natAbs ≤ m * n := by
    rw [Int.natAbs_mul]; exact Nat.mul_le_mul (by omega) (by omega)
  omega
def cw : Nat → I6 → Int
  | 0, x => x.c0
  | 1, x => x.c2
  | _, x => x.c4
def ch : Nat → I6 → Int
  | 0, x => x.c1
  | 1, x => x.c3
  | _, x => x.c5
def mn (x y : Int) : Int := if y < x then y else x
def mx (x y : Int) : Int := if y > x then y else x
def hull6 (c x : I6) : I6 := ⟨mn c.c0 x.c0, mx c.c1 x.c1, mn c.c2 x.c2, mx c.c3 x.c3, mn c.c4 x.c4, mx c.c5 x.c5⟩
theorem cw_hull (k : Nat) (c x : I6) : cw k (hull6 c x) = mn (cw k c) (cw k x) := by
  match k with
  | 0 => rfl
  | 1 => rfl
  | _ + 2 => rfl
theorem ch_hull (k : Nat) (c x : I6) : ch k (hull6 c x) = mx (ch k c) (ch k x) := by
  match k with
  | 0 => rfl
  | 1 => rfl
  | _ + 2 => rfl
def Reach (a b : Int) : Prop := -268435456 ≤ a ∧ a ≤ b ∧ b ≤ 268435456
instance Reach.dec (a b : Int) : Decidable (Reach a b) := by unfold Reach; exact inferInstance
def Reach6 (x : I6) : Prop := Reach x.c0 x.c1 ∧ Reach x.c2 x.c3 ∧ Reach x.c4 x.c5
instance Reach6.dec (x : I6) : Decidable (Reach6 x) := by unfold Reach6; exact inferInstance
def HB (l : List I6) (c p : I6) : Prop := Reach6 p ∧ ∀ k : Nat,
  ((cw k p = cw k c ∨ ∃ x ∈ l, cw k p = cw k x) ∧ cw k p ≤ cw k c ∧ ∀ x ∈ l, cw k p ≤ cw k x) ∧
  ((ch k p = ch k c ∨ ∃ x ∈ l, ch k p = ch k x) ∧ ch k c ≤ ch k p ∧ ∀ x ∈ l, ch k x ≤ ch k p)
def inM (x : Int) : Prop := -268435456 ≤ x ∧ x ≤ 268435456
instance inM.dec (x : Int) : Decidable (inM x) := by unfold inM; exact inferInstance
def N3 (x : I3) : Prop := inM x.c0 ∧ inM x.c1 ∧ inM x.c2
instance N3.dec (x : I3) : Decidable (N3 x) := by unfold N3; exact inferInstance
def AllN (l : List I3) : Prop := ∀ x ∈ l, N3 x
instance AllN.dec (l : List I3) : Decidable (AllN l) := by unfold AllN; exact inferInstance
def AllR (l : List I6) : Prop := ∀ x ∈ l, Reach6 x
instance AllR.dec (l : List I6) : Decidable (AllR l) := by unfold AllR; exact inferInstance
def AllW (w : List Int) : Prop := ∀ x ∈ w, 0 ≤ x ∧ x ≤ 65536
instance AllW.dec (w : List Int) : Decidable (AllW w) := by unfold AllW; exact inferInstance
theorem AllW.cons {x : Int} {l : List Int} : AllW (x :: l) ↔ (0 ≤ x ∧ x ≤ 65536) ∧ AllW l := by simp [AllW]
theorem AllR.cons {x : I6} {l : List I6} : AllR (x :: l) ↔ Reach6 x ∧ AllR l := by simp [AllR]
theorem AllN.cons {x : I3} {l : List I3} : AllN (x :: l) ↔ N3 x ∧ AllN l := by simp [AllN]
theorem HB.cons {l : List I6} {c p x : I6} (h : HB l (hull6 c x) p) : HB (x :: l) c p := by
  refine ⟨h.1, fun k => ?_⟩
  obtain ⟨⟨a1, a2, a3⟩, b1, b2, b3⟩ := h.2 k
  rw [cw_hull] at a1 a2
  rw [ch_hull] at b1 b2
  unfold mn at a1 a2
  unfold mx at b1 b2
  refine ⟨⟨?_, ?_, ?_⟩, ?_, ?_, ?_⟩
  · rcases a1 with a1 | ⟨y, hy, e⟩
    · split at a1
      · first | exact .inl a1 | exact .inr ⟨x, List.mem_cons_self .., a1⟩
      · first | exact .inl a1 | exact .inr ⟨x, List.mem_cons_self .., a1⟩
    · exact .inr ⟨y, List.mem_cons_of_mem _ hy, e⟩
  · split at a2 <;> omega
  · intro y hy
    rcases List.mem_cons.1 hy with rfl | hy
    · split at a2 <;> omega
    · exact a3 y hy
  · rcases b1 with b1 | ⟨y, hy, e⟩
    · split at b1
      · first | exact .inl b1 | exact .inr ⟨x, List.mem_cons_self .., b1⟩
      · first | exact .inl b1 | exact .inr ⟨x, List.mem_cons_self .., b1⟩
    · exact .inr ⟨y, List.mem_cons_of_mem _ hy, e⟩
  · split at b2 <;> omega
  · intro y hy
    rcases List.mem_cons.1 hy with rfl | hy
    · split at b2 <;> omega
    · exact b3 y hy
def ChC (a b x y : Int) : Prop := a = b ∧ x ≤ a ∧ a ≤ y
def ChPt (y x : I6) : Prop := ChC y.c0 y.c1 x.c0 x.c1 ∧ ChC y.c2 y.c3 x.c2 x.c3 ∧ ChC y.c4 y.c5 x.c4 x.c5
def Chs : List I6 → List I6 → Prop
  | [], [] => True
  | y :: r, x :: l => ChPt y x ∧ Chs r l
  | _, _ => False
theorem Chs.length : ∀ {r l : List I6}, Chs r l → r.length = l.length
  | [], [], _ => rfl
  | y :: r, x :: l, h => by simp [Chs.length h.2]
  | [], _ :: _, h => h.elim
  | _ :: _, [], h => h.elim
def PlacedP (l : List I6) : Prop := AllR l ∧ 1 ≤ l.length ∧ l.length ≤ 8
instance PlacedP.dec (l : List I6) : Decidable (PlacedP l) := by unfold PlacedP; exact inferInstance
def Fit3 (n : I3) : Prop := (-16384 ≤ n.c0 ∧ n.c0 ≤ 16384) ∧ (-16384 ≤ n.c1 ∧ n.c1 ≤ 16384) ∧ (-16384 ≤ n.c2 ∧ n.c2 ≤ 16384)
instance Fit3.dec (n : I3) : Decidable (Fit3 n) := by unfold Fit3; exact inferInstance
def UsableP (n : I3) : Prop := Fit3 n ∧ ¬ (n.c0 = 0 ∧ n.c1 = 0 ∧ n.c2 = 0)
instance UsableP.dec (n : I3) : Decidable (UsableP n) := by unfold UsableP; exact inferInstance
def dl1 (k a b : Int) : Int := mn (k * a) (k * b)
def dlo (n : I3) (v : I6) : Int := dl1 n.c0 v.c0 v.c1 + dl1 n.c1 v.c2 v.c3 + dl1 n.c2 v.c4 v.c5
/-- the least value and the first place that has it -/
def lst (f : I6 → Int) : Int → Int → Int → List I6 → Int × Int
  | b, a, _, [] => (b, a)
  | b, a, i, x :: l => if f x < b then lst f (f x) i (i + 1) l else lst f b a (i + 1) l
def Z6 : I6 := ⟨0, 0, 0, 0, 0, 0⟩
def hd6 : List I6 → I6
  | [] => Z6
  | x :: _ => x
def lstS (n : I3) (l : List I6) : Int × Int := lst (dlo n) (dlo n (hd6 l)) 0 0 l
def leastS (n : I3) (l : List I6) : Int × Int × Bool := if UsableP n ∧ PlacedP l then ((lstS n l).1, (lstS n l).2, true) else (0, 0, false)
theorem len_test (n : Nat) : (if (((n : Nat) : Int)) ≥ 1 then some (decide ((((n : Nat) : Int)) ≤ 8)) else some false) = some (decide (1 ≤ n ∧ n ≤ 8)) := by
  by_cases h1 : 1 ≤ n
  · rw [if_pos (by omega)]; congr 1
    rw [Bool.eq_iff_iff, decide_eq_true_eq, decide_eq_true_eq]; omega
  · rw [if_neg (by omega), decide_eq_false (by omega)]
theorem nth_at {α : Type} {l : List α} {i : Nat} (h : i < l.length) : nth l (Int.toNat ((i : Nat) : Int)) = some l[i] := by
  rw [Int.toNat_natCast]; exact nth_of_lt h
theorem drop_at {α : Type} {l : List α} {i : Nat} (h : i < l.length) : l.drop i = l[i] :: l.drop (i + 1) := List.drop_eq_getElem_cons h
theorem wi {i : Nat} (h : i ≤ 1152921504606846976) : IntKind.wrap .i64 (((i : Nat) : Int) + 1) = ((i + 1 : Nat) : Int) := by
  rw [w64 (by omega)]; omega
theorem s_shape_reaches (a : I2) : F_shape_reaches a = some (decide (Reach a.c0 a.c1)) := by
  rw [F_shape_reaches_eq]; congr 1
  rw [Bool.eq_iff_iff, decide_eq_true_eq]
  simp [G_shape_reaches, Reach, Bool.cond_decide]
theorem s_shape_Placed_0 (u l : List I6) (hl : l.length ≤ 1152921504606846976) : ∀ (d i : Nat), i + d = l.length →
    L_shape_Placed_0 u l ((l.length : Nat) : Int) ((i : Nat) : Int) = some (if AllR (l.drop i) then .inr u else .inl false) := by
  intro d
  induction d with
  | zero =>
    intro i hi
    refine L_shape_Placed_0_of _ _ _ _ _ ?_
    have e : l.drop i = [] := by rw [List.drop_eq_nil_iff]; omega
    rw [e, if_pos (by simp [AllR])]
    simp only [Bool.cond_decide]
    rw [if_neg (by omega)]
  | succ d ih =>
    intro i hi
    refine L_shape_Placed_0_of _ _ _ _ _ ?_
    have hlt : i < l.length := by omega
    simp only [Bool.cond_decide, letIn, s_shape_reaches, Option.bind_some, nth_at hlt, wi (show i ≤ 1152921504606846976 by omega)]
    rw [if_pos (by omega), if_pos (by omega), ih (i + 1) (by omega), drop_at hlt]
    simp only [AllR.cons, Reach6]
    by_cases h1 : Reach l[i].c0 l[i].c1
    · by_cases h2 : Reach l[i].c2 l[i].c3
      · by_cases h3 : Reach l[i].c4 l[i].c5 <;> simp [h1, h2, h3]
      · simp [h1, h2]
    · simp [h1]
theorem s_shape_Placed (l : List I6) (hl : l.length ≤ 1152921504606846976) : F_shape_Placed l = some (decide (PlacedP l)) := F_shape_Placed_of l _ (by
  have := s_shape_Placed_0 l l hl l.length 0 (by omega)
  rw [List.drop_zero] at this
  simp only [Int.natCast_zero] at this
  rw [this]
  simp only [Option.bind_some, PlacedP]
  by_cases h : AllR l
  · simp only [h, if_true, true_and, Bool.cond_decide]
    exact len_test l.length
  · simp [h])
theorem zero3 (n : I3) : (!((n.c0 == 0) && ((n.c1 == 0) && ((n.c2 == 0) && true)))) = decide (¬ (n.c0 = 0 ∧ n.c1 = 0 ∧ n.c2 = 0)) := by
  by_cases h0 : n.c0 = 0 <;> by_cases h1 : n.c1 = 0 <;> by_cases h2 : n.c2 = 0 <;> simp [h0, h1, h2]
theorem s_support_fits (n : I3) : F_support_fits n = some (decide (Fit3 n)) := by
  rw [F_support_fits_eq]; congr 1
  simp only [G_support_fits, letIn, Bool.cond_decide]
  by_cases h : Fit3 n
  · rw [decide_eq_true h]
    unfold Fit3 at h
    rw [if_neg (by omega), if_neg (by omega), if_neg (by omega), if_neg (by omega), if_neg (by omega), if_neg (by omega)]
  · rw [decide_eq_false h]
    unfold Fit3 at h
    split
    · rename_i e he
      (repeat' split at he) <;> first | (cases he; rfl) | (cases he; done)
    · rename_i e he
      exfalso
      (repeat' split at he) <;> first | (cases he; done) | (apply h; omega)
theorem s_support_Usable (n : I3) : F_support_Usable n = some (decide (UsableP n)) := F_support_Usable_of n _ (by
  simp only [s_support_fits, Option.bind_some, letIn, zero3, UsableP]
  by_cases h : Fit3 n <;> simp [h])
theorem nb {k x : Int} (hk : -16384 ≤ k ∧ k ≤ 16384) (hx : -268435456 ≤ x ∧ x ≤ 268435456) : -4398046511104 ≤ k * x ∧ k * x ≤ 4398046511104 :=
  mul_bd (m := 16384) (n := 268435456) (by omega) (by omega) (by omega) (by omega)
theorem wn {k x : Int} (hk : -16384 ≤ k ∧ k ≤ 16384) (hx : -268435456 ≤ x ∧ x ≤ 268435456) : IntKind.wrap .i64 (k * x) = k * x := by
  have := nb hk hx; exact w64 (by omega)
def dh1 (k a b : Int) : Int := mx (k * a) (k * b)
def dhi (n : I3) (v : I6) : Int := dh1 n.c0 v.c0 v.c1 + dh1 n.c1 v.c2 v.c3 + dh1 n.c2 v.c4 v.c5
theorem mn_bd {l h x y : Int} (hx : l ≤ x ∧ x ≤ h) (hy : l ≤ y ∧ y ≤ h) : l ≤ mn x y ∧ mn x y ≤ h := by unfold mn; split <;> assumption
theorem dl1_b {k a b : Int} (hk : -16384 ≤ k ∧ k ≤ 16384) (h : Reach a b) : -4398046511104 ≤ dl1 k a b ∧ dl1 k a b ≤ 4398046511104 := by
  unfold Reach at h
  exact mn_bd (nb hk (by omega)) (nb hk (by omega))
theorem mx_bd {l h x y : Int} (hx : l ≤ x ∧ x ≤ h) (hy : l ≤ y ∧ y ≤ h) : l ≤ mx x y ∧ mx x y ≤ h := by unfold mx; split <;> assumption
theorem dh1_b {k a b : Int} (hk : -16384 ≤ k ∧ k ≤ 16384) (h : Reach a b) : -4398046511104 ≤ dh1 k a b ∧ dh1 k a b ≤ 4398046511104 := by
  unfold Reach at h
  exact mx_bd (nb hk (by omega)) (nb hk (by omega))
theorem s_support_dot (n : I3) (v : I6) (hn : Fit3 n) (hv : Reach6 v) : F_support_dot n v = some (dlo n v, dhi n v) := by
  rw [F_support_dot_eq]; congr 1
  have b1 := dl1_b hn.1 hv.1; have b2 := dl1_b hn.2.1 hv.2.1; have b3 := dl1_b hn.2.2 hv.2.2
  have c1 := dh1_b hn.1 hv.1; have c2 := dh1_b hn.2.1 hv.2.1; have c3 := dh1_b hn.2.2 hv.2.2
  obtain ⟨r1, r2, r3⟩ := hv
  unfold Reach at r1 r2 r3
  simp only [G_support_dot, letIn]
  rw [wn hn.1 (show -268435456 ≤ v.c0 ∧ v.c0 ≤ 268435456 by omega), wn hn.1 (show -268435456 ≤ v.c1 ∧ v.c1 ≤ 268435456 by omega), wn hn.2.1 (show -268435456 ≤ v.c2 ∧ v.c2 ≤ 268435456 by omega), wn hn.2.1 (show -268435456 ≤ v.c3 ∧ v.c3 ≤ 268435456 by omega), wn hn.2.2 (show -268435456 ≤ v.c4 ∧ v.c4 ≤ 268435456 by omega), wn hn.2.2 (show -268435456 ≤ v.c5 ∧ v.c5 ≤ 268435456 by omega)]
  show (IntKind.wrap .i64 (IntKind.wrap .i64 (IntKind.wrap .i64 (0 + dl1 n.c0 v.c0 v.c1) + dl1 n.c1 v.c2 v.c3) + dl1 n.c2 v.c4 v.c5), IntKind.wrap .i64 (IntKind.wrap .i64 (IntKind.wrap .i64 (0 + dh1 n.c0 v.c0 v.c1) + dh1 n.c1 v.c2 v.c3) + dh1 n.c2 v.c4 v.c5)) = _
  rw [w64 (n := 0 + dl1 n.c0 v.c0 v.c1) (by omega), w64 (n := 0 + dh1 n.c0 v.c0 v.c1) (by omega), w64 (n := 0 + dl1 n.c0 v.c0 v.c1 + dl1 n.c1 v.c2 v.c3) (by omega), w64 (n := 0 + dh1 n.c0 v.c0 v.c1 + dh1 n.c1 v.c2 v.c3) (by omega), w64 (n := 0 + dl1 n.c0 v.c0 v.c1 + dl1 n.c1 v.c2 v.c3 + dl1 n.c2 v.c4 v.c5) (by omega), w64 (n := 0 + dh1 n.c0 v.c0 v.c1 + dh1 n.c1 v.c2 v.c3 + dh1 n.c2 v.c4 v.c5) (by omega)]
  simp only [dlo, dhi, Int.zero_add]
theorem s_support_Least_1 (v : I6) (n : I3) (hn : Fit3 n) (hv : Reach6 v) : F_support_Least_1 v n = some (dlo n v, n) := F_support_Least_1_of v n _ (by simp only [s_support_dot n v hn hv, Option.bind_some])
theorem s_support_Least_2 (x y : Int) : F_support_Least_2 x y = some (decide (x < y)) := F_support_Least_2_of x y _ rfl
theorem s_first_L_0 (l : List I6) (n : I3) (hn : Fit3 n) (hl : AllR l) (h8 : l.length ≤ 8) : ∀ (d i : Nat), i + d = l.length → ∀ (b a : Int),
    L_support_search_first_support_Least_1_support_Least_2_0 b a l ((l.length : Nat) : Int) ((i : Nat) : Int) n = some ((lst (dlo n) b a i (l.drop i)).1, (lst (dlo n) b a i (l.drop i)).2, n) := by
  intro d
  induction d with
  | zero =>
    intro i hi b a
    refine L_support_search_first_support_Least_1_support_Least_2_0_of _ _ _ _ _ _ _ ?_
    have e : l.drop i = [] := by rw [List.drop_eq_nil_iff]; omega
    simp only [Bool.cond_decide]
    rw [if_neg (by omega), e]; rfl
  | succ d ih =>
    intro i hi b a
    refine L_support_search_first_support_Least_1_support_Least_2_0_of _ _ _ _ _ _ _ ?_
    have hlt : i < l.length := by omega
    have hr := hl _ (List.getElem_mem hlt)
    simp only [Bool.cond_decide, letIn, nth_at hlt, Option.bind_some, s_support_Least_1 _ _ hn hr, s_support_Least_2, wi (show i ≤ 1152921504606846976 by omega)]
    rw [if_pos (by omega), if_pos (by omega), drop_at hlt]
    simp only [lst]
    by_cases h : dlo n l[i] < b
    · rw [if_pos h, ih (i + 1) (by omega), if_pos h]; simp
    · rw [if_neg h, ih (i + 1) (by omega), if_neg h]; simp
theorem s_support_Least (n : I3) (l : List I6) (hn : UsableP n) (hl : PlacedP l) : F_support_Least n l = some ((lstS n l).1, (lstS n l).2, true) := F_support_Least_of n l _ (by
  simp only [s_support_Usable, s_shape_Placed l (by have := hl.2.2; omega), hn, hl, Option.bind_some, decide_true, Bool.not_true, cond_false]
  have h0 : 0 < l.length := hl.2.1
  have e : F_support_search_first_support_Least_1_support_Least_2 l n = some ((lstS n l).1, (lstS n l).2, n) := F_support_search_first_support_Least_1_support_Least_2_of l n _ (by
    have hr := hl.1 _ (List.getElem_mem h0)
    have he : l[0] = hd6 l := by cases l with | nil => simp at h0 | cons x l => rfl
    rw [he] at hr
    have := s_first_L_0 l n hn.1 hl.1 hl.2.2 l.length 0 (by omega) (dlo n (hd6 l)) 0
    simp only [Int.natCast_zero, List.drop_zero] at this
    rw [nth_of_lt h0]
    simp only [Option.bind_some, s_support_Least_1 _ _ hn.1 hr, he, this]
    rfl)
  rw [e]; rfl)
theorem s_support_Least_any (n : I3) (l : List I6) (hll : l.length ≤ 1152921504606846976) : F_support_Least n l = some (leastS n l) := by
  by_cases h : UsableP n ∧ PlacedP l
  · rw [s_support_Least n l h.1 h.2, leastS, if_pos h]
  · refine F_support_Least_of n l _ ?_
    simp only [s_support_Usable, s_shape_Placed l hll, Option.bind_some, leastS, if_neg h]
    by_cases hn : UsableP n
    · have hl : ¬ PlacedP l := fun q => h ⟨hn, q⟩
      simp only [hn, hl, decide_true, decide_false, Bool.not_true, Bool.not_false, cond_false, cond_true]
    · simp only [hn, decide_false, Bool.not_false, cond_true]
def gst (f : I6 → Int) : Int → Int → Int → List I6 → Int × Int
  | b, a, _, [] => (b, a)
  | b, a, i, x :: l => if f x > b then gst f (f x) i (i + 1) l else gst f b a (i + 1) l
def gstS (n : I3) (l : List I6) : Int × Int := gst (dhi n) (dhi n (hd6 l)) 0 0 l
def greatS (n : I3) (l : List I6) : Int × Int × Bool := if UsableP n ∧ PlacedP l then ((gstS n l).1, (gstS n l).2, true) else (0, 0, false)
theorem s_support_Greatest_1 (v : I6) (n : I3) (hn : Fit3 n) (hv : Reach6 v) : F_support_Greatest_1 v n = some (dhi n v, n) := F_support_Greatest_1_of v n _ (by simp only [s_support_dot n v hn hv, Option.bind_some])
theorem s_support_Greatest_2 (x y : Int) : F_support_Greatest_2 x y = some (decide (x > y)) := F_support_Greatest_2_of x y _ rfl
theorem s_first_G_0 (l : List I6) (n : I3) (hn : Fit3 n) (hl : AllR l) (h8 : l.length ≤ 8) : ∀ (d i : Nat), i + d = l.length → ∀ (b a : Int),
    L_support_search_first_support_Greatest_1_support_Greatest_2_0 b a l ((l.length : Nat) : Int) ((i : Nat) : Int) n = some ((gst (dhi n) b a i (l.drop i)).1, (gst (dhi n) b a i (l.drop i)).2, n) := by
  intro d
  induction d with
  | zero =>
    intro i hi b a
    refine L_support_search_first_support_Greatest_1_support_Greatest_2_0_of _ _ _ _ _ _ _ ?_
    have e : l.drop i = [] := by rw [List.drop_eq_nil_iff]; omega
    simp only [Bool.cond_decide]
    rw [if_neg (by omega), e]; rfl
  | succ d ih =>
    intro i hi b a
    refine L_support_search_first_support_Greatest_1_support_Greatest_2_0_of _ _ _ _ _ _ _ ?_
    have hlt : i < l.length := by omega
    have hr := hl _ (List.getElem_mem hlt)
    simp only [Bool.cond_decide, letIn, nth_at hlt, Option.bind_some, s_support_Greatest_1 _ _ hn hr, s_support_Greatest_2, wi (show i ≤ 1152921504606846976 by omega)]
    rw [if_pos (by omega), if_pos (by omega), drop_at hlt]
    simp only [gst]
    by_cases h : dhi n l[i] > b
    · rw [if_pos h, ih (i + 1) (by omega), if_pos h]; simp
    · rw [if_neg h, ih (i + 1) (by omega), if_neg h]; simp
theorem s_support_Greatest (n : I3) (l : List I6) (hn : UsableP n) (hl : PlacedP l) : F_support_Greatest n l = some ((gstS n l).1, (gstS n l).2, true) := F_support_Greatest_of n l _ (by
  simp only [s_support_Usable, s_shape_Placed l (by have := hl.2.2; omega), hn, hl, Option.bind_some, decide_true, Bool.not_true, cond_false]
  have h0 : 0 < l.length := hl.2.1
  have e : F_support_search_first_support_Greatest_1_support_Greatest_2 l n = some ((gstS n l).1, (gstS n l).2, n) := F_support_search_first_support_Greatest_1_support_Greatest_2_of l n _ (by
    have hr := hl.1 _ (List.getElem_mem h0)
    have he : l[0] = hd6 l := by cases l with | nil => simp at h0 | cons x l => rfl
    rw [he] at hr
    have := s_first_G_0 l n hn.1 hl.1 hl.2.2 l.length 0 (by omega) (dhi n (hd6 l)) 0
    simp only [Int.natCast_zero, List.drop_zero] at this
    rw [nth_of_lt h0]
    simp only [Option.bind_some, s_support_Greatest_1 _ _ hn.1 hr, he, this]
    rfl)
  rw [e]; rfl)
theorem s_support_Greatest_any (n : I3) (l : List I6) (hll : l.length ≤ 1152921504606846976) : F_support_Greatest n l = some (greatS n l) := by
  by_cases h : UsableP n ∧ PlacedP l
  · rw [s_support_Greatest n l h.1 h.2, greatS, if_pos h]
  · refine F_support_Greatest_of n l _ ?_
    simp only [s_support_Usable, s_shape_Placed l hll, Option.bind_some, greatS, if_neg h]
    by_cases hn : UsableP n
    · have hl : ¬ PlacedP l := fun q => h ⟨hn, q⟩
      simp only [hn, hl, decide_true, decide_false, Bool.not_true, Bool.not_false, cond_false, cond_true]
    · simp only [hn, decide_false, Bool.not_false, cond_true]
theorem s_ref10_reached (x : I6) : F_ref10_reached x = some (decide (Reach6 x)) := by
  rw [F_ref10_reached_eq]; congr 1
  simp only [G_ref10_reached, letIn, Bool.cond_decide]
  by_cases h : Reach6 x
  · rw [decide_eq_true h]
    unfold Reach6 Reach at h
    rw [if_neg (by omega), if_neg (by omega), if_neg (by omega), if_neg (by omega), if_neg (by omega), if_neg (by omega), if_neg (by omega), if_neg (by omega), if_neg (by omega)]
  · rw [decide_eq_false h]
    unfold Reach6 Reach at h
    split
    · rename_i e he
      (repeat' split at he) <;> first | (cases he; rfl) | (cases he; done)
    · rename_i e he
      exfalso
      (repeat' split at he) <;> first | (cases he; done) | (apply h; omega)
theorem s_ref6_Near (n : I3) : F_ref6_Near n 16384 = some (decide (Fit3 n)) := by
  rw [F_ref6_Near_eq]; congr 1
  have e : IntKind.wrap .i64 (0 - 16384) = -16384 := by rw [w64 (by omega)]; rfl
  simp only [G_ref6_Near, letIn, Bool.cond_decide, e]
  by_cases h : Fit3 n
  · rw [decide_eq_true h]
    unfold Fit3 at h
    rw [if_neg (by omega), if_neg (by omega), if_neg (by omega), if_neg (by omega), if_neg (by omega), if_neg (by omega)]
  · rw [decide_eq_false h]
    unfold Fit3 at h
    split
    · rename_i e he
      (repeat' split at he) <;> first | (cases he; rfl) | (cases he; done)
    · rename_i e he
      exfalso
      (repeat' split at he) <;> first | (cases he; done) | (apply h; omega)
theorem s_ref10_Usable (n : I3) : F_ref10_Usable n = some (decide (UsableP n)) := F_ref10_Usable_of n _ (by
  simp only [s_ref6_Near, Option.bind_some, letIn, zero3, UsableP]
  by_cases h : Fit3 n <;> by_cases h2 : n.c0 = 0 ∧ n.c1 = 0 ∧ n.c2 = 0 <;> simp [h, h2])
theorem s_ref10_Dot' {n : I3} {v : I6} (hu : UsableP n) (hv : Reach6 v) : F_ref10_Dot n v = some (dlo n v, dhi n v) := F_ref10_Dot_of _ _ _ (by
  have hn := hu.1
  have hd1 := decide_eq_true hu
  have hd2 := decide_eq_true hv
  have b1 := dl1_b hn.1 hv.1; have b2 := dl1_b hn.2.1 hv.2.1; have b3 := dl1_b hn.2.2 hv.2.2
  have c1 := dh1_b hn.1 hv.1; have c2 := dh1_b hn.2.1 hv.2.1; have c3 := dh1_b hn.2.2 hv.2.2
  obtain ⟨r1, r2, r3⟩ := hv
  unfold Reach at r1 r2 r3
  simp only [s_ref10_Usable, s_ref10_reached, Option.bind_some, hd1, hd2, Bool.not_true, cond_false, letIn]
  rw [wn hn.1 (show -268435456 ≤ v.c0 ∧ v.c0 ≤ 268435456 by omega), wn hn.1 (show -268435456 ≤ v.c1 ∧ v.c1 ≤ 268435456 by omega), wn hn.2.1 (show -268435456 ≤ v.c2 ∧ v.c2 ≤ 268435456 by omega), wn hn.2.1 (show -268435456 ≤ v.c3 ∧ v.c3 ≤ 268435456 by omega), wn hn.2.2 (show -268435456 ≤ v.c4 ∧ v.c4 ≤ 268435456 by omega), wn hn.2.2 (show -268435456 ≤ v.c5 ∧ v.c5 ≤ 268435456 by omega)]
  show some (IntKind.wrap .i64 (IntKind.wrap .i64 (IntKind.wrap .i64 (0 + dl1 n.c0 v.c0 v.c1) + dl1 n.c1 v.c2 v.c3) + dl1 n.c2 v.c4 v.c5), IntKind.wrap .i64 (IntKind.wrap .i64 (IntKind.wrap .i64 (0 + dh1 n.c0 v.c0 v.c1) + dh1 n.c1 v.c2 v.c3) + dh1 n.c2 v.c4 v.c5)) = _
  rw [w64 (n := 0 + dl1 n.c0 v.c0 v.c1) (by omega), w64 (n := 0 + dh1 n.c0 v.c0 v.c1) (by omega), w64 (n := 0 + dl1 n.c0 v.c0 v.c1 + dl1 n.c1 v.c2 v.c3) (by omega), w64 (n := 0 + dh1 n.c0 v.c0 v.c1 + dh1 n.c1 v.c2 v.c3) (by omega), w64 (n := 0 + dl1 n.c0 v.c0 v.c1 + dl1 n.c1 v.c2 v.c3 + dl1 n.c2 v.c4 v.c5) (by omega), w64 (n := 0 + dh1 n.c0 v.c0 v.c1 + dh1 n.c1 v.c2 v.c3 + dh1 n.c2 v.c4 v.c5) (by omega)]
  simp only [dlo, dhi, Int.zero_add])
theorem s_ref10_Least_0 (l : List I6) (n : I3) (hn : UsableP n) (hl : AllR l) (h8 : l.length ≤ 8) : ∀ (d i : Nat), i + d = l.length → 1 ≤ i → ∀ (b a : Int),
    L_ref10_Least_0 l b a ((i : Nat) : Int) n = some (lst (dlo n) b a i (l.drop i)) := by
  intro d
  induction d with
  | zero =>
    intro i hi h1 b a
    refine L_ref10_Least_0_of _ _ _ _ _ _ ?_
    have e : l.drop i = [] := by rw [List.drop_eq_nil_iff]; omega
    simp only [Bool.cond_decide]
    rw [if_neg (by omega), e]; rfl
  | succ d ih =>
    intro i hi h1 b a
    refine L_ref10_Least_0_of _ _ _ _ _ _ ?_
    have hlt : i < l.length := by omega
    have hr := hl _ (List.getElem_mem hlt)
    have hne : (((i : Nat) : Int) == 0) = false := by simp; omega
    simp only [Bool.cond_decide, letIn, nth_at hlt, Option.bind_some, s_ref10_Dot' hn hr, wi (show i ≤ 1152921504606846976 by omega), hne, cond_false]
    rw [if_pos (by omega), if_pos (by omega), drop_at hlt]
    simp only [lst]
    by_cases h : dlo n l[i] < b
    · rw [if_pos h, ih (i + 1) (by omega) (by omega), if_pos h]; simp
    · rw [if_neg h, ih (i + 1) (by omega) (by omega), if_neg h]; simp
theorem lst_first (f : I6 → Int) (x : I6) (t : List I6) : lst f (f x) 0 0 (x :: t) = lst f (f x) 0 1 t := by
  simp only [lst]; rw [if_neg (by omega)]; rfl
theorem s_ref10_Placed_0 (l : List I6) (hl : l.length ≤ 1152921504606846976) : ∀ (d i : Nat), i + d = l.length → i ≤ 9 →
    L_ref10_Placed_0 l ((i : Nat) : Int) = some (if AllR ((l.drop i).take (9 - i)) then .inr l else .inl false) := by
  intro d
  induction d with
  | zero =>
    intro i hi h9
    refine L_ref10_Placed_0_of _ _ _ ?_
    have e : l.drop i = [] := by rw [List.drop_eq_nil_iff]; omega
    rw [e, List.take_nil, if_pos (by simp [AllR])]
    simp only [Bool.cond_decide]
    rw [if_neg (by omega)]
  | succ d ih =>
    intro i hi h9
    refine L_ref10_Placed_0_of _ _ _ ?_
    have hlt : i < l.length := by omega
    simp only [Bool.cond_decide, letIn, s_ref10_reached, Option.bind_some, nth_at hlt, wi (show i ≤ 1152921504606846976 by omega)]
    rw [if_pos (by omega)]
    by_cases h8 : i ≤ 8
    · rw [if_pos (by omega), if_pos (by omega), ih (i + 1) (by omega) (by omega), drop_at hlt, show 9 - i = (9 - (i + 1)) + 1 by omega, List.take_succ_cons]
      simp only [AllR.cons]
      by_cases h1 : Reach6 l[i] <;> simp [h1]
    · rw [if_neg (by omega), show 9 - i = 0 by omega, List.take_zero, if_pos (by simp [AllR])]
theorem s_ref10_Placed (l : List I6) (hl : l.length ≤ 1152921504606846976) : F_ref10_Placed l = some (decide (PlacedP l)) := F_ref10_Placed_of l _ (by
  have := s_ref10_Placed_0 l hl l.length 0 (by omega) (by omega)
  rw [List.drop_zero] at this
  simp only [Int.natCast_zero] at this
  rw [this]
  simp only [Option.bind_some, PlacedP]
  by_cases h2 : l.length ≤ 8
  · rw [List.take_of_length_le (by omega)]
    by_cases h : AllR l
    · simp only [h, if_true, true_and, Bool.cond_decide]
      exact len_test l.length
    · simp [h]
  · by_cases h : AllR (l.take (9 - 0))
    · simp only [h, if_true, Bool.cond_decide]
      rw [if_pos (by omega)]
      simp [h2]; omega
    · simp [h, h2])
theorem s_ref10_Least (n : I3) (l : List I6) (hll : l.length ≤ 1152921504606846976) : F_ref10_Least n l = some (leastS n l) := F_ref10_Least_of n l _ (by
  simp only [s_ref10_Usable, s_ref10_Placed l hll, Option.bind_some, leastS]
  by_cases hn : UsableP n
  · by_cases hl : PlacedP l
    · simp only [hn, hl, and_self, if_true, decide_true, Bool.not_true, cond_false]
      have h0 : 0 < l.length := hl.2.1
      have e : L_ref10_Least_0 l 0 0 0 n = some (lstS n l) := L_ref10_Least_0_of l 0 0 0 n _ (by
        have hr := hl.1 _ (List.getElem_mem h0)
        have h1 := s_ref10_Least_0 l n hn hl.1 hl.2.2 (l.length - 1) 1 (by omega) (by omega) (dlo n l[0]) 0
        have w1 : IntKind.wrap .i64 (0 + 1) = 1 := w64 (by omega)
        simp only [Bool.cond_decide, letIn, Int.toNat_zero, nth_of_lt h0, Option.bind_some, s_ref10_Dot' hn hr, w1, beq_self_eq_true, cond_true]
        rw [if_pos (by omega), if_pos (by omega)]
        simp only [Int.natCast_one] at h1
        rw [h1]
        unfold lstS
        cases l with
        | nil => simp at h0
        | cons x t =>
          simp only [List.getElem_cons_zero, List.drop_succ_cons, List.drop_zero, hd6]
          rw [lst_first])
      rw [e]; rfl
    · simp [hn, hl]
  · simp [hn])
theorem s_ref10_Greatest_0 (l : List I6) (n : I3) (hn : UsableP n) (hl : AllR l) (h8 : l.length ≤ 8) : ∀ (d i : Nat), i + d = l.length → 1 ≤ i → ∀ (b a : Int),
    L_ref10_Greatest_0 l b a ((i : Nat) : Int) n = some (gst (dhi n) b a i (l.drop i)) := by
  intro d
  induction d with
  | zero =>
    intro i hi h1 b a
    refine L_ref10_Greatest_0_of _ _ _ _ _ _ ?_
    have e : l.drop i = [] := by rw [List.drop_eq_nil_iff]; omega
    simp only [Bool.cond_decide]
    rw [if_neg (by omega), e]; rfl
  | succ d ih =>
    intro i hi h1 b a
    refine L_ref10_Greatest_0_of _ _ _ _ _ _ ?_
    have hlt : i < l.length := by omega
    have hr := hl _ (List.getElem_mem hlt)
    have hne : (((i : Nat) : Int) == 0) = false := by simp; omega
    simp only [Bool.cond_decide, letIn, nth_at hlt, Option.bind_some, s_ref10_Dot' hn hr, wi (show i ≤ 1152921504606846976 by omega), hne, cond_false]
    rw [if_pos (by omega), if_pos (by omega), drop_at hlt]
    simp only [gst]
    by_cases h : dhi n l[i] > b
    · rw [if_pos h, ih (i + 1) (by omega) (by omega), if_pos h]; simp
    · rw [if_neg h, ih (i + 1) (by omega) (by omega), if_neg h]; simp
theorem gst_first (f : I6 → Int) (x : I6) (t : List I6) : gst f (f x) 0 0 (x :: t) = gst f (f x) 0 1 t := by
  simp only [gst]; rw [if_neg (by omega)]; rfl
theorem s_ref10_Greatest (n : I3) (l : List I6) (hll : l.length ≤ 1152921504606846976) : F_ref10_Greatest n l = some (greatS n l) := F_ref10_Greatest_of n l _ (by
  simp only [s_ref10_Usable, s_ref10_Placed l hll, Option.bind_some, greatS]
  by_cases hn : UsableP n
  · by_cases hl : PlacedP l
    · simp only [hn, hl, and_self, if_true, decide_true, Bool.not_true, cond_false]
      have h0 : 0 < l.length := hl.2.1
      have e : L_ref10_Greatest_0 l 0 0 0 n = some (gstS n l) := L_ref10_Greatest_0_of l 0 0 0 n _ (by
        have hr := hl.1 _ (List.getElem_mem h0)
        have h1 := s_ref10_Greatest_0 l n hn hl.1 hl.2.2 (l.length - 1) 1 (by omega) (by omega) (dhi n l[0]) 0
        have w1 : IntKind.wrap .i64 (0 + 1) = 1 := w64 (by omega)
        simp only [Bool.cond_decide, letIn, Int.toNat_zero, nth_of_lt h0, Option.bind_some, s_ref10_Dot' hn hr, w1, beq_self_eq_true, cond_true]
        rw [if_pos (by omega), if_pos (by omega)]
        simp only [Int.natCast_one] at h1
        rw [h1]
        unfold gstS
        cases l with
        | nil => simp at h0
        | cons x t =>
          simp only [List.getElem_cons_zero, List.drop_succ_cons, List.drop_zero, hd6]
          rw [gst_first])
      rw [e]; rfl
    · simp [hn, hl]
  · simp [hn])
theorem s_law13_extremes (n : I3) (l : List I6) (hll : l.length ≤ 1152921504606846976) : F_law13_extremes n l = some true := F_law13_extremes_of n l _ (by
  simp only [s_support_Least_any n l hll, s_ref10_Least n l hll, s_support_Greatest_any n l hll, s_ref10_Greatest n l hll, Option.bind_some, beq_self_eq_true, cond_true])
def SrcOk (c : LI_I) : Prop := 0 ≤ c.c1 ∧ c.c1 ≤ c.c0.length ∧ c.c0.length ≤ 1152921504606846976
theorem s_make_From (l : List Int) (hl : l.length ≤ 1152921504606846976) : Ans (F_make_From l) SrcOk := Ans.of (F_make_From_of l) (Ans.ret (by unfold SrcOk; dsimp only; omega))
theorem s_make_Round {n k : Int} (hk : 0 < k) (hk2 : k ≤ 4611686018427387904) : Ans (F_make_Round n k) (fun r => 0 ≤ r ∧ r < k) := Ans.of (F_make_Round_of n k) (by
  have hne : (k == 0) = false := by simp; omega
  simp only [hne, cond_false, letIn, Bool.cond_decide]
  have h1 := Int.tmod_lt_of_pos n hk
  have h2 : -k < Int.tmod n k := by
    have := Int.neg_tmod n k
    have h3 := Int.tmod_lt_of_pos (-n) hk
    omega
  by_cases h : Int.tmod n k < 0
  · rw [if_pos h, w64 (by omega)]; exact Ans.ret (by omega)
  · rw [if_neg h]; exact Ans.ret (by omega))
theorem s_make_Next {k : Int} (hk : 0 < k) (hk2 : k ≤ 4611686018427387904) {c : LI_I} (hc : SrcOk c) : Ans (F_make_Source_Next k c) (fun y => (0 ≤ y.1 ∧ y.1 < k) ∧ SrcOk y.2) := Ans.of (F_make_Source_Next_of k c) (by
  obtain ⟨h0, h1, h2⟩ := hc
  simp only [letIn, Bool.cond_decide]
  by_cases h : c.c1 ≥ ((c.c0.length : Nat) : Int)
  · rw [if_pos h]; exact Ans.ret ⟨by dsimp only; omega, h0, h1, h2⟩
  · rw [if_neg h, w64 (n := c.c1 + 1) (by omega), w64 (n := c.c1 + 1 - 1) (by omega), if_pos (by omega)]
    rw [nth_of_lt (l := c.c0) (i := (c.c1 + 1 - 1).toNat) (by omega)]
    simp only [Option.bind_some]
    refine Ans.bind (s_make_Round hk hk2) fun y hy => Ans.ret ⟨hy, ?_⟩
    unfold SrcOk; dsimp only; omega)
theorem s_make_Signed {k : Int} (hk : 0 ≤ k) (hk2 : k ≤ 1000000000000) {c : LI_I} (hc : SrcOk c) : Ans (F_make_Source_Signed k c) (fun y => (-k ≤ y.1 ∧ y.1 ≤ k) ∧ SrcOk y.2) := Ans.of (F_make_Source_Signed_of k c) (by
  simp only [letIn]
  rw [w64 (n := 2 * k) (by omega), w64 (n := 2 * k + 1) (by omega)]
  refine Ans.bind (s_make_Next (by omega) (by omega) hc) fun y hy => ?_
  rw [w64 (n := y.1 - k) (by omega)]
  exact Ans.ret ⟨by dsimp only; omega, hy.2⟩)
/-- a made point: boxes of bounded width near the origin -/
def Pc (w a b : Int) : Prop := -327689 ≤ a ∧ a ≤ 327689 ∧ a ≤ b ∧ b ≤ a + w
def Pt (w : Int) (x : I6) : Prop := Pc w x.c0 x.c1 ∧ Pc w x.c2 x.c3 ∧ Pc w x.c4 x.c5
def In3 (b : Int) (x : I3) : Prop := (-b ≤ x.c0 ∧ x.c0 ≤ b) ∧ (-b ≤ x.c1 ∧ x.c1 ≤ b) ∧ (-b ≤ x.c2 ∧ x.c2 ≤ b)
theorem In3.mono {a b : Int} (h : a ≤ b) {c : I3} (hc : In3 a c) : In3 b c := by unfold In3 at *; omega
/-- all components within a bound -/
def In6 (b : Int) (c : I6) : Prop := (-b ≤ c.c0 ∧ c.c0 ≤ b) ∧ (-b ≤ c.c1 ∧ c.c1 ≤ b) ∧ (-b ≤ c.c2 ∧ c.c2 ≤ b) ∧ (-b ≤ c.c3 ∧ c.c3 ≤ b) ∧ (-b ≤ c.c4 ∧ c.c4 ≤ b) ∧ (-b ≤ c.c5 ∧ c.c5 ≤ b)
theorem In6.mono {a b : Int} (h : a ≤ b) {c : I6} (hc : In6 a c) : In6 b c := by unfold In6 at *; omega
theorem pcw {w c a b e : Int} (hw : 0 ≤ w ∧ w ≤ 1048576) (hc : -196608 ≤ c ∧ c ≤ 196608) (ha : -4 ≤ a ∧ a ≤ 4) (hb : -9 ≤ b ∧ b ≤ 9) (he : 0 ≤ e ∧ e < w + 1) :
    Pc w (IntKind.wrap .i64 (IntKind.wrap .i64 (c + IntKind.wrap .i64 (a * 32768)) + b)) (IntKind.wrap .i64 (IntKind.wrap .i64 (IntKind.wrap .i64 (c + IntKind.wrap .i64 (a * 32768)) + b) + e)) := by
  rw [w64 (n := a * 32768) (by omega), w64 (n := c + a * 32768) (by omega), w64 (n := c + a * 32768 + b) (by omega), w64 (n := c + a * 32768 + b + e) (by omega)]
  unfold Pc; omega
theorem s_make_Points_0 {w : Int} (hw : 0 ≤ w ∧ w ≤ 1048576) (o : I3) (ho : (-196608 ≤ o.c0 ∧ o.c0 ≤ 196608) ∧ (-196608 ≤ o.c1 ∧ o.c1 ≤ 196608) ∧ (-196608 ≤ o.c2 ∧ o.c2 ≤ 196608)) : ∀ (n : Nat) (c : LI_I) (es : List I6), n + es.length ≤ 5 → SrcOk c → (∀ x ∈ es, Pt w x) →
    Ans (L_make_Points_0 w ((n : Nat) : Int) c o es) (fun r => r.length = es.length + n ∧ ∀ x ∈ r, Pt w x) := by
  intro n
  induction n with
  | zero =>
    intro c es hn hc he
    refine Ans.of (L_make_Points_0_of _ _ _ _ _) ?_
    simp only [Bool.cond_decide]
    rw [if_neg (by omega)]
    exact Ans.ret ⟨by omega, he⟩
  | succ n ih =>
    intro c es hn hc he
    refine Ans.of (L_make_Points_0_of _ _ _ _ _) ?_
    simp only [Bool.cond_decide, letIn]
    rw [if_pos (by omega), w64 (n := w + 1) (by omega)]
    refine Ans.bind (Q := fun p => p.1 = w ∧ p.2.1 = ((n + 1 : Nat) : Int) ∧ SrcOk p.2.2.1 ∧ p.2.2.2.1 = o ∧ p.2.2.2.2.1 = es ∧ Pt w p.2.2.2.2.2) ?_ ?_
    · refine Ans.bind (s_make_Signed (by omega) (by omega) hc) fun y1 h1 => ?_
      refine Ans.bind (s_make_Signed (by omega) (by omega) h1.2) fun y2 h2 => ?_
      refine Ans.bind (s_make_Next (by omega) (by omega) h2.2) fun y3 h3 => ?_
      refine Ans.bind (s_make_Signed (by omega) (by omega) h3.2) fun y4 h4 => ?_
      refine Ans.bind (s_make_Signed (by omega) (by omega) h4.2) fun y5 h5 => ?_
      refine Ans.bind (s_make_Next (by omega) (by omega) h5.2) fun y6 h6 => ?_
      refine Ans.bind (s_make_Signed (by omega) (by omega) h6.2) fun y7 h7 => ?_
      refine Ans.bind (s_make_Signed (by omega) (by omega) h7.2) fun y8 h8 => ?_
      refine Ans.bind (s_make_Next (by omega) (by omega) h8.2) fun y9 h9 => ?_
      refine Ans.ret ⟨rfl, rfl, h9.2, rfl, rfl, ?_⟩
      exact ⟨pcw hw ho.1 h1.1 h2.1 h3.1, pcw hw ho.2.1 h4.1 h5.1 h6.1, pcw hw ho.2.2 h7.1 h8.1 h9.1⟩
    · rintro ⟨p1, p2, p3, p4, p5, p6⟩ ⟨e1, e2, hs, e4, e5, hp⟩
      dsimp only at e1 e2 hs e4 e5 hp ⊢
      subst e1 e2 e4 e5
      rw [if_pos (by omega), w64 (n := ((n + 1 : Nat) : Int) - 1) (by omega), show ((n + 1 : Nat) : Int) - 1 = ((n : Nat) : Int) by omega]
      refine (ih p3 (p5 ++ [p6]) (by simp; omega) hs ?_).mono fun r hr => ⟨by rw [hr.1]; simp; omega, hr.2⟩
      intro x hx
      rcases List.mem_append.1 hx with hx | hx
      · exact he x hx
      · simp at hx; subst hx; exact hp
theorem s_make_Points (l : List Int) (hl : l.length ≤ 1152921504606846976) {w : Int} (hw : 0 ≤ w ∧ w ≤ 1048576) : Ans (F_make_Points l w) (fun r => (1 ≤ r.length ∧ r.length ≤ 5) ∧ ∀ x ∈ r, Pt w x) := Ans.of (F_make_Points_of l w) (by
  simp only [letIn]
  refine Ans.bind (s_make_From l hl) fun y0 h0 => ?_
  refine Ans.bind (s_make_Signed (by omega) (by omega) h0) fun y1 h1 => ?_
  refine Ans.bind (s_make_Signed (by omega) (by omega) h1.2) fun y2 h2 => ?_
  refine Ans.bind (s_make_Signed (by omega) (by omega) h2.2) fun y3 h3 => ?_
  refine Ans.bind (s_make_Next (by omega) (by omega) h3.2) fun y4 h4 => ?_
  rw [w64 (n := y1.1 * 32768) (by omega), w64 (n := y2.1 * 32768) (by omega), w64 (n := y3.1 * 32768) (by omega), w64 (n := 1 + y4.1) (by omega)]
  obtain ⟨n, hn⟩ : ∃ n : Nat, 1 + y4.1 = ((n : Nat) : Int) := ⟨(1 + y4.1).toNat, by omega⟩
  rw [hn]
  refine Ans.bind (s_make_Points_0 hw ⟨y1.1 * 32768, y2.1 * 32768, y3.1 * 32768⟩ (by dsimp only; omega) n y4.2 [] (by simp; omega) h4.2 (by simp)) fun r hr => ?_
  exact Ans.ret ⟨by have := hr.1; simp at this; omega, hr.2⟩)
theorem Pt.reach {w : Int} (hw : w ≤ 1048576) {x : I6} (h : Pt w x) : Reach6 x := by unfold Pt Pc at h; unfold Reach6 Reach; omega
theorem Chs.reach : ∀ {r l : List I6}, Chs r l → AllR l → AllR r
  | [], [], _, _ => by simp [AllR]
  | y :: r, x :: l, h, hl => by
    rw [AllR.cons] at hl ⊢
    refine ⟨?_, Chs.reach h.2 hl.2⟩
    have h1 := h.1; have h2 := hl.1
    unfold ChPt ChC at h1; unfold Reach6 Reach at h2 ⊢; omega
  | [], _ :: _, h, _ => h.elim
  | _ :: _, [], h, _ => h.elim
theorem placed_of {w : Int} (hw : w ≤ 1048576) {l : List I6} (h : (1 ≤ l.length ∧ l.length ≤ 5) ∧ ∀ x ∈ l, Pt w x) : PlacedP l :=
  ⟨fun x hx => (h.2 x hx).reach hw, h.1.1, by omega⟩
theorem s_make_Normal (a b c : Int) : Ans (F_make_Normal a b c) UsableP := Ans.of (F_make_Normal_of a b c) (by
  simp only [letIn, s_ref10_Usable, Option.bind_some]
  have one : UsableP ⟨1, 0, 0⟩ := by decide
  refine Ans.bind (s_make_Round (by omega) (by omega)) fun y4 h4 => ?_
  refine Ans.bind (s_make_Round (by omega) (by omega)) fun y6 h6 => ?_
  refine Ans.bind (s_make_Round (by omega) (by omega)) fun y8 h8 => ?_
  have key : ∀ v : I3, Ans (bif !decide (UsableP v) then some (I3.mk 1 0 0) else some v) UsableP := by
    intro v
    by_cases h : UsableP v
    · simp only [h, decide_true, Bool.not_true, cond_false]; exact Ans.ret h
    · simp only [h, decide_false, Bool.not_false, cond_true]; exact Ans.ret one
  cases (IntKind.wrap .i64 ((BitVec.ofInt 64 a &&& BitVec.ofInt 64 8).toNat : Nat) == 8 : Bool) with
  | true =>
    rw [cond_true]
    refine Ans.bind (s_make_Round (by omega) (by omega)) fun y11 h11 => ?_
    refine Ans.bind (s_make_Round (by omega) (by omega)) fun y13 h13 => ?_
    refine Ans.bind (s_make_Round (by omega) (by omega)) fun y15 h15 => ?_
    exact key _
  | false => exact key _)
theorem law13_awake : F_law13_awake = some true := den_const (x := X_law13_awake) injO_law13_awake 60 (fun n => by kernel_rfl)
theorem rb' {n k : Nat} (h : n * k ≤ reachBytes) (hk : 1 ≤ k) : n ≤ 1152921504606846976 := by
  have e : reachBytes = 140737488351232 := by decide
  have : n * 1 ≤ n * k := Nat.mul_le_mul_left n hk
  omega
theorem law_law13_SupportExtremes (n : I3) (raw : List I6) (a b c : Int) (l : List Int) (hn : BI3 n) (hr : raw.length * 48 ≤ reachBytes) (br : ∀ x ∈ raw, BI6 x) (ha : I64 a) (hb : I64 b) (hc : I64 c) (h3 : l.length * 8 ≤ reachBytes) (b3 : ∀ x ∈ l, BI x) : F_law13_SupportExtremes n raw a b c l = some true := F_law13_SupportExtremes_of n raw a b c l _ (by
  obtain ⟨m, hm, um⟩ := s_make_Normal a b c
  obtain ⟨x, hx, hp⟩ := s_make_Points l (rb' h3 (by omega)) (w := 3000) (by omega)
  have hpl := placed_of (by omega) hp
  have h0 : 0 < x.length := hpl.2.1
  have h8 := hpl.2.2
  have hrl : raw.length ≤ 1152921504606846976 := rb' hr (by omega)
  rw [hm, hx]
  have hd : decide ((x.length + 1) * 48 ≤ 140737488355328) = true := by rw [decide_eq_true_eq]; omega
  simp only [Option.bind_some, law13_awake, cond_true, s_law13_extremes n raw hrl, s_law13_extremes m x (by omega), nth_of_lt h0, hd,
    s_law13_extremes m (x ++ [x[0]]) (by simp; omega), s_law13_extremes n x (by omega), s_law13_extremes m raw hrl])
end Go.Proofs.Ytceaambiagobbaa.Am
