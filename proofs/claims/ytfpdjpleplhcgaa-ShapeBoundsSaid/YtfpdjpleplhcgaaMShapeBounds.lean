/- What the law law_law10_ShapeBounds computes, without levels: it is true. -/
import Derived.Test.YtfpdjpleplhcgaaF0
import Derived.Test.YtfpdjpleplhcgaaAmRow2
import Derived.IntWalk
set_option linter.unusedVariables false
set_option linter.unusedSimpArgs false
set_option maxRecDepth 100000
namespace Go.Proofs.Ytfpdjpleplhcgaa.Am
open Go Go.IntWalk

theorem w64 {n : Int} (h : -9223372036854775808 ≤ n ∧ n ≤ 9223372036854775807) : IntKind.wrap .i64 n = n := i64_in n h
theorem fdiv_pos {a b : Int} (hb : 0 ≤ b) : Int.fdiv a b = a / b := Int.fdiv_eq_ediv_of_nonneg a hb
theorem den_const {α β : Type} {e : β → α} (inj : ∀ a b, e a = e b → a = b) {x : Nat → Option α} (k : Nat) {r : β} (h : ∀ n, x (n + k) = some (e r)) : den e x = some r :=
  den_of inj k (y := some r) (fun r' hr => by cases hr; exact ⟨0, fun n _ => h n⟩) rfl
theorem tdiv_bd {a b : Int} (b0 : -4611686018427387904 ≤ a) (b1 : a ≤ 4611686018427387904) : -4611686018427387904 ≤ Int.tdiv a b ∧ Int.tdiv a b ≤ 4611686018427387904 := by
  have h : (Int.tdiv a b).natAbs ≤ a.natAbs := by
    rw [Int.natAbs_tdiv]; exact Nat.div_le_self _ _
  omega
theorem ediv_uniq {a b q : Int} (hb : 0 < b) (h0 : q * b ≤ a) (h1 : a < (q + 1) * b) : a / b = q := by
  have h2 : q ≤ a / b := (Int.le_ediv_iff_mul_le hb).2 h0
  have h3 : a / b < q + 1 := (Int.ediv_lt_iff_lt_mul hb).2 h1
  omega
/-- Go's quotient, lowered where the remainder is negative: the floor. -/
theorem floor_pos {a b : Int} (hb : 0 < b) : (if Int.tmod a b < 0 then Int.tdiv a b - 1 else Int.tdiv a b) = a / b := by
  have h := Int.mul_tdiv_add_tmod a b
  have hm : Int.tmod a b < b := Int.tmod_lt_of_pos a hb
  have hm' : -b < Int.tmod a b := by
    have := Int.tmod_lt_of_pos (-a) hb
    rw [Int.neg_tmod] at this; omega
  have hc : b * Int.tdiv a b = Int.tdiv a b * b := Int.mul_comm _ _
  split
  · symm; refine ediv_uniq hb ?_ ?_
    · rw [Int.sub_mul]; omega
    · rw [show Int.tdiv a b - 1 + 1 = Int.tdiv a b by omega]; omega
  · symm; refine ediv_uniq hb ?_ ?_
    · omega
    · rw [Int.add_mul]; omega
def cw : Nat → I6 → Int
  | 0, x => x.c0
  | 1, x => x.c2
  | _, x => x.c4
def ch : Nat → I6 → Int
  | 0, x => x.c1
  | 1, x => x.c3
  | _, x => x.c5
def setk : Nat → I6 → Int → Int → I6
  | 0, c, a, b => ⟨a, b, c.c2, c.c3, c.c4, c.c5⟩
  | 1, c, a, b => ⟨c.c0, c.c1, a, b, c.c4, c.c5⟩
  | _, c, a, b => ⟨c.c0, c.c1, c.c2, c.c3, a, b⟩
theorem three {k : Nat} (h : k < 3) : k = 0 ∨ k = 1 ∨ k = 2 := by omega
theorem guard3 {k : Nat} (h : k < 3) : (decide (0 ≤ ((k : Nat) : Int)) && decide (((k : Nat) : Int) < 3)) = true := by
  simp only [Bool.and_eq_true, decide_eq_true_eq]; omega
theorem rd_lo (x : I6) {k : Nat} (h : k < 3) : nth ([.v (.int .i64 x.c0), .v (.int .i64 x.c1), .v (.int .i64 x.c2), .v (.int .i64 x.c3), .v (.int .i64 x.c4), .v (.int .i64 x.c5)] : List D1) (0 + (((k : Nat) : Int).toNat * 2)) = some (.v (.int .i64 (cw k x))) := by
  rcases three h with rfl | rfl | rfl <;> rfl
theorem rd_hi (x : I6) {k : Nat} (h : k < 3) : nth ([.v (.int .i64 x.c0), .v (.int .i64 x.c1), .v (.int .i64 x.c2), .v (.int .i64 x.c3), .v (.int .i64 x.c4), .v (.int .i64 x.c5)] : List D1) ((0 + (((k : Nat) : Int).toNat * 2)) + 1) = some (.v (.int .i64 (ch k x))) := by
  rcases three h with rfl | rfl | rfl <;> rfl
theorem asI (x : Int) : asInt? .i64 (.v (.int .i64 x)) = some x := rfl
def Reach (a b : Int) : Prop := -268435456 ≤ a ∧ a ≤ b ∧ b ≤ 268435456
instance Reach.dec (a b : Int) : Decidable (Reach a b) := by unfold Reach; exact inferInstance
def Reach6 (x : I6) : Prop := Reach x.c0 x.c1 ∧ Reach x.c2 x.c3 ∧ Reach x.c4 x.c5
instance Reach6.dec (x : I6) : Decidable (Reach6 x) := by unfold Reach6; exact inferInstance
theorem cw_in {x : I6} (h : Reach6 x) (k : Nat) : -268435456 ≤ cw k x ∧ cw k x ≤ 268435456 ∧ -268435456 ≤ ch k x ∧ ch k x ≤ 268435456 := by
  unfold Reach6 Reach at h
  match k with
  | 0 => simp only [cw, ch]; omega
  | 1 => simp only [cw, ch]; omega
  | n + 2 => simp only [cw, ch]; omega
/-- all components within a bound -/
def In6 (b : Int) (c : I6) : Prop := (-b ≤ c.c0 ∧ c.c0 ≤ b) ∧ (-b ≤ c.c1 ∧ c.c1 ≤ b) ∧ (-b ≤ c.c2 ∧ c.c2 ≤ b) ∧ (-b ≤ c.c3 ∧ c.c3 ≤ b) ∧ (-b ≤ c.c4 ∧ c.c4 ≤ b) ∧ (-b ≤ c.c5 ∧ c.c5 ≤ b)
theorem In6.mono {a b : Int} (h : a ≤ b) {c : I6} (hc : In6 a c) : In6 b c := by unfold In6 at *; omega
def ChC (a b x y : Int) : Prop := a = b ∧ x ≤ a ∧ a ≤ y
def ChPt (y x : I6) : Prop := ChC y.c0 y.c1 x.c0 x.c1 ∧ ChC y.c2 y.c3 x.c2 x.c3 ∧ ChC y.c4 y.c5 x.c4 x.c5
def Chs : List I6 → List I6 → Prop
  | [], [] => True
  | y :: r, x :: l => ChPt y x ∧ Chs r l
  | _, _ => False
theorem Chs.length : ∀ {r l : List I6}, Chs r l → r.length = l.length
  | [], [], _ => rfl
  | y :: r, x :: l, h => by simp [Chs.length h.2]
  | [], _ :: _, h => h.elim
  | _ :: _, [], h => h.elim
theorem nth_at {α : Type} {l : List α} {i : Nat} (h : i < l.length) : nth l (Int.toNat ((i : Nat) : Int)) = some l[i] := by
  rw [Int.toNat_natCast]; exact nth_of_lt h
theorem drop_at {α : Type} {l : List α} {i : Nat} (h : i < l.length) : l.drop i = l[i] :: l.drop (i + 1) := List.drop_eq_getElem_cons h
theorem wi {i : Nat} (h : i ≤ 1152921504606846976) : IntKind.wrap .i64 (((i : Nat) : Int) + 1) = ((i + 1 : Nat) : Int) := by
  rw [w64 (by omega)]; omega
theorem s_shape_least_0 (l : List Int) (hl : l.length ≤ 8) : ∀ (d i : Nat), i + d = l.length → ∀ v : Int,
    Ans (L_shape_least_0 v l ((l.length : Nat) : Int) ((i : Nat) : Int)) (fun (y : Int) => (y = v ∨ y ∈ l) ∧ y ≤ v ∧ ∀ x ∈ l.drop i, y ≤ x) := by
  intro d
  induction d with
  | zero =>
    intro i hi v
    refine Ans.of (L_shape_least_0_of _ _ _ _) ?_
    have e : l.drop i = [] := by rw [List.drop_eq_nil_iff]; omega
    simp only [Bool.cond_decide]
    rw [if_neg (by omega), e]
    exact Ans.ret ⟨.inl rfl, Int.le_refl _, by simp⟩
  | succ d ih =>
    intro i hi v
    refine Ans.of (L_shape_least_0_of _ _ _ _) ?_
    have hlt : i < l.length := by omega
    simp only [Bool.cond_decide, letIn, Option.bind_some, nth_at hlt, wi (show i ≤ 1152921504606846976 by omega)]
    rw [if_pos (by omega), if_pos (by omega)]
    refine Ans.mono (ih (i + 1) (by omega) _) fun y hy => ?_
    obtain ⟨h1, h2, h3⟩ := hy
    rw [drop_at hlt]
    refine ⟨?_, ?_, ?_⟩
    · rcases h1 with h1 | h1
      · split at h1
        · right; rw [h1]; exact List.getElem_mem hlt
        · exact .inl h1
      · exact .inr h1
    · split at h2 <;> omega
    · intro x hx
      rcases List.mem_cons.1 hx with rfl | hx
      · split at h2 <;> omega
      · exact h3 x hx
theorem s_shape_least {l : List Int} {f : Int} (hl : l.length ≤ 8) (hf : f ∈ l) : Ans (F_shape_least f l) (fun y => y ∈ l ∧ ∀ x ∈ l, y ≤ x) :=
  Ans.of (F_shape_least_of f l) (Ans.bind (s_shape_least_0 l hl l.length 0 (by omega) f) fun y hy => Ans.ret (by
    obtain ⟨h1, h2, h3⟩ := hy
    refine ⟨?_, fun x hx => h3 x (by simpa using hx)⟩
    rcases h1 with rfl | h1
    · exact hf
    · exact h1))
def AllR (l : List I6) : Prop := ∀ x ∈ l, Reach6 x
instance AllR.dec (l : List I6) : Decidable (AllR l) := by unfold AllR; exact inferInstance
theorem s_shape_Bound_2 (u l : List I6) (r v12 : Int) (k : Nat) (hk : k < 3) (c16 c17 : I6) (hl : AllR l) (h8 : l.length ≤ 8) : ∀ (d i : Nat), i + d = l.length → ∀ es fs : List Int, es.length = i → fs.length = i →
    L_shape_Bound_2 u r ((k : Nat) : Int) v12 l ((l.length : Nat) : Int) ((i : Nat) : Int) c16 c17 es fs = some (u, r, ((k : Nat) : Int), v12, c16, c17, es ++ (l.drop i).map (cw k), fs ++ (l.drop i).map (fun x => - ch k x)) := by
  intro d
  induction d with
  | zero =>
    intro i hi es fs he hf
    refine L_shape_Bound_2_of _ _ _ _ _ _ _ _ _ _ _ _ ?_
    have e : l.drop i = [] := by rw [List.drop_eq_nil_iff]; omega
    simp only [Bool.cond_decide]
    rw [if_neg (by omega), e]
    simp
  | succ d ih =>
    intro i hi es fs he hf
    refine L_shape_Bound_2_of _ _ _ _ _ _ _ _ _ _ _ _ ?_
    have hlt : i < l.length := by omega
    have hx := cw_in (hl _ (List.getElem_mem hlt)) k
    simp only [Bool.cond_decide, letIn, Option.bind_some, nth_at hlt, wi (show i ≤ 1152921504606846976 by omega), guard3 hk, cond_true, rd_lo _ hk, rd_hi _ hk, asI]
    rw [if_pos (by omega), if_pos (by omega), if_pos (by omega), if_pos (by omega), w64 (by omega), ih (i + 1) (by omega) _ _ (by simp [he]) (by simp [hf]), drop_at hlt, List.map_cons, List.map_cons]
    simp only [List.append_assoc, List.cons_append, List.nil_append, Int.zero_sub]
def BK (l : List I6) (r : Int) (k : Nat) (a b : Int) : Prop :=
  ((∃ x ∈ l, a = cw k x - r) ∧ ∀ x ∈ l, a ≤ cw k x - r) ∧ (∃ x ∈ l, b = ch k x + r) ∧ ∀ x ∈ l, ch k x + r ≤ b
theorem nth_z {α : Type} {l : List α} (h : 0 < l.length) : nth l 0 = some l[0] := nth_of_lt h
def PlacedP (l : List I6) : Prop := AllR l ∧ 1 ≤ l.length ∧ l.length ≤ 8
instance PlacedP.dec (l : List I6) : Decidable (PlacedP l) := by unfold PlacedP; exact inferInstance
theorem s_shape_Bound_0 {l : List I6} {r : Int} (hl : PlacedP l) (hr : 0 ≤ r ∧ r ≤ 1048576) {k : Nat} (hk : k < 3) (c7 c8 : I6) {Q : E_shape_Bound_0 → Prop}
    (h : ∀ a b, BK l r k a b → Ans (L_shape_Bound_0 l r (((k + 1 : Nat)) : Int) c7 (setk k c8 a b)) Q) : Ans (L_shape_Bound_0 l r ((k : Nat) : Int) c7 c8) Q := Ans.of (L_shape_Bound_0_of _ _ _ _ _) (by
  obtain ⟨hR, h1, h8⟩ := hl
  simp only [Bool.cond_decide, letIn]
  rw [if_pos (by omega)]
  have e := s_shape_Bound_2 l l r ((k : Nat) : Int) k hk c7 c8 hR h8 l.length 0 (by omega) [] [] rfl rfl
  rw [show (((0 : Nat)) : Int) = 0 from rfl] at e
  have p1 : 0 < (l.map (cw k)).length := by simp; omega
  have p2 : 0 < (l.map (fun x => - ch k x)).length := by simp; omega
  simp only [e, Option.bind_some, List.nil_append, List.drop_zero, nth_z p1, nth_z p2, guard3 hk, cond_true]
  refine Ans.bind (s_shape_least (by simpa using h8) (List.getElem_mem p1)) fun y hy => ?_
  refine Ans.bind (s_shape_least (by simpa using h8) (List.getElem_mem p2)) fun z hz => ?_
  obtain ⟨x, hx, rfl⟩ := List.mem_map.1 hy.1
  obtain ⟨x', hx', ez⟩ := List.mem_map.1 hz.1
  have b1 := cw_in (hR x hx) k
  have b2 := cw_in (hR x' hx') k
  rw [w64 (show -9223372036854775808 ≤ cw k x - r ∧ _ by omega), w64 (show -9223372036854775808 ≤ r - z ∧ _ by omega), wi (by omega)]
  have hb : BK l r k (cw k x - r) (r - z) := by
    refine ⟨⟨⟨x, hx, rfl⟩, fun w hw => ?_⟩, ⟨x', hx', by omega⟩, fun w hw => ?_⟩
    · have := hy.2 _ (List.mem_map_of_mem hw); omega
    · have := hz.2 _ (List.mem_map_of_mem hw); omega
  have hq := h _ _ hb
  rcases three hk with rfl | rfl | rfl
  · exact hq
  · exact hq
  · exact hq)
theorem len_test (n : Nat) : (if (((n : Nat) : Int)) ≥ 1 then some (decide ((((n : Nat) : Int)) ≤ 8)) else some false) = some (decide (1 ≤ n ∧ n ≤ 8)) := by
  by_cases h1 : 1 ≤ n
  · rw [if_pos (by omega)]; congr 1
    rw [Bool.eq_iff_iff, decide_eq_true_eq, decide_eq_true_eq]; omega
  · rw [if_neg (by omega), decide_eq_false (by omega)]
def mn (x y : Int) : Int := if y < x then y else x
def mx (x y : Int) : Int := if y > x then y else x
def hull6 (c x : I6) : I6 := ⟨mn c.c0 x.c0, mx c.c1 x.c1, mn c.c2 x.c2, mx c.c3 x.c3, mn c.c4 x.c4, mx c.c5 x.c5⟩
theorem cw_hull (k : Nat) (c x : I6) : cw k (hull6 c x) = mn (cw k c) (cw k x) := by
  match k with
  | 0 => rfl
  | 1 => rfl
  | _ + 2 => rfl
theorem ch_hull (k : Nat) (c x : I6) : ch k (hull6 c x) = mx (ch k c) (ch k x) := by
  match k with
  | 0 => rfl
  | 1 => rfl
  | _ + 2 => rfl
def HB (l : List I6) (c p : I6) : Prop := Reach6 p ∧ ∀ k : Nat,
  ((cw k p = cw k c ∨ ∃ x ∈ l, cw k p = cw k x) ∧ cw k p ≤ cw k c ∧ ∀ x ∈ l, cw k p ≤ cw k x) ∧
  ((ch k p = ch k c ∨ ∃ x ∈ l, ch k p = ch k x) ∧ ch k c ≤ ch k p ∧ ∀ x ∈ l, ch k x ≤ ch k p)
def AllW (w : List Int) : Prop := ∀ x ∈ w, 0 ≤ x ∧ x ≤ 65536
instance AllW.dec (w : List Int) : Decidable (AllW w) := by unfold AllW; exact inferInstance
theorem AllW.cons {x : Int} {l : List Int} : AllW (x :: l) ↔ (0 ≤ x ∧ x ≤ 65536) ∧ AllW l := by simp [AllW]
theorem AllR.cons {x : I6} {l : List I6} : AllR (x :: l) ↔ Reach6 x ∧ AllR l := by simp [AllR]
theorem HB.cons {l : List I6} {c p x : I6} (h : HB l (hull6 c x) p) : HB (x :: l) c p := by
  refine ⟨h.1, fun k => ?_⟩
  obtain ⟨⟨a1, a2, a3⟩, b1, b2, b3⟩ := h.2 k
  rw [cw_hull] at a1 a2
  rw [ch_hull] at b1 b2
  unfold mn at a1 a2
  unfold mx at b1 b2
  refine ⟨⟨?_, ?_, ?_⟩, ?_, ?_, ?_⟩
  · rcases a1 with a1 | ⟨y, hy, e⟩
    · split at a1
      · first | exact .inl a1 | exact .inr ⟨x, List.mem_cons_self .., a1⟩
      · first | exact .inl a1 | exact .inr ⟨x, List.mem_cons_self .., a1⟩
    · exact .inr ⟨y, List.mem_cons_of_mem _ hy, e⟩
  · split at a2 <;> omega
  · intro y hy
    rcases List.mem_cons.1 hy with rfl | hy
    · split at a2 <;> omega
    · exact a3 y hy
  · rcases b1 with b1 | ⟨y, hy, e⟩
    · split at b1
      · first | exact .inl b1 | exact .inr ⟨x, List.mem_cons_self .., b1⟩
      · first | exact .inl b1 | exact .inr ⟨x, List.mem_cons_self .., b1⟩
    · exact .inr ⟨y, List.mem_cons_of_mem _ hy, e⟩
  · split at b2 <;> omega
  · intro y hy
    rcases List.mem_cons.1 hy with rfl | hy
    · split at b2 <;> omega
    · exact b3 y hy
theorem s_shape_reaches (a : I2) : F_shape_reaches a = some (decide (Reach a.c0 a.c1)) := by
  rw [F_shape_reaches_eq]; congr 1
  rw [Bool.eq_iff_iff, decide_eq_true_eq]
  simp [G_shape_reaches, Reach, Bool.cond_decide]
theorem s_shape_Placed_0 (u l : List I6) (hl : l.length ≤ 1152921504606846976) : ∀ (d i : Nat), i + d = l.length →
    L_shape_Placed_0 u l ((l.length : Nat) : Int) ((i : Nat) : Int) = some (if AllR (l.drop i) then .inr u else .inl false) := by
  intro d
  induction d with
  | zero =>
    intro i hi
    refine L_shape_Placed_0_of _ _ _ _ _ ?_
    have e : l.drop i = [] := by rw [List.drop_eq_nil_iff]; omega
    rw [e, if_pos (by simp [AllR])]
    simp only [Bool.cond_decide]
    rw [if_neg (by omega)]
  | succ d ih =>
    intro i hi
    refine L_shape_Placed_0_of _ _ _ _ _ ?_
    have hlt : i < l.length := by omega
    simp only [Bool.cond_decide, letIn, s_shape_reaches, Option.bind_some, nth_at hlt, wi (show i ≤ 1152921504606846976 by omega)]
    rw [if_pos (by omega), if_pos (by omega), ih (i + 1) (by omega), drop_at hlt]
    simp only [AllR.cons, Reach6]
    by_cases h1 : Reach l[i].c0 l[i].c1
    · by_cases h2 : Reach l[i].c2 l[i].c3
      · by_cases h3 : Reach l[i].c4 l[i].c5 <;> simp [h1, h2, h3]
      · simp [h1, h2]
    · simp [h1]
theorem s_shape_Placed (l : List I6) (hl : l.length ≤ 1152921504606846976) : F_shape_Placed l = some (decide (PlacedP l)) := F_shape_Placed_of l _ (by
  have := s_shape_Placed_0 l l hl l.length 0 (by omega)
  rw [List.drop_zero] at this
  simp only [Int.natCast_zero] at this
  rw [this]
  simp only [Option.bind_some, PlacedP]
  by_cases h : AllR l
  · simp only [h, if_true, true_and, Bool.cond_decide]
    exact len_test l.length
  · simp [h])
theorem s_shape_Bound {l : List I6} {r : Int} (hl : PlacedP l) (hr : 0 ≤ r ∧ r ≤ 1048576) : Ans (F_shape_Bound l r) (fun b => BK l r 0 b.c0 b.c1 ∧ BK l r 1 b.c2 b.c3 ∧ BK l r 2 b.c4 b.c5) := Ans.of (F_shape_Bound_of _ _) (by
  have h8 := hl.2.2
  simp only [s_shape_Placed l (by omega), Option.bind_some, hl, decide_true, Bool.not_true, cond_false, Bool.cond_decide]
  rw [if_neg (by omega), if_neg (by omega)]
  refine Ans.bind (Q := fun p => BK l r 0 p.2.c0 p.2.c1 ∧ BK l r 1 p.2.c2 p.2.c3 ∧ BK l r 2 p.2.c4 p.2.c5) ?_ fun p hp => Ans.ret hp
  refine s_shape_Bound_0 hl hr (k := 0) (by omega) _ _ fun a b h0 => ?_
  refine s_shape_Bound_0 hl hr (k := 1) (by omega) _ _ fun c d h1 => ?_
  refine s_shape_Bound_0 hl hr (k := 2) (by omega) _ _ fun e f h2 => ?_
  refine Ans.of (L_shape_Bound_0_of _ _ _ _ _) ?_
  simp only [Bool.cond_decide]
  rw [if_neg (by omega)]
  exact Ans.ret ⟨h0, h1, h2⟩)
theorem rbb {n k : Nat} (h : n * k ≤ reachBytes) (hk : 1 ≤ k) : n ≤ 1152921504606846976 := by
  have e : reachBytes = 140737488351232 := by decide
  have : n * 1 ≤ n * k := Nat.mul_le_mul_left n hk
  omega
/-- a valid interval -/
def V2 (a : I2) : Prop := -2147483648 ≤ a.c0 ∧ a.c0 ≤ a.c1 ∧ a.c1 ≤ 2147483648
instance V2.dec (a : I2) : Decidable (V2 a) := by unfold V2; exact inferInstance
theorem reach_V2 {a b : Int} (h : Reach a b) : V2 ⟨a, b⟩ := by unfold Reach at h; unfold V2; dsimp only; omega
def Z2 : I2 := ⟨0, 0⟩
def hullI (a b : I2) : I2 := if V2 a ∧ V2 b then ⟨mn a.c0 b.c0, mx a.c1 b.c1⟩ else Z2
theorem hull_of {a b c d : Int} (h1 : Reach a b) (h2 : Reach c d) : hullI ⟨a, b⟩ ⟨c, d⟩ = ⟨mn a c, mx b d⟩ := by
  unfold hullI
  rw [if_pos ⟨reach_V2 h1, reach_V2 h2⟩]
theorem hull6_R {c x : I6} (hc : Reach6 c) (hx : Reach6 x) : Reach6 (hull6 c x) := by
  unfold Reach6 Reach at *
  simp only [hull6, mn, mx]
  refine ⟨?_, ?_, ?_⟩ <;> (repeat' split) <;> omega
theorem s_ref1_Valid (a : I2) : F_ref1_Valid a = some (decide (V2 a)) := by
  rw [F_ref1_Valid_eq]; congr 1
  rw [Bool.eq_iff_iff, decide_eq_true_eq]
  simp [G_ref1_Valid, V2, Bool.cond_decide]
theorem s_ref1_Hull (a b : I2) : F_ref1_Hull a b = some (hullI a b) := F_ref1_Hull_of a b _ (by
  simp only [s_ref1_Valid, Option.bind_some, hullI, letIn]
  by_cases h : V2 a <;> by_cases h' : V2 b <;> simp [h, h', Z2, mn, mx])
theorem s_ref10_Bound_0 (l : List I6) (r : Int) (c8 : I6) (hl : AllR l) (h8 : l.length ≤ 8) : ∀ (d i : Nat), i + d = l.length → ∀ c : I6, Reach6 c →
    Ans (L_ref10_Bound_0 l r ((i : Nat) : Int) c8 c) (fun p => p.1 = r ∧ HB (l.drop i) c p.2.2) := by
  intro d
  induction d with
  | zero =>
    intro i hi c hc
    refine Ans.of (L_ref10_Bound_0_of _ _ _ _ _) ?_
    have e : l.drop i = [] := by rw [List.drop_eq_nil_iff]; omega
    simp only [Bool.cond_decide]
    rw [if_neg (by omega), e]
    exact Ans.ret ⟨rfl, hc, fun k => ⟨⟨.inl rfl, Int.le_refl _, by simp⟩, .inl rfl, Int.le_refl _, by simp⟩⟩
  | succ d ih =>
    intro i hi c hc
    refine Ans.of (L_ref10_Bound_0_of _ _ _ _ _) ?_
    have hlt : i < l.length := by omega
    have hx := hl _ (List.getElem_mem hlt)
    simp only [Bool.cond_decide, letIn, Option.bind_some, nth_at hlt, wi (show i ≤ 1152921504606846976 by omega), if_pos (show (0 : Int) ≤ ((i : Nat) : Int) by omega), if_pos (show ((i : Nat) : Int) < ((l.length : Nat) : Int) by omega), s_ref1_Hull, hull_of hc.1 hx.1, hull_of hc.2.1 hx.2.1, hull_of hc.2.2 hx.2.2]
    rw [drop_at hlt]
    exact Ans.mono (ih (i + 1) (by omega) (hull6 c l[i]) (hull6_R hc hx)) fun p hp => ⟨hp.1, hp.2.cons⟩
theorem HB.bk {x : I6} {l : List I6} {p : I6} (h : HB l x p) (r : Int) (k : Nat) : BK (x :: l) r k (cw k p - r) (ch k p + r) := by
  obtain ⟨⟨a1, a2, a3⟩, b1, b2, b3⟩ := h.2 k
  refine ⟨⟨?_, fun y hy => ?_⟩, ?_, fun y hy => ?_⟩
  · rcases a1 with a1 | ⟨y, hy, e⟩
    · exact ⟨x, List.mem_cons_self .., by omega⟩
    · exact ⟨y, List.mem_cons_of_mem _ hy, by omega⟩
  · rcases List.mem_cons.1 hy with rfl | hy
    · omega
    · have := a3 y hy; omega
  · rcases b1 with b1 | ⟨y, hy, e⟩
    · exact ⟨x, List.mem_cons_self .., by omega⟩
    · exact ⟨y, List.mem_cons_of_mem _ hy, by omega⟩
  · rcases List.mem_cons.1 hy with rfl | hy
    · omega
    · have := b3 y hy; omega
theorem BK_uniq {l : List I6} {r : Int} {k : Nat} {a b c d : Int} (h : BK l r k a b) (h' : BK l r k c d) : a = c ∧ b = d := by
  obtain ⟨⟨⟨x1, m1, e1⟩, f1⟩, ⟨x2, m2, e2⟩, f2⟩ := h
  obtain ⟨⟨⟨x3, m3, e3⟩, f3⟩, ⟨x4, m4, e4⟩, f4⟩ := h'
  have g1 := f1 x3 m3
  have g2 := f2 x4 m4
  have g3 := f3 x1 m1
  have g4 := f4 x2 m2
  omega
def BB (l : List I6) (r : Int) (b : I6) : Prop := BK l r 0 b.c0 b.c1 ∧ BK l r 1 b.c2 b.c3 ∧ BK l r 2 b.c4 b.c5
theorem BB_uniq {l : List I6} {r : Int} {b c : I6} (h : BB l r b) (h' : BB l r c) : b = c := by
  obtain ⟨h0, h1, h2⟩ := h
  obtain ⟨g0, g1, g2⟩ := h'
  have e0 := BK_uniq h0 g0
  have e1 := BK_uniq h1 g1
  have e2 := BK_uniq h2 g2
  cases b; cases c; simp_all
theorem s_ref10_reached (x : I6) : F_ref10_reached x = some (decide (Reach6 x)) := by
  rw [F_ref10_reached_eq]; congr 1
  simp only [G_ref10_reached, letIn, Bool.cond_decide]
  by_cases h : Reach6 x
  · rw [decide_eq_true h]
    unfold Reach6 Reach at h
    rw [if_neg (by omega), if_neg (by omega), if_neg (by omega), if_neg (by omega), if_neg (by omega), if_neg (by omega), if_neg (by omega), if_neg (by omega), if_neg (by omega)]
  · rw [decide_eq_false h]
    unfold Reach6 Reach at h
    split
    · rename_i e he
      (repeat' split at he) <;> first | (cases he; rfl) | (cases he; done)
    · rename_i e he
      exfalso
      (repeat' split at he) <;> first | (cases he; done) | (apply h; omega)
theorem s_ref10_Placed_0 (l : List I6) (hl : l.length ≤ 1152921504606846976) : ∀ (d i : Nat), i + d = l.length → i ≤ 9 →
    L_ref10_Placed_0 l ((i : Nat) : Int) = some (if AllR ((l.drop i).take (9 - i)) then .inr l else .inl false) := by
  intro d
  induction d with
  | zero =>
    intro i hi h9
    refine L_ref10_Placed_0_of _ _ _ ?_
    have e : l.drop i = [] := by rw [List.drop_eq_nil_iff]; omega
    rw [e, List.take_nil, if_pos (by simp [AllR])]
    simp only [Bool.cond_decide]
    rw [if_neg (by omega)]
  | succ d ih =>
    intro i hi h9
    refine L_ref10_Placed_0_of _ _ _ ?_
    have hlt : i < l.length := by omega
    simp only [Bool.cond_decide, letIn, s_ref10_reached, Option.bind_some, nth_at hlt, wi (show i ≤ 1152921504606846976 by omega)]
    rw [if_pos (by omega)]
    by_cases h8 : i ≤ 8
    · rw [if_pos (by omega), if_pos (by omega), ih (i + 1) (by omega) (by omega), drop_at hlt, show 9 - i = (9 - (i + 1)) + 1 by omega, List.take_succ_cons]
      simp only [AllR.cons]
      by_cases h1 : Reach6 l[i] <;> simp [h1]
    · rw [if_neg (by omega), show 9 - i = 0 by omega, List.take_zero, if_pos (by simp [AllR])]
theorem s_ref10_Placed (l : List I6) (hl : l.length ≤ 1152921504606846976) : F_ref10_Placed l = some (decide (PlacedP l)) := F_ref10_Placed_of l _ (by
  have := s_ref10_Placed_0 l hl l.length 0 (by omega) (by omega)
  rw [List.drop_zero] at this
  simp only [Int.natCast_zero] at this
  rw [this]
  simp only [Option.bind_some, PlacedP]
  by_cases h2 : l.length ≤ 8
  · rw [List.take_of_length_le (by omega)]
    by_cases h : AllR l
    · simp only [h, if_true, true_and, Bool.cond_decide]
      exact len_test l.length
    · simp [h]
  · by_cases h : AllR (l.take (9 - 0))
    · simp only [h, if_true, Bool.cond_decide]
      rw [if_pos (by omega)]
      simp [h2]; omega
    · simp [h, h2])
theorem s_ref10_Bound {l : List I6} {r : Int} (hl : PlacedP l) (hr : 0 ≤ r ∧ r ≤ 1048576) : Ans (F_ref10_Bound l r) (BB l r) := Ans.of (F_ref10_Bound_of _ _) (by
  have h8 := hl.2.2
  have h1 := hl.2.1
  have hR := hl.1
  simp only [s_ref10_Placed l (by omega), Option.bind_some, hl, decide_true, Bool.not_true, cond_false, Bool.cond_decide]
  rw [if_neg (by omega), if_neg (by omega), nth_z (by omega)]
  simp only [Option.bind_some]
  have hx := hR _ (List.getElem_mem (show 0 < l.length by omega))
  refine Ans.bind (s_ref10_Bound_0 l r _ hR h8 (l.length - 1) 1 (by omega) l[0] hx) fun p hp => ?_
  obtain ⟨e, hb⟩ := hp
  have el : l = l[0] :: l.drop 1 := by
    have := drop_at (show 0 < l.length by omega)
    simpa using this
  have q := hb.bk r
  rw [← el] at q
  have b := cw_in hb.1
  have b0 := b 0
  have b1 := b 1
  have b2 := b 2
  simp only [cw, ch] at b0 b1 b2
  rw [e]
  simp only [letIn]
  rw [w64 (by omega), w64 (by omega), w64 (by omega), w64 (by omega), w64 (by omega), w64 (by omega)]
  exact Ans.ret ⟨q 0, q 1, q 2⟩)
theorem bound_eq (l : List I6) (r : Int) (hl : l.length ≤ 1152921504606846976) : ∃ b, F_shape_Bound l r = some b ∧ F_ref10_Bound l r = some b := by
  by_cases h : PlacedP l ∧ 0 ≤ r ∧ r ≤ 1048576
  · obtain ⟨b, e, hb⟩ := s_shape_Bound h.1 h.2
    obtain ⟨c, e', hc⟩ := s_ref10_Bound h.1 h.2
    have := BB_uniq (show BB l r b from hb) hc
    exact ⟨b, e, by rw [e', this]⟩
  · refine ⟨⟨0, 0, 0, 0, 0, 0⟩, F_shape_Bound_of _ _ _ ?_, F_ref10_Bound_of _ _ _ ?_⟩
    · simp only [s_shape_Placed l hl, Option.bind_some]
      by_cases hp : PlacedP l
      · simp only [hp, decide_true, Bool.not_true, cond_false, Bool.cond_decide]
        by_cases h1 : r < 0
        · rw [if_pos h1]
        · rw [if_neg h1, if_pos (by have q : ¬ (0 ≤ r ∧ r ≤ 1048576) := fun q => h ⟨hp, q⟩; omega)]
      · simp only [hp, decide_false, Bool.not_false, cond_true]
    · simp only [s_ref10_Placed l hl, Option.bind_some]
      by_cases hp : PlacedP l
      · simp only [hp, decide_true, Bool.not_true, cond_false, Bool.cond_decide]
        by_cases h1 : r < 0
        · rw [if_pos h1]
        · rw [if_neg h1, if_pos (by have q : ¬ (0 ≤ r ∧ r ≤ 1048576) := fun q => h ⟨hp, q⟩; omega)]
      · simp only [hp, decide_false, Bool.not_false, cond_true]
def midI (a : I2) : Int := if V2 a then (a.c0 + a.c1) / 2 else 0
def mid3 (x : I6) : I3 := ⟨midI ⟨x.c0, x.c1⟩, midI ⟨x.c2, x.c3⟩, midI ⟨x.c4, x.c5⟩⟩
theorem s_ref1_Floor {a b : Int} (ha : -4611686018427387904 ≤ a ∧ a ≤ 4611686018427387904) (hb : 0 < b) : F_ref1_Floor a b = some (a / b) := F_ref1_Floor_of a b _ (by
  have hq := floor_pos (a := a) hb
  have ht := tdiv_bd (a := a) (b := b) ha.1 ha.2
  have hne : (b == 0) = false := by simp; omega
  simp only [hne, cond_false, letIn, Bool.cond_decide]
  rw [w64 (n := Int.tdiv a b) (by omega), w64 (n := Int.tdiv a b - 1) (by omega), ← hq]
  split <;> rfl)
theorem V2.b0 {a : I2} (h : V2 a) : -2147483648 ≤ a.c0 ∧ a.c0 ≤ 2147483648 := by unfold V2 at h; omega
theorem V2.b1 {a : I2} (h : V2 a) : -2147483648 ≤ a.c1 ∧ a.c1 ≤ 2147483648 := by unfold V2 at h; omega
theorem s_ref1_Mid (a : I2) : F_ref1_Mid a = some (midI a) := F_ref1_Mid_of a _ (by
  simp only [s_ref1_Valid, Option.bind_some, midI]
  by_cases h : V2 a
  · have := h.b0; have := h.b1
    simp only [h, decide_true, Bool.not_true, cond_false, if_true, letIn]
    rw [w64 (by omega), s_ref1_Floor (by omega) (by omega)]; rfl
  · simp [h])
theorem s_ref10_Centers_0 (l : List I6) (h8 : l.length ≤ 8) : ∀ (d i : Nat), i + d = l.length → ∀ es : List I3, es.length = i →
    L_ref10_Centers_0 l ((i : Nat) : Int) es = some (es ++ (l.drop i).map mid3) := by
  intro d
  induction d with
  | zero =>
    intro i hi es he
    refine L_ref10_Centers_0_of _ _ _ _ ?_
    have e : l.drop i = [] := by rw [List.drop_eq_nil_iff]; omega
    simp only [Bool.cond_decide]
    rw [if_neg (by omega), e]
    simp
  | succ d ih =>
    intro i hi es he
    refine L_ref10_Centers_0_of _ _ _ _ ?_
    have hlt : i < l.length := by omega
    simp only [Bool.cond_decide, letIn, Option.bind_some, nth_at hlt, wi (show i ≤ 1152921504606846976 by omega), if_pos (show (0 : Int) ≤ ((i : Nat) : Int) by omega), if_pos (show ((i : Nat) : Int) < ((l.length : Nat) : Int) by omega), s_ref1_Mid]
    rw [if_pos (by omega), ih (i + 1) (by omega) _ (by simp [he]), drop_at hlt, List.map_cons]
    simp only [List.append_assoc, List.cons_append, List.nil_append]
    rfl
theorem take_upd {α : Type} {l : List α} {i : Nat} {y : α} (h : i < l.length) : (upd l i y).take (i + 1) = l.take i ++ [y] := by
  induction l generalizing i with
  | nil => simp at h
  | cons x l ih =>
    cases i with
    | zero => simp [upd]
    | succ i => simp only [upd, List.take_succ_cons, ih (show i < l.length by simpa using h), List.cons_append]
theorem upd_upd {α : Type} {l : List α} {i : Nat} {x y : α} : upd (upd l i x) i y = upd l i y := by
  rw [upd_eq, upd_eq, upd_eq, List.set_set]
theorem s_interval_Valid (a : I2) : F_interval_Valid a = some (decide (V2 a)) := by
  rw [F_interval_Valid_eq]; congr 1
  rw [Bool.eq_iff_iff, decide_eq_true_eq]
  simp [G_interval_Valid, V2, Bool.cond_decide]
theorem s_interval_Mid (a : I2) : F_interval_Mid a = some (midI a) := F_interval_Mid_of a _ (by
  simp only [s_interval_Valid, Option.bind_some, midI]
  by_cases h : V2 a
  · have := h.b0; have := h.b1
    simp only [h, decide_true, Bool.not_true, cond_false, if_true, letIn]
    rw [w64 (by omega), fdiv_pos (by omega)]
  · simp [h])
theorem nth_upd_self {α : Type} {l : List α} {i : Nat} {y : α} (h : i < l.length) : nth (upd l i y) i = some y := by
  rw [nth_eq, upd_eq]; simp [h]
theorem s_shape_Centers_0 (l : List I6) (h8 : l.length ≤ 8) : ∀ (d i : Nat), i + d = l.length → ∀ es : List I3, es.length = l.length →
    L_shape_Centers_0 l ((l.length : Nat) : Int) ((i : Nat) : Int) es = some (es.take i ++ (l.drop i).map mid3) := by
  intro d
  induction d with
  | zero =>
    intro i hi es he
    refine L_shape_Centers_0_of _ _ _ _ _ ?_
    have e : l.drop i = [] := by rw [List.drop_eq_nil_iff]; omega
    have e2 : es.take i = es := by rw [List.take_of_length_le]; omega
    simp only [Bool.cond_decide]
    rw [if_neg (by omega), e, e2]
    simp
  | succ d ih =>
    intro i hi es he
    refine L_shape_Centers_0_of _ _ _ _ _ ?_
    have hlt : i < l.length := by omega
    have hle : i < es.length := by omega
    have hu : ∀ y : I3, i < (upd es i y).length := fun y => by rw [upd_length]; exact hle
    simp only [Bool.cond_decide, letIn, Option.bind_some, nth_at hlt, nth_at hle, Int.toNat_natCast, nth_of_lt hlt, nth_of_lt hle, nth_upd_self hle, upd_upd, wi (show i ≤ 1152921504606846976 by omega), if_pos (show (0 : Int) ≤ ((i : Nat) : Int) by omega), if_pos (show ((i : Nat) : Int) < ((l.length : Nat) : Int) by omega), s_interval_Mid]
    rw [ih (i + 1) (by omega) _ (by rw [upd_length]; exact he), drop_at hlt, List.map_cons, take_upd hle]
    simp only [List.append_assoc, List.cons_append, List.nil_append]
    rfl
theorem same_self_0 (a : List I3) (h8 : a.length ≤ 8) : ∀ (d i : Nat), i + d = a.length → L_make_Same_api_Vec_0 a a ((i : Nat) : Int) = some (.inr ()) := by
  intro d
  induction d with
  | zero =>
    intro i hi
    refine L_make_Same_api_Vec_0_of _ _ _ _ ?_
    simp only [Bool.cond_decide]
    rw [if_neg (by omega)]
  | succ d ih =>
    intro i hi
    refine L_make_Same_api_Vec_0_of _ _ _ _ ?_
    have hlt : i < a.length := by omega
    simp only [Bool.cond_decide, letIn, Option.bind_some, nth_at hlt, wi (show i ≤ 1152921504606846976 by omega), if_pos (show (0 : Int) ≤ ((i : Nat) : Int) by omega), if_pos (show ((i : Nat) : Int) < ((a.length : Nat) : Int) by omega), beq_self_eq_true, Bool.and_self, Bool.and_true, Bool.not_true, cond_false]
    exact ih (i + 1) (by omega)
theorem same_self (a : List I3) (h8 : a.length ≤ 8) : F_make_Same_api_Vec a a = some true := F_make_Same_api_Vec_of _ _ _ (by
  have e := same_self_0 a h8 a.length 0 (by omega)
  rw [show (((0 : Nat)) : Int) = 0 from rfl] at e
  simp only [bne_self_eq_false, cond_false, e, Option.bind_some])
theorem centers_eq (l : List I6) (hl : l.length ≤ 1152921504606846976) : ∃ b, F_shape_Centers l = some b ∧ F_ref10_Centers l = some b ∧ b.length ≤ 8 := by
  by_cases hp : PlacedP l
  · have h8 := hp.2.2
    refine ⟨l.map mid3, F_shape_Centers_of _ _ ?_, F_ref10_Centers_of _ _ ?_, by simpa using h8⟩
    · have e := s_shape_Centers_0 l h8 l.length 0 (by omega) (List.replicate l.length ⟨0, 0, 0⟩) (by simp)
      rw [show (((0 : Nat)) : Int) = 0 from rfl] at e
      have g : ((decide ((0 : Int) ≤ ((l.length : Nat) : Int)) && decide (((l.length : Nat) : Int) ≤ ((l.length : Nat) : Int)) && decide (((l.length : Nat) : Int) ≤ ((l.length : Nat) : Int)) && decide (l.length * 24 ≤ 140737488355328))) = true := by
        simp only [Bool.and_eq_true, decide_eq_true_eq]; omega
      simp only [s_shape_Placed l hl, Option.bind_some, hp, decide_true, Bool.not_true, cond_false, Int.toNat_natCast, e]
      simp [show l.length * 24 ≤ 140737488355328 by omega]
    · have e := s_ref10_Centers_0 l h8 l.length 0 (by omega) [] rfl
      rw [show (((0 : Nat)) : Int) = 0 from rfl] at e
      simp only [s_ref10_Placed l hl, Option.bind_some, hp, decide_true, Bool.not_true, cond_false, e]
      simp
  · refine ⟨[], F_shape_Centers_of _ _ ?_, F_ref10_Centers_of _ _ ?_, by simp⟩
    · simp only [s_shape_Placed l hl, Option.bind_some, hp, decide_false, Bool.not_false, cond_true]
    · simp only [s_ref10_Placed l hl, Option.bind_some, hp, decide_false, Bool.not_false, cond_true]
theorem s_law10_bounds (l : List I6) (r : Int) (hl : l.length ≤ 1152921504606846976) : F_law10_bounds l r = some true := F_law10_bounds_of _ _ _ (by
  obtain ⟨b, e1, e2⟩ := bound_eq l r hl
  obtain ⟨c, e3, e4, h8⟩ := centers_eq l hl
  simp only [s_shape_Placed l hl, s_ref10_Placed l hl, Option.bind_some, beq_self_eq_true, cond_true, e1, e2, letIn, Bool.and_self, Bool.and_true, e3, e4, same_self c h8])
theorem law10_awake : F_law10_awake = some true := den_const (x := X_law10_awake) injO_law10_awake 30 (fun n => by kernel_rfl)
def SrcOk (c : LI_I) : Prop := 0 ≤ c.c1 ∧ c.c1 ≤ c.c0.length ∧ c.c0.length ≤ 1152921504606846976
theorem s_make_From (l : List Int) (hl : l.length ≤ 1152921504606846976) : Ans (F_make_From l) SrcOk := Ans.of (F_make_From_of l) (Ans.ret (by unfold SrcOk; dsimp only; omega))
theorem s_make_Round {n k : Int} (hk : 0 < k) (hk2 : k ≤ 4611686018427387904) : Ans (F_make_Round n k) (fun r => 0 ≤ r ∧ r < k) := Ans.of (F_make_Round_of n k) (by
  have hne : (k == 0) = false := by simp; omega
  simp only [hne, cond_false, letIn, Bool.cond_decide]
  have h1 := Int.tmod_lt_of_pos n hk
  have h2 : -k < Int.tmod n k := by
    have := Int.neg_tmod n k
    have h3 := Int.tmod_lt_of_pos (-n) hk
    omega
  by_cases h : Int.tmod n k < 0
  · rw [if_pos h, w64 (by omega)]; exact Ans.ret (by omega)
  · rw [if_neg h]; exact Ans.ret (by omega))
theorem s_make_Next {k : Int} (hk : 0 < k) (hk2 : k ≤ 4611686018427387904) {c : LI_I} (hc : SrcOk c) : Ans (F_make_Source_Next k c) (fun y => (0 ≤ y.1 ∧ y.1 < k) ∧ SrcOk y.2) := Ans.of (F_make_Source_Next_of k c) (by
  obtain ⟨h0, h1, h2⟩ := hc
  simp only [letIn, Bool.cond_decide]
  by_cases h : c.c1 ≥ ((c.c0.length : Nat) : Int)
  · rw [if_pos h]; exact Ans.ret ⟨by dsimp only; omega, h0, h1, h2⟩
  · rw [if_neg h, w64 (n := c.c1 + 1) (by omega), w64 (n := c.c1 + 1 - 1) (by omega), if_pos (by omega)]
    rw [nth_of_lt (l := c.c0) (i := (c.c1 + 1 - 1).toNat) (by omega)]
    simp only [Option.bind_some]
    refine Ans.bind (s_make_Round hk hk2) fun y hy => Ans.ret ⟨hy, ?_⟩
    unfold SrcOk; dsimp only; omega)
theorem s_make_Signed {k : Int} (hk : 0 ≤ k) (hk2 : k ≤ 1000000000000) {c : LI_I} (hc : SrcOk c) : Ans (F_make_Source_Signed k c) (fun y => (-k ≤ y.1 ∧ y.1 ≤ k) ∧ SrcOk y.2) := Ans.of (F_make_Source_Signed_of k c) (by
  simp only [letIn]
  rw [w64 (n := 2 * k) (by omega), w64 (n := 2 * k + 1) (by omega)]
  refine Ans.bind (s_make_Next (by omega) (by omega) hc) fun y hy => ?_
  rw [w64 (n := y.1 - k) (by omega)]
  exact Ans.ret ⟨by dsimp only; omega, hy.2⟩)
/-- a made point: boxes of bounded width near the origin -/
def Pc (w a b : Int) : Prop := -327689 ≤ a ∧ a ≤ 327689 ∧ a ≤ b ∧ b ≤ a + w
def Pt (w : Int) (x : I6) : Prop := Pc w x.c0 x.c1 ∧ Pc w x.c2 x.c3 ∧ Pc w x.c4 x.c5
theorem pcw {w c a b e : Int} (hw : 0 ≤ w ∧ w ≤ 1048576) (hc : -196608 ≤ c ∧ c ≤ 196608) (ha : -4 ≤ a ∧ a ≤ 4) (hb : -9 ≤ b ∧ b ≤ 9) (he : 0 ≤ e ∧ e < w + 1) :
    Pc w (IntKind.wrap .i64 (IntKind.wrap .i64 (c + IntKind.wrap .i64 (a * 32768)) + b)) (IntKind.wrap .i64 (IntKind.wrap .i64 (IntKind.wrap .i64 (c + IntKind.wrap .i64 (a * 32768)) + b) + e)) := by
  rw [w64 (n := a * 32768) (by omega), w64 (n := c + a * 32768) (by omega), w64 (n := c + a * 32768 + b) (by omega), w64 (n := c + a * 32768 + b + e) (by omega)]
  unfold Pc; omega
def dpt (n : I3) (y : I6) : Int := n.c0 * y.c0 + n.c1 * y.c2 + n.c2 * y.c4
def hs (n : I3) : List I6 → List Int → Int
  | y :: ys, w :: ws => w * dpt n y + hs n ys ws
  | _, _ => 0
theorem s_make_Points_0 {w : Int} (hw : 0 ≤ w ∧ w ≤ 1048576) (o : I3) (ho : (-196608 ≤ o.c0 ∧ o.c0 ≤ 196608) ∧ (-196608 ≤ o.c1 ∧ o.c1 ≤ 196608) ∧ (-196608 ≤ o.c2 ∧ o.c2 ≤ 196608)) : ∀ (n : Nat) (c : LI_I) (es : List I6), n + es.length ≤ 5 → SrcOk c → (∀ x ∈ es, Pt w x) →
    Ans (L_make_Points_0 w ((n : Nat) : Int) c o es) (fun r => r.length = es.length + n ∧ ∀ x ∈ r, Pt w x) := by
  intro n
  induction n with
  | zero =>
    intro c es hn hc he
    refine Ans.of (L_make_Points_0_of _ _ _ _ _) ?_
    simp only [Bool.cond_decide]
    rw [if_neg (by omega)]
    exact Ans.ret ⟨by omega, he⟩
  | succ n ih =>
    intro c es hn hc he
    refine Ans.of (L_make_Points_0_of _ _ _ _ _) ?_
    simp only [Bool.cond_decide, letIn]
    rw [if_pos (by omega), w64 (n := w + 1) (by omega)]
    refine Ans.bind (Q := fun p => p.1 = w ∧ p.2.1 = ((n + 1 : Nat) : Int) ∧ SrcOk p.2.2.1 ∧ p.2.2.2.1 = o ∧ p.2.2.2.2.1 = es ∧ Pt w p.2.2.2.2.2) ?_ ?_
    · refine Ans.bind (s_make_Signed (by omega) (by omega) hc) fun y1 h1 => ?_
      refine Ans.bind (s_make_Signed (by omega) (by omega) h1.2) fun y2 h2 => ?_
      refine Ans.bind (s_make_Next (by omega) (by omega) h2.2) fun y3 h3 => ?_
      refine Ans.bind (s_make_Signed (by omega) (by omega) h3.2) fun y4 h4 => ?_
      refine Ans.bind (s_make_Signed (by omega) (by omega) h4.2) fun y5 h5 => ?_
      refine Ans.bind (s_make_Next (by omega) (by omega) h5.2) fun y6 h6 => ?_
      refine Ans.bind (s_make_Signed (by omega) (by omega) h6.2) fun y7 h7 => ?_
      refine Ans.bind (s_make_Signed (by omega) (by omega) h7.2) fun y8 h8 => ?_
      refine Ans.bind (s_make_Next (by omega) (by omega) h8.2) fun y9 h9 => ?_
      refine Ans.ret ⟨rfl, rfl, h9.2, rfl, rfl, ?_⟩
      exact ⟨pcw hw ho.1 h1.1 h2.1 h3.1, pcw hw ho.2.1 h4.1 h5.1 h6.1, pcw hw ho.2.2 h7.1 h8.1 h9.1⟩
    · rintro ⟨p1, p2, p3, p4, p5, p6⟩ ⟨e1, e2, hs, e4, e5, hp⟩
      dsimp only at e1 e2 hs e4 e5 hp ⊢
      subst e1 e2 e4 e5
      rw [if_pos (by omega), w64 (n := ((n + 1 : Nat) : Int) - 1) (by omega), show ((n + 1 : Nat) : Int) - 1 = ((n : Nat) : Int) by omega]
      refine (ih p3 (p5 ++ [p6]) (by simp; omega) hs ?_).mono fun r hr => ⟨by rw [hr.1]; simp; omega, hr.2⟩
      intro x hx
      rcases List.mem_append.1 hx with hx | hx
      · exact he x hx
      · simp at hx; subst hx; exact hp
theorem s_make_Points (l : List Int) (hl : l.length ≤ 1152921504606846976) {w : Int} (hw : 0 ≤ w ∧ w ≤ 1048576) : Ans (F_make_Points l w) (fun r => (1 ≤ r.length ∧ r.length ≤ 5) ∧ ∀ x ∈ r, Pt w x) := Ans.of (F_make_Points_of l w) (by
  simp only [letIn]
  refine Ans.bind (s_make_From l hl) fun y0 h0 => ?_
  refine Ans.bind (s_make_Signed (by omega) (by omega) h0) fun y1 h1 => ?_
  refine Ans.bind (s_make_Signed (by omega) (by omega) h1.2) fun y2 h2 => ?_
  refine Ans.bind (s_make_Signed (by omega) (by omega) h2.2) fun y3 h3 => ?_
  refine Ans.bind (s_make_Next (by omega) (by omega) h3.2) fun y4 h4 => ?_
  rw [w64 (n := y1.1 * 32768) (by omega), w64 (n := y2.1 * 32768) (by omega), w64 (n := y3.1 * 32768) (by omega), w64 (n := 1 + y4.1) (by omega)]
  obtain ⟨n, hn⟩ : ∃ n : Nat, 1 + y4.1 = ((n : Nat) : Int) := ⟨(1 + y4.1).toNat, by omega⟩
  rw [hn]
  refine Ans.bind (s_make_Points_0 hw ⟨y1.1 * 32768, y2.1 * 32768, y3.1 * 32768⟩ (by dsimp only; omega) n y4.2 [] (by simp; omega) h4.2 (by simp)) fun r hr => ?_
  exact Ans.ret ⟨by have := hr.1; simp at this; omega, hr.2⟩)
theorem law_law10_ShapeBounds (raw : List I6) (radius : Int) (l : List Int) (width : Int) (h1 : raw.length * 48 ≤ reachBytes) (b1 : ∀ x ∈ raw, BI6 x) (hr : I64 radius) (h3 : l.length * 8 ≤ reachBytes) (b3 : ∀ x ∈ l, BI x) (hw : I64 width) : F_law10_ShapeBounds raw radius l width = some true := F_law10_ShapeBounds_of _ _ _ _ _ (by
  have e : reachBytes = 140737488351232 := by decide
  obtain ⟨w, ew, w0, w1⟩ := s_make_Round (n := width) (k := 5000) (by omega) (by omega)
  obtain ⟨x, ex, hx⟩ := s_make_Points l (rbb h3 (by omega)) (w := w) (by omega)
  simp only [ew, Option.bind_some, ex, letIn]
  obtain ⟨r, er, r0, r1⟩ := s_make_Round (n := IntKind.wrap .i64 ((BitVec.ofInt 64 radius &&& BitVec.ofInt 64 16777215).toNat : Nat)) (k := 2097152) (by omega) (by omega)
  have hx5 := hx.1.2
  have hbig : (x.length + raw.length) * 48 ≤ 140737488355328 := by omega
  simp only [er, Option.bind_some, law10_awake, cond_true, s_law10_bounds raw radius (by omega), s_law10_bounds x _ (by omega), s_law10_bounds (x ++ raw) _ (by rw [List.length_append]; omega), decide_eq_true hbig])
end Go.Proofs.Ytfpdjpleplhcgaa.Am
