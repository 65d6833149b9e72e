-- PRINTED BY print.sh 35421559b90ae4d0a3588c463048766b98c2df88dd9212a6774a882060cdf62d: not written by this session
import Derived.Test.YtdeajnmheebghaaPFixedSquaresx0
namespace Go.Proofs.Ytdeajnmheebghaa.PFixedSquares
open Go.RowKit Go.Proofs.YtdeajnmheebghaaW.PrintWords Go.Proofs.YtdeajnmheebghaaW.PrintLast Go.Proofs.YtdeajnmheebghaaW.PrintMore
attribute [local go_sem] max2_int min2_int max_two min_two max_three min_three max_four min_four   -- for this text's walks alone
set_option linter.unusedVariables false
set_option linter.unusedSimpArgs false

/-! ### fixed_Root: function 12 -/
def fixed_Root.l0 : Nat → Int → Int → Int → Option (Int)
  | 0, _, _, _ => none
  | k + 1, x0, x3, x8 => if x8 < 32 then (if 0 ≤ (wrap64 (31 - x8)) then (if (wrap64 (x3 + (shl .i64 1 (wrap64 (31 - x8))))) = 0 then (none) else (if (wrap64 (x3 + (shl .i64 1 (wrap64 (31 - x8))))) ≤ (wrap64 (Int.tdiv x0 (wrap64 (x3 + (shl .i64 1 (wrap64 (31 - x8))))))) then (fixed_Root.l0 k x0 (wrap64 (x3 + (shl .i64 1 (wrap64 (31 - x8))))) (wrap64 (x8 + 1))) else (fixed_Root.l0 k x0 x3 (wrap64 (x8 + 1))))) else (none)) else (some x3)
def fixed_Root.f (k : Nat) (a0 : Int) : Option (Int) := if a0 ≤ 0 then (some 0) else (fixed_Root.l0 k a0 0 0)
theorem fixed_Root.mono_l : ∀ k, (∀ y0 y1 y2, LeO (fixed_Root.l0 k y0 y1 y2) (fixed_Root.l0 (k + 1) y0 y1 y2))
  | 0 => fun _ _ _ r h => by simp [fixed_Root.l0] at h
  | k + 1 => by
    have ih0 := fixed_Root.mono_l k
    · intro y0 y1 y2
      unfold fixed_Root.l0
      repeat' first
      | (with_reducible exact ih0 _ _ _)
      | (with_reducible exact LeO.refl _)
      | (with_reducible exact LeO.none _)
      | (with_reducible refine LeO.ite ?_ ?_)
      | (with_reducible refine LeO.bind ?_ (fun _ => ?_))
      | exact ih0 _ _ _
      | exact LeO.none _
      | refine LeO.ite ?_ ?_
      | refine LeO.bind ?_ (fun _ => ?_)
theorem fixed_Root.mono : ∀ a0 k, LeO (fixed_Root.f k a0) (fixed_Root.f (k + 1) a0) := by
  intro a0 k
  have ih0 := fixed_Root.mono_l k
  unfold fixed_Root.f
  repeat' first
      | (with_reducible exact ih0 _ _ _)
      | (with_reducible exact LeO.refl _)
      | (with_reducible exact LeO.none _)
      | (with_reducible refine LeO.ite ?_ ?_)
      | (with_reducible refine LeO.bind ?_ (fun _ => ?_))
      | exact ih0 _ _ _
      | exact LeO.none _
      | refine LeO.ite ?_ ?_
      | refine LeO.bind ?_ (fun _ => ?_)
set_option maxHeartbeats 8000000 in
set_option maxRecDepth 100000 in
theorem fixed_Root.calls (k : Nat) (a0 : Int) (r : Int) (w : World) (h : fixed_Root.f k a0 = some r) :
    Calls Try.prog 12 #[.int .i64 a0] w fun e w' => e = .returned (.int .i64 r) ∧ Drawn0 w w' := by
  have H : (if a0 ≤ 0 then (some 0) else (fixed_Root.l0 k a0 0 0)) = some r := h
  clear h
  by_cases c2 : a0 ≤ 0
  · rw [if_pos c2] at H
    have c2b0 : decide (a0 ≤ 0) = true := decide_eq_true c2
    clear c2
    obtain rfl := Option.some.inj H
    go_enter Try.func12, Try.ntmps12
    go_wp2
    go_ret
    exact ⟨by first | rfl | (simp; done) | (simp [*]; done), by repeat (first | exact Drawn0.refl _ | apply Drawn0.step)⟩
  · rw [if_neg c2] at H
    have c2b0 : decide (a0 ≤ 0) = false := decide_eq_false c2
    clear c2
    have H' := Aside0.mk H
    clear H
    go_enter Try.func12, Try.ntmps12
    go_wp2
    go_loopg [3, 8] k (fun kq v3 v8 w' => ∃ (x3_1 : Int) (x8_1 : Int), v3 = .int .i64 x3_1 ∧ v8 = .int .i64 x8_1 ∧ Aside0 (fixed_Root.l0 kq a0 x3_1 x8_1 = some r) ∧ Aside0 (kq ≤ k) ∧ Drawn0 w w')
    case atStart => exact ⟨(0), (0), (by first | rfl | (simp; done) | (simp [*]; done)), (by first | rfl | (simp; done) | (simp [*]; done)), H', ⟨Nat.le_refl _⟩, by repeat (first | exact Drawn0.refl _ | apply Drawn0.step)⟩
    case round =>
      clear H'
      try clear c1
      try clear c2
      try clear c2b0
      try clear p2
      obtain ⟨x3_1, x8_1, rfl, rfl, HA, HK1, ⟨m1, rfl⟩⟩ := hrel
      cases gk with
      | zero => exact absurd HA.out (by simp [fixed_Root.l0])
      | succ k1 =>
        have H := HA.out
        clear HA
        simp only [fixed_Root.l0] at H
        by_cases c3 : x8_1 < 32
        · rw [if_pos c3] at H
          have c3b0 : decide (x8_1 < 32) = true := decide_eq_true c3
          clear c3
          obtain ⟨ji4, hji4⟩ : ∃ j_ : Int, (wrap64 (31 - x8_1)) = j_ := ⟨_, rfl⟩
          replace H : (if 0 ≤ (ji4) then (if (wrap64 (x3_1 + (shl .i64 1 (ji4)))) = 0 then (none) else (if (wrap64 (x3_1 + (shl .i64 1 (ji4)))) ≤ (wrap64 (Int.tdiv a0 (wrap64 (x3_1 + (shl .i64 1 (ji4)))))) then (fixed_Root.l0 k1 a0 (wrap64 (x3_1 + (shl .i64 1 (ji4)))) (wrap64 (x8_1 + 1))) else (fixed_Root.l0 k1 a0 x3_1 (wrap64 (x8_1 + 1))))) else (none)) = some r := by first | (rw [hji4] at H; exact H) | (simp only [hji4] at H ⊢; exact H)
          have hji4w : (IntKind.i64.wrap (31 - x8_1)) = ji4 := (i64_w _).trans hji4
          by_cases c5 : 0 ≤ (ji4)
          · rw [if_pos c5] at H
            have c5b0 := eq_true c5
            have c5b1 : decide (0 ≤ (ji4)) = true := decide_eq_true c5
            clear c5
            obtain ⟨ji6, hji6⟩ : ∃ j_ : Int, (shl .i64 1 (ji4)) = j_ := ⟨_, rfl⟩
            replace H : (if (wrap64 (x3_1 + (ji6))) = 0 then (none) else (if (wrap64 (x3_1 + (ji6))) ≤ (wrap64 (Int.tdiv a0 (wrap64 (x3_1 + (ji6))))) then (fixed_Root.l0 k1 a0 (wrap64 (x3_1 + (ji6))) (wrap64 (x8_1 + 1))) else (fixed_Root.l0 k1 a0 x3_1 (wrap64 (x8_1 + 1))))) = some r := by first | (rw [hji6] at H; exact H) | (simp only [hji6] at H ⊢; exact H)
            have hji6_ : (IntKind.i64.wrap (1 * 2 ^ min (ji4).toNat 64)) = ji6 := hji6
            have hji6z : (ji4) ≤ 64 → (IntKind.i64.wrap (1 * 2 ^ (ji4).toNat)) = ji6 := shl_small hji6
            have hji6u : (IntKind.i64.wrap (2 ^ min (ji4).toNat 64)) = ji6 := by have h_ := hji6_; rw [Int.one_mul] at h_; exact h_
            have hji6v : (ji4) ≤ 64 → (IntKind.i64.wrap (2 ^ (ji4).toNat)) = ji6 := fun hle_ => by have h_ := hji6z hle_; rw [Int.one_mul] at h_; exact h_
            have hji6y : (wrap64 (1 * 2 ^ min (ji4).toNat 64)) = ji6 := (i64_w _).symm.trans hji6_
            have hji6x : (ji4) ≤ 64 → (wrap64 (1 * 2 ^ (ji4).toNat)) = ji6 := fun h_ => (i64_w _).symm.trans (hji6z h_)
            by_cases c7 : (wrap64 (x3_1 + (ji6))) = 0
            · rw [if_pos c7] at H
              exact absurd H (by simp)
            · rw [if_neg c7] at H
              have c7b0 : ((wrap64 (x3_1 + (ji6))) == 0) = false := beq_eq_false_iff_ne.mpr c7
              have c7b1 : ((wrap64 (x3_1 + (ji6))) != 0) = true := bne_iff_ne.mpr c7
              by_cases c8 : (wrap64 (x3_1 + (ji6))) ≤ (wrap64 (Int.tdiv a0 (wrap64 (x3_1 + (ji6)))))
              · rw [if_pos c8] at H
                have c8b0 : decide ((wrap64 (x3_1 + (ji6))) ≤ (wrap64 (Int.tdiv a0 (wrap64 (x3_1 + (ji6)))))) = true := decide_eq_true c8
                clear c8
                have H' := Aside0.mk H
                clear H
                go_wp2
                go_roundg k1
                case measure => have := HK1.out; omega
                case rel => exact ⟨(wrap64 (x3_1 + (ji6))), (wrap64 (x8_1 + 1)), (by first | rfl | (simp; done) | (simp only [← hji6] <;> (first | rfl | simp)) | (simp [*]; done)), (by first | rfl | (simp; done) | (simp [*]; done)), H', ⟨by have := HK1.out; omega⟩, by repeat (first | exact Drawn0.refl _ | apply Drawn0.step)⟩
              · rw [if_neg c8] at H
                have c8b0 : decide ((wrap64 (x3_1 + (ji6))) ≤ (wrap64 (Int.tdiv a0 (wrap64 (x3_1 + (ji6)))))) = false := decide_eq_false c8
                clear c8
                have H' := Aside0.mk H
                clear H
                go_wp2
                go_roundg k1
                case measure => have := HK1.out; omega
                case rel => exact ⟨(x3_1), (wrap64 (x8_1 + 1)), (by first | rfl | (simp; done) | (simp [*]; done)), (by first | rfl | (simp; done) | (simp [*]; done)), H', ⟨by have := HK1.out; omega⟩, by repeat (first | exact Drawn0.refl _ | apply Drawn0.step)⟩
          · rw [if_neg c5] at H
            exact absurd H (by simp)
        · rw [if_neg c3] at H
          have c3b0 : decide (x8_1 < 32) = false := decide_eq_false c3
          clear c3
          obtain rfl := Option.some.inj H
          go_wp2
          go_ret
          exact ⟨by first | rfl | (simp; done) | (simp [*]; done), by repeat (first | exact Drawn0.refl _ | apply Drawn0.step)⟩

/-! ### fixed_RootUp: function 13 -/
def fixed_RootUp.f (k : Nat) (a0 : Int) : Option (Int) := (fixed_Root.f k a0).bind fun t101 => (if (wrap64 (t101 * t101)) < a0 then (some (wrap64 (t101 + 1))) else (some t101))
theorem fixed_RootUp.mono : ∀ a0 k, LeO (fixed_RootUp.f k a0) (fixed_RootUp.f (k + 1) a0) := by
  intro a0 k
  unfold fixed_RootUp.f
  repeat' first
      | (with_reducible exact fixed_Root.mono _ _)
      | (with_reducible exact LeO.refl _)
      | (with_reducible exact LeO.none _)
      | (with_reducible refine LeO.ite ?_ ?_)
      | (with_reducible refine LeO.bind ?_ (fun _ => ?_))
      | exact fixed_Root.mono _ _
      | exact LeO.none _
      | refine LeO.ite ?_ ?_
      | refine LeO.bind ?_ (fun _ => ?_)
set_option maxHeartbeats 8000000 in
set_option maxRecDepth 100000 in
theorem fixed_RootUp.calls (k : Nat) (a0 : Int) (r : Int) (w : World) (h : fixed_RootUp.f k a0 = some r) :
    Calls Try.prog 13 #[.int .i64 a0] w fun e w' => e = .returned (.int .i64 r) ∧ Drawn0 w w' := by
  have H : ((fixed_Root.f k a0).bind fun t101 => (if (wrap64 (t101 * t101)) < a0 then (some (wrap64 (t101 + 1))) else (some t101))) = some r := h
  clear h
  replace H := Option.bind_eq_some_iff.mp H
  obtain ⟨t101, A20, H⟩ := H
  replace H : (if (wrap64 (t101 * t101)) < a0 then (some (wrap64 (t101 + 1))) else (some t101)) = some r := H
  have A2 := Aside0.mk A20
  clear A20
  by_cases c3 : (wrap64 (t101 * t101)) < a0
  · rw [if_pos c3] at H
    have c3b0 : decide ((wrap64 (t101 * t101)) < a0) = true := decide_eq_true c3
    clear c3
    obtain rfl := Option.some.inj H
    go_enter Try.func13, Try.ntmps13
    go_wp2_with (first | ((with_reducible refine gate_callee (f := 12) rfl ?_); refine goesL_ (some 5) rfl rfl Try.func12 (by kernel_rfl) rfl #[.int .i64 a0] rfl (by (try simp only [List.map_toArray, List.map_cons, List.map_nil]); first | done | rfl | (simp only [List.length_drop, List.length_take]; rfl)) ?_; (with_reducible refine (fixed_Root.calls k a0 t101 _ A2.out).mono ?_); rintro e w' ⟨rfl, ⟨nd, rfl⟩⟩; refine ⟨_, rfl, ?_⟩))
    go_ret
    exact ⟨by first | rfl | (simp; done) | (simp [*]; done), by repeat (first | exact Drawn0.refl _ | apply Drawn0.step)⟩
  · rw [if_neg c3] at H
    have c3b0 : decide ((wrap64 (t101 * t101)) < a0) = false := decide_eq_false c3
    clear c3
    obtain rfl := Option.some.inj H
    go_enter Try.func13, Try.ntmps13
    go_wp2_with (first | ((with_reducible refine gate_callee (f := 12) rfl ?_); refine goesL_ (some 5) rfl rfl Try.func12 (by kernel_rfl) rfl #[.int .i64 a0] rfl (by (try simp only [List.map_toArray, List.map_cons, List.map_nil]); first | done | rfl | (simp only [List.length_drop, List.length_take]; rfl)) ?_; (with_reducible refine (fixed_Root.calls k a0 t101 _ A2.out).mono ?_); rintro e w' ⟨rfl, ⟨nd, rfl⟩⟩; refine ⟨_, rfl, ?_⟩))
    go_ret
    exact ⟨by first | rfl | (simp; done) | (simp [*]; done), by repeat (first | exact Drawn0.refl _ | apply Drawn0.step)⟩

/-! ### fixed_ShiftDown: function 15 -/
def fixed_ShiftDown.f (a0 : Int) (a1 : Int) : Option (Int) := if a1 < 0 then (some a0) else (if 0 ≤ a1 then (some (shr .i64 a0 a1)) else (none))
set_option maxHeartbeats 8000000 in
set_option maxRecDepth 100000 in
theorem fixed_ShiftDown.calls (a0 : Int) (a1 : Int) (r : Int) (w : World) (h : fixed_ShiftDown.f a0 a1 = some r) :
    Calls Try.prog 15 #[.int .i64 a0, .int .i64 a1] w fun e w' => e = .returned (.int .i64 r) ∧ Drawn0 w w' := by
  have H : (if a1 < 0 then (some a0) else (if 0 ≤ a1 then (some (shr .i64 a0 a1)) else (none))) = some r := h
  clear h
  by_cases c3 : a1 < 0
  · rw [if_pos c3] at H
    have c3b0 : decide (a1 < 0) = true := decide_eq_true c3
    clear c3
    obtain rfl := Option.some.inj H
    go_enter Try.func15, Try.ntmps15
    go_wp2
    go_ret
    exact ⟨by first | rfl | (simp; done) | (simp [*]; done), by repeat (first | exact Drawn0.refl _ | apply Drawn0.step)⟩
  · rw [if_neg c3] at H
    have c3b0 : decide (a1 < 0) = false := decide_eq_false c3
    clear c3
    by_cases c4 : 0 ≤ a1
    · rw [if_pos c4] at H
      have c4b0 := eq_true c4
      have c4b1 : decide (0 ≤ a1) = true := decide_eq_true c4
      clear c4
      obtain ⟨ji5, hji5⟩ : ∃ j_ : Int, (shr .i64 a0 a1) = j_ := ⟨_, rfl⟩
      replace H : (some ji5) = some r := by first | (rw [hji5] at H; exact H) | (simp only [hji5] at H ⊢; exact H)
      have hji5_ : (a0 / 2 ^ min a1.toNat 64) = ji5 := hji5
      have hji5z : a1 ≤ 64 → (a0 / 2 ^ a1.toNat) = ji5 := shr_small hji5
      obtain rfl := Option.some.inj H
      go_enter Try.func15, Try.ntmps15
      go_wp2
      go_ret
      exact ⟨by first | rfl | (simp; done) | (simp only [← hji5] <;> (first | rfl | simp)) | (simp [*]; done), by repeat (first | exact Drawn0.refl _ | apply Drawn0.step)⟩
    · rw [if_neg c4] at H
      exact absurd H (by simp)

/-! ### fixed_Clamp: function 19 -/
def fixed_Clamp.f (a0 : Int) : Option (Int) := some (mn (mx a0 (-2147483648)) 2147483648)
set_option maxHeartbeats 8000000 in
set_option maxRecDepth 100000 in
theorem fixed_Clamp.calls (a0 : Int) (r : Int) (w : World) (h : fixed_Clamp.f a0 = some r) :
    Calls Try.prog 19 #[.int .i64 a0] w fun e w' => e = .returned (.int .i64 r) ∧ Below w.heap.size w w' := by
  have HB := Aside0.mk (Below.refl w.heap.size w)
  have H : (some (mn (mx a0 (-2147483648)) 2147483648)) = some r := h
  clear h
  obtain ⟨ji2, hji2⟩ : ∃ j_ : Int, (mx a0 (-2147483648)) = j_ := ⟨_, rfl⟩
  replace H : (some (mn (ji2) 2147483648)) = some r := by first | (rw [hji2] at H; exact H) | (simp only [hji2] at H ⊢; exact H)
  have hji2_ : (if a0 < (-2147483648) then (-2147483648) else a0) = ji2 := hji2
  obtain ⟨ji3, hji3⟩ : ∃ j_ : Int, (mn (ji2) 2147483648) = j_ := ⟨_, rfl⟩
  replace H : (some ji3) = some r := by first | (rw [hji3] at H; exact H) | (simp only [hji3] at H ⊢; exact H)
  have hji3_ : (if 2147483648 < (ji2) then 2147483648 else (ji2)) = ji3 := hji3
  obtain rfl := Option.some.inj H
  go_enter Try.func19, Try.ntmps19
  go_wp2
  go_ret
  exact ⟨by first | rfl | (simp [errW_none, errW_some] <;> rfl) | (simp only [← hji2, ← hji3]; first | rfl | (simp [errW_none, errW_some] <;> rfl)) | (simp [*, errW_none, errW_some] <;> rfl), by repeat (first | (with_reducible first | exact HB.out | apply below_alloc | apply pw_below_drewN | apply below_drew1) | exact HB.out)⟩

/-! ### fixed_product: function 36 -/
def fixed_product.f (a0 : Int) (a1 : Int) : Option (Int) := (fixed_Clamp.f a0).bind fun t102 => ((fixed_Clamp.f a1).bind fun t103 => (some (wrap64 (t102 * t103))))
set_option maxHeartbeats 8000000 in
set_option maxRecDepth 100000 in
theorem fixed_product.calls (a0 : Int) (a1 : Int) (r : Int) (w : World) (h : fixed_product.f a0 a1 = some r) :
    Calls Try.prog 36 #[.int .i64 a0, .int .i64 a1] w fun e w' => e = .returned (.int .i64 r) ∧ Below w.heap.size w w' := by
  have HB := Aside0.mk (Below.refl w.heap.size w)
  have H : ((fixed_Clamp.f a0).bind fun t102 => ((fixed_Clamp.f a1).bind fun t103 => (some (wrap64 (t102 * t103))))) = some r := h
  clear h
  replace H := Option.bind_eq_some_iff.mp H
  obtain ⟨t102, A30, H⟩ := H
  replace H : ((fixed_Clamp.f a1).bind fun t103 => (some (wrap64 (t102 * t103)))) = some r := H
  have A3 := Aside0.mk A30
  clear A30
  replace H := Option.bind_eq_some_iff.mp H
  obtain ⟨t103, A40, H⟩ := H
  replace H : (some (wrap64 (t102 * t103))) = some r := H
  have A4 := Aside0.mk A40
  clear A40
  obtain rfl := Option.some.inj H
  go_enter Try.func36, Try.ntmps36
  go_wp2_with (first | ((with_reducible refine gate_callee (f := 19) rfl ?_); refine goesL_ (some 6) rfl rfl Try.func19 (by kernel_rfl) rfl #[.int .i64 a0] rfl (by (try simp only [List.map_toArray, List.map_cons, List.map_nil]); first | done | rfl | (simp only [List.length_drop, List.length_take]; rfl)) ?_; (with_reducible refine (fixed_Clamp.calls a0 t102 _ A3.out).mono ?_); rintro e w5 ⟨rfl, hb⟩; refine ⟨_, rfl, ?_⟩; have n0_ := Aside0.mk (below_step (by repeat (first | (with_reducible first | exact HB.out | apply below_alloc | apply pw_below_drewN | apply below_drew1) | exact HB.out)) hb); clear HB; have HB := n0_; clear n0_; (try clear hb); (try clear hb2); (try clear hk); (try clear hi)) | ((with_reducible refine gate_callee (f := 19) rfl ?_); refine goesL_ (some 8) rfl rfl Try.func19 (by kernel_rfl) rfl #[.int .i64 a1] rfl (by (try simp only [List.map_toArray, List.map_cons, List.map_nil]); first | done | rfl | (simp only [List.length_drop, List.length_take]; rfl)) ?_; (with_reducible refine (fixed_Clamp.calls a1 t103 _ A4.out).mono ?_); rintro e w6 ⟨rfl, hb⟩; refine ⟨_, rfl, ?_⟩; have n0_ := Aside0.mk (below_step (by repeat (first | (with_reducible first | exact HB.out | apply below_alloc | apply pw_below_drewN | apply below_drew1) | exact HB.out)) hb); clear HB; have HB := n0_; clear n0_; (try clear hb); (try clear hb2); (try clear hk); (try clear hi)))
  go_ret
  exact ⟨by first | rfl | (simp [errW_none, errW_some] <;> rfl) | (simp [*, errW_none, errW_some] <;> rfl), by repeat (first | (with_reducible first | exact HB.out | apply below_alloc | apply pw_below_drewN | apply below_drew1) | exact HB.out)⟩

/-! ### fixed_MulDown: function 21 -/
def fixed_MulDown.f (a0 : Int) (a1 : Int) : Option (Int) := (fixed_product.f a0 a1).bind fun t104 => ((fixed_ShiftDown.f t104 16).bind fun t105 => (some t105))
set_option maxHeartbeats 8000000 in
set_option maxRecDepth 100000 in
theorem fixed_MulDown.calls (a0 : Int) (a1 : Int) (r : Int) (w : World) (h : fixed_MulDown.f a0 a1 = some r) :
    Calls Try.prog 21 #[.int .i64 a0, .int .i64 a1] w fun e w' => e = .returned (.int .i64 r) ∧ Below w.heap.size w w' := by
  have HB := Aside0.mk (Below.refl w.heap.size w)
  have H : ((fixed_product.f a0 a1).bind fun t104 => ((fixed_ShiftDown.f t104 16).bind fun t105 => (some t105))) = some r := h
  clear h
  replace H := Option.bind_eq_some_iff.mp H
  obtain ⟨t104, A30, H⟩ := H
  replace H : ((fixed_ShiftDown.f t104 16).bind fun t105 => (some t105)) = some r := H
  have A3 := Aside0.mk A30
  clear A30
  replace H := Option.bind_eq_some_iff.mp H
  obtain ⟨t105, A40, H⟩ := H
  replace H : (some t105) = some r := H
  have A4 := Aside0.mk A40
  clear A40
  obtain rfl := Option.some.inj H
  go_enter Try.func21, Try.ntmps21
  go_wp2_with (first | ((with_reducible refine gate_callee (f := 36) rfl ?_); refine goesL_ (some 7) rfl rfl Try.func36 (by kernel_rfl) rfl #[.int .i64 a0, .int .i64 a1] rfl (by (try simp only [List.map_toArray, List.map_cons, List.map_nil]); first | done | rfl | (simp only [List.length_drop, List.length_take]; rfl)) ?_; (with_reducible refine (fixed_product.calls a0 a1 t104 _ A3.out).mono ?_); rintro e w5 ⟨rfl, hb⟩; refine ⟨_, rfl, ?_⟩; have n0_ := Aside0.mk (below_step (by repeat (first | (with_reducible first | exact HB.out | apply below_alloc | apply pw_below_drewN | apply below_drew1) | exact HB.out)) hb); clear HB; have HB := n0_; clear n0_; (try clear hb); (try clear hb2); (try clear hk); (try clear hi)) | ((with_reducible refine gate_callee (f := 15) rfl ?_); refine goesL_ (some 8) rfl rfl Try.func15 (by kernel_rfl) rfl #[.int .i64 t104, .int .i64 16] rfl (by (try simp only [List.map_toArray, List.map_cons, List.map_nil]); first | done | rfl | (simp only [List.length_drop, List.length_take]; rfl)) ?_; (with_reducible refine (fixed_ShiftDown.calls t104 16 t105 _ A4.out).mono ?_); rintro e w' ⟨rfl, ⟨nd, rfl⟩⟩; refine ⟨_, rfl, ?_⟩))
  go_ret
  exact ⟨by first | rfl | (simp [errW_none, errW_some] <;> rfl) | (simp [*, errW_none, errW_some] <;> rfl), by repeat (first | (with_reducible first | exact HB.out | apply below_alloc | apply pw_below_drewN | apply below_drew1) | exact HB.out)⟩

/-! ### armplanlaw1_awake: function 14 -/
def armplanlaw1_awake.f (k : Nat)  : Option (Bool) := (fixed_MulDown.f 98304 32768).bind fun t106 => (if t106 = 49152 then ((fixed_Root.f k 15).bind fun t107 => (some (t107 == 3))) else (some false))
theorem armplanlaw1_awake.mono : ∀ k, LeO (armplanlaw1_awake.f k ) (armplanlaw1_awake.f (k + 1) ) := by
  intro  k
  unfold armplanlaw1_awake.f
  repeat' first
      | (with_reducible exact fixed_Root.mono _ _)
      | (with_reducible exact LeO.refl _)
      | (with_reducible exact LeO.none _)
      | (with_reducible refine LeO.ite ?_ ?_)
      | (with_reducible refine LeO.bind ?_ (fun _ => ?_))
      | exact fixed_Root.mono _ _
      | exact LeO.none _
      | refine LeO.ite ?_ ?_
      | refine LeO.bind ?_ (fun _ => ?_)
set_option maxHeartbeats 8000000 in
set_option maxRecDepth 100000 in
theorem armplanlaw1_awake.calls (k : Nat)  (r : Bool) (w : World) (h : armplanlaw1_awake.f k  = some r) :
    Calls Try.prog 14 #[] w fun e w' => e = .returned (.bool r) ∧ Below w.heap.size w w' := by
  have HB := Aside0.mk (Below.refl w.heap.size w)
  have H : ((fixed_MulDown.f 98304 32768).bind fun t106 => (if t106 = 49152 then ((fixed_Root.f k 15).bind fun t107 => (some (t107 == 3))) else (some false))) = some r := h
  clear h
  replace H := Option.bind_eq_some_iff.mp H
  obtain ⟨t106, A10, H⟩ := H
  replace H : (if t106 = 49152 then ((fixed_Root.f k 15).bind fun t107 => (some (t107 == 3))) else (some false)) = some r := H
  have A1 := Aside0.mk A10
  clear A10
  by_cases c2 : t106 = 49152
  · rw [if_pos c2] at H
    have c2b0 : (t106 == 49152) = true := beq_iff_eq.mpr c2
    have c2b1 : (t106 != 49152) = false := bne_eq_false_iff_eq.mpr c2
    clear c2
    replace H := Option.bind_eq_some_iff.mp H
    obtain ⟨t107, A30, H⟩ := H
    replace H : (some (t107 == 3)) = some r := H
    have A3 := Aside0.mk A30
    clear A30
    obtain rfl := Option.some.inj H
    go_enter Try.func14, Try.ntmps14
    go_wp2_with (first | ((with_reducible refine gate_callee (f := 21) rfl ?_); refine goesL_ (some 1) rfl rfl Try.func21 (by kernel_rfl) rfl #[.int .i64 98304, .int .i64 32768] rfl (by (try simp only [List.map_toArray, List.map_cons, List.map_nil]); first | done | rfl | (simp only [List.length_drop, List.length_take]; rfl)) ?_; (with_reducible refine (fixed_MulDown.calls 98304 32768 t106 _ A1.out).mono ?_); rintro e w4 ⟨rfl, hb⟩; refine ⟨_, rfl, ?_⟩; have n0_ := Aside0.mk (below_step (by repeat (first | (with_reducible first | exact HB.out | apply below_alloc | apply pw_below_drewN | apply below_drew1) | exact HB.out)) hb); clear HB; have HB := n0_; clear n0_; (try clear hb); (try clear hb2); (try clear hk); (try clear hi)) | (go_at_call 12; (with_reducible refine (fixed_Root.calls k 15 t107 _ A3.out).mono ?_); rintro e w' ⟨rfl, ⟨nd, rfl⟩⟩))
    go_ret
    exact ⟨by first | rfl | (simp [errW_none, errW_some] <;> rfl) | (simp [*, errW_none, errW_some] <;> rfl), by repeat (first | (with_reducible first | exact HB.out | apply below_alloc | apply pw_below_drewN | apply below_drew1) | exact HB.out)⟩
  · rw [if_neg c2] at H
    have c2b0 : (t106 == 49152) = false := beq_eq_false_iff_ne.mpr c2
    have c2b1 : (t106 != 49152) = true := bne_iff_ne.mpr c2
    obtain rfl := Option.some.inj H
    go_enter Try.func14, Try.ntmps14
    go_wp2_with (first | ((with_reducible refine gate_callee (f := 21) rfl ?_); refine goesL_ (some 1) rfl rfl Try.func21 (by kernel_rfl) rfl #[.int .i64 98304, .int .i64 32768] rfl (by (try simp only [List.map_toArray, List.map_cons, List.map_nil]); first | done | rfl | (simp only [List.length_drop, List.length_take]; rfl)) ?_; (with_reducible refine (fixed_MulDown.calls 98304 32768 t106 _ A1.out).mono ?_); rintro e w5 ⟨rfl, hb⟩; refine ⟨_, rfl, ?_⟩; have n0_ := Aside0.mk (below_step (by repeat (first | (with_reducible first | exact HB.out | apply below_alloc | apply pw_below_drewN | apply below_drew1) | exact HB.out)) hb); clear HB; have HB := n0_; clear n0_; (try clear hb); (try clear hb2); (try clear hk); (try clear hi)))
    go_ret
    exact ⟨by first | rfl | (simp [errW_none, errW_some] <;> rfl) | (simp [*, errW_none, errW_some] <;> rfl), by repeat (first | (with_reducible first | exact HB.out | apply below_alloc | apply pw_below_drewN | apply below_drew1) | exact HB.out)⟩

/-! ### armplanlaw1_FixedSquares: function 3 -/
def armplanlaw1_FixedSquares.j0 : Nat → Int → Int → Int → Bool → Option (Bool)
  | 0, _, _, _, _ => none
  | k + 1, x0, x5, x6, x43 => if x43 = true then (some false) else (if (wrap64 (x5 * x5)) = x0 then ((armplanlaw1_awake.f k).bind fun t111 => (if t111 = true then (some (x6 == x5)) else (some false))) else ((armplanlaw1_awake.f k).bind fun t112 => (if t112 = true then (some (x6 == (wrap64 (x5 + 1)))) else (some false))))
def armplanlaw1_FixedSquares.f (k : Nat) (a0 : Int) (a1 : Int) : Option (Bool) := if 0 ≤ (Int.tmod a1 64) then ((fixed_Root.f k (shr .i64 a0 (Int.tmod a1 64))).bind fun t108 => ((fixed_RootUp.f k (shr .i64 a0 (Int.tmod a1 64))).bind fun t109 => (if (shr .i64 a0 (Int.tmod a1 64)) < 1 then ((armplanlaw1_awake.f k).bind fun t110 => (if t110 = true then (if t108 = 0 then (some (t109 == 0)) else (some false)) else (some false))) else (if t108 < 1 then (armplanlaw1_FixedSquares.j0 k (shr .i64 a0 (Int.tmod a1 64)) t108 t109 true) else (if t108 = 0 then (none) else (if t108 > (wrap64 (Int.tdiv (shr .i64 a0 (Int.tmod a1 64)) t108)) then (armplanlaw1_FixedSquares.j0 k (shr .i64 a0 (Int.tmod a1 64)) t108 t109 true) else (if (wrap64 (t108 + 1)) = 0 then (none) else (armplanlaw1_FixedSquares.j0 k (shr .i64 a0 (Int.tmod a1 64)) t108 t109 (decide ((wrap64 (t108 + 1)) ≤ (wrap64 (Int.tdiv (shr .i64 a0 (Int.tmod a1 64)) (wrap64 (t108 + 1)))))))))))))) else (none)
theorem armplanlaw1_FixedSquares.mono_l : ∀ k, (∀ y0 y1 y2 y3, LeO (armplanlaw1_FixedSquares.j0 k y0 y1 y2 y3) (armplanlaw1_FixedSquares.j0 (k + 1) y0 y1 y2 y3))
  | 0 => fun _ _ _ _ r h => by simp [armplanlaw1_FixedSquares.j0] at h
  | k + 1 => by
    have ih0 := armplanlaw1_FixedSquares.mono_l k
    · intro y0 y1 y2 y3
      unfold armplanlaw1_FixedSquares.j0
      repeat' first
      | (with_reducible exact ih0 _ _ _ _)
      | (with_reducible exact armplanlaw1_awake.mono _)
      | (with_reducible exact fixed_Root.mono _ _)
      | (with_reducible exact fixed_RootUp.mono _ _)
      | (with_reducible exact LeO.refl _)
      | (with_reducible exact LeO.none _)
      | (with_reducible refine LeO.ite ?_ ?_)
      | (with_reducible refine LeO.bind ?_ (fun _ => ?_))
      | exact ih0 _ _ _ _
      | exact armplanlaw1_awake.mono _
      | exact fixed_Root.mono _ _
      | exact fixed_RootUp.mono _ _
      | exact LeO.none _
      | refine LeO.ite ?_ ?_
      | refine LeO.bind ?_ (fun _ => ?_)
theorem armplanlaw1_FixedSquares.mono : ∀ a0 a1 k, LeO (armplanlaw1_FixedSquares.f k a0 a1) (armplanlaw1_FixedSquares.f (k + 1) a0 a1) := by
  intro a0 a1 k
  have ih0 := armplanlaw1_FixedSquares.mono_l k
  unfold armplanlaw1_FixedSquares.f
  repeat' first
      | (with_reducible exact ih0 _ _ _ _)
      | (with_reducible exact armplanlaw1_awake.mono _)
      | (with_reducible exact fixed_Root.mono _ _)
      | (with_reducible exact fixed_RootUp.mono _ _)
      | (with_reducible exact LeO.refl _)
      | (with_reducible exact LeO.none _)
      | (with_reducible refine LeO.ite ?_ ?_)
      | (with_reducible refine LeO.bind ?_ (fun _ => ?_))
      | exact ih0 _ _ _ _
      | exact armplanlaw1_awake.mono _
      | exact fixed_Root.mono _ _
      | exact fixed_RootUp.mono _ _
      | exact LeO.none _
      | refine LeO.ite ?_ ?_
      | refine LeO.bind ?_ (fun _ => ?_)
set_option maxHeartbeats 8000000 in
set_option maxRecDepth 100000 in
theorem armplanlaw1_FixedSquares.calls (k : Nat) (a0 : Int) (a1 : Int) (r : Bool) (w : World) (h : armplanlaw1_FixedSquares.f k a0 a1 = some r) :
    Calls Try.prog 3 #[.int .i64 a0, .int .u8 a1] w fun e w' => e = .returned (.bool r) ∧ Below w.heap.size w w' := by
  have HB := Aside0.mk (Below.refl w.heap.size w)
  have H : (if 0 ≤ (Int.tmod a1 64) then ((fixed_Root.f k (shr .i64 a0 (Int.tmod a1 64))).bind fun t108 => ((fixed_RootUp.f k (shr .i64 a0 (Int.tmod a1 64))).bind fun t109 => (if (shr .i64 a0 (Int.tmod a1 64)) < 1 then ((armplanlaw1_awake.f k).bind fun t110 => (if t110 = true then (if t108 = 0 then (some (t109 == 0)) else (some false)) else (some false))) else (if t108 < 1 then (armplanlaw1_FixedSquares.j0 k (shr .i64 a0 (Int.tmod a1 64)) t108 t109 true) else (if t108 = 0 then (none) else (if t108 > (wrap64 (Int.tdiv (shr .i64 a0 (Int.tmod a1 64)) t108)) then (armplanlaw1_FixedSquares.j0 k (shr .i64 a0 (Int.tmod a1 64)) t108 t109 true) else (if (wrap64 (t108 + 1)) = 0 then (none) else (armplanlaw1_FixedSquares.j0 k (shr .i64 a0 (Int.tmod a1 64)) t108 t109 (decide ((wrap64 (t108 + 1)) ≤ (wrap64 (Int.tdiv (shr .i64 a0 (Int.tmod a1 64)) (wrap64 (t108 + 1)))))))))))))) else (none)) = some r := h
  clear h
  obtain ⟨ji3, hji3⟩ : ∃ j_ : Int, (Int.tmod a1 64) = j_ := ⟨_, rfl⟩
  replace H : (if 0 ≤ (ji3) then ((fixed_Root.f k (shr .i64 a0 (ji3))).bind fun t108 => ((fixed_RootUp.f k (shr .i64 a0 (ji3))).bind fun t109 => (if (shr .i64 a0 (ji3)) < 1 then ((armplanlaw1_awake.f k).bind fun t110 => (if t110 = true then (if t108 = 0 then (some (t109 == 0)) else (some false)) else (some false))) else (if t108 < 1 then (armplanlaw1_FixedSquares.j0 k (shr .i64 a0 (ji3)) t108 t109 true) else (if t108 = 0 then (none) else (if t108 > (wrap64 (Int.tdiv (shr .i64 a0 (ji3)) t108)) then (armplanlaw1_FixedSquares.j0 k (shr .i64 a0 (ji3)) t108 t109 true) else (if (wrap64 (t108 + 1)) = 0 then (none) else (armplanlaw1_FixedSquares.j0 k (shr .i64 a0 (ji3)) t108 t109 (decide ((wrap64 (t108 + 1)) ≤ (wrap64 (Int.tdiv (shr .i64 a0 (ji3)) (wrap64 (t108 + 1)))))))))))))) else (none)) = some r := by first | (rw [hji3] at H; exact H) | (simp only [hji3] at H ⊢; exact H)
  by_cases c4 : 0 ≤ (ji3)
  · rw [if_pos c4] at H
    have c4b0 := eq_true c4
    have c4b1 : decide (0 ≤ (ji3)) = true := decide_eq_true c4
    clear c4
    obtain ⟨ji5, hji5⟩ : ∃ j_ : Int, (shr .i64 a0 (ji3)) = j_ := ⟨_, rfl⟩
    replace H : ((fixed_Root.f k (ji5)).bind fun t108 => ((fixed_RootUp.f k (ji5)).bind fun t109 => (if (ji5) < 1 then ((armplanlaw1_awake.f k).bind fun t110 => (if t110 = true then (if t108 = 0 then (some (t109 == 0)) else (some false)) else (some false))) else (if t108 < 1 then (armplanlaw1_FixedSquares.j0 k ji5 t108 t109 true) else (if t108 = 0 then (none) else (if t108 > (wrap64 (Int.tdiv (ji5) t108)) then (armplanlaw1_FixedSquares.j0 k ji5 t108 t109 true) else (if (wrap64 (t108 + 1)) = 0 then (none) else (armplanlaw1_FixedSquares.j0 k ji5 t108 t109 (decide ((wrap64 (t108 + 1)) ≤ (wrap64 (Int.tdiv (ji5) (wrap64 (t108 + 1)))))))))))))) = some r := by first | (rw [hji5] at H; exact H) | (simp only [hji5] at H ⊢; exact H)
    have hji5_ : (a0 / 2 ^ min (ji3).toNat 64) = ji5 := hji5
    have hji5z : (ji3) ≤ 64 → (a0 / 2 ^ (ji3).toNat) = ji5 := shr_small hji5
    replace H := Option.bind_eq_some_iff.mp H
    obtain ⟨t108, A60, H⟩ := H
    replace H : ((fixed_RootUp.f k (ji5)).bind fun t109 => (if (ji5) < 1 then ((armplanlaw1_awake.f k).bind fun t110 => (if t110 = true then (if t108 = 0 then (some (t109 == 0)) else (some false)) else (some false))) else (if t108 < 1 then (armplanlaw1_FixedSquares.j0 k ji5 t108 t109 true) else (if t108 = 0 then (none) else (if t108 > (wrap64 (Int.tdiv (ji5) t108)) then (armplanlaw1_FixedSquares.j0 k ji5 t108 t109 true) else (if (wrap64 (t108 + 1)) = 0 then (none) else (armplanlaw1_FixedSquares.j0 k ji5 t108 t109 (decide ((wrap64 (t108 + 1)) ≤ (wrap64 (Int.tdiv (ji5) (wrap64 (t108 + 1))))))))))))) = some r := H
    have A6 := Aside0.mk A60
    clear A60
    replace H := Option.bind_eq_some_iff.mp H
    obtain ⟨t109, A70, H⟩ := H
    replace H : (if (ji5) < 1 then ((armplanlaw1_awake.f k).bind fun t110 => (if t110 = true then (if t108 = 0 then (some (t109 == 0)) else (some false)) else (some false))) else (if t108 < 1 then (armplanlaw1_FixedSquares.j0 k ji5 t108 t109 true) else (if t108 = 0 then (none) else (if t108 > (wrap64 (Int.tdiv (ji5) t108)) then (armplanlaw1_FixedSquares.j0 k ji5 t108 t109 true) else (if (wrap64 (t108 + 1)) = 0 then (none) else (armplanlaw1_FixedSquares.j0 k ji5 t108 t109 (decide ((wrap64 (t108 + 1)) ≤ (wrap64 (Int.tdiv (ji5) (wrap64 (t108 + 1)))))))))))) = some r := H
    have A7 := Aside0.mk A70
    clear A70
    by_cases c8 : (ji5) < 1
    · rw [if_pos c8] at H
      have c8b0 : decide ((ji5) < 1) = true := decide_eq_true c8
      clear c8
      replace H := Option.bind_eq_some_iff.mp H
      obtain ⟨t110, A90, H⟩ := H
      replace H : (if t110 = true then (if t108 = 0 then (some (t109 == 0)) else (some false)) else (some false)) = some r := H
      have A9 := Aside0.mk A90
      clear A90
      by_cases c10 : t110 = true
      · subst c10
        have H1 : (if t108 = 0 then (some (t109 == 0)) else (some false)) = some r := by rw [if_pos rfl] at H; exact H
        clear H
        have H := H1
        clear H1
        by_cases c11 : t108 = 0
        · rw [if_pos c11] at H
          have c11b0 : (t108 == 0) = true := beq_iff_eq.mpr c11
          have c11b1 : (t108 != 0) = false := bne_eq_false_iff_eq.mpr c11
          clear c11
          obtain rfl := Option.some.inj H
          go_enter Try.func3, Try.ntmps3
          go_wp2_with (first | ((with_reducible refine gate_callee (f := 12) rfl ?_); refine goesL_ (some 12) rfl rfl Try.func12 (by kernel_rfl) rfl #[.int .i64 ji5] rfl (by (try simp only [List.map_toArray, List.map_cons, List.map_nil]); first | done | (simp only [hji5]; rfl) | rfl | (simp only [List.length_drop, List.length_take]; rfl)) ?_; (with_reducible refine (fixed_Root.calls k ji5 t108 _ A6.out).mono ?_); rintro e w' ⟨rfl, ⟨nd, rfl⟩⟩; refine ⟨_, rfl, ?_⟩) | ((with_reducible refine gate_callee (f := 13) rfl ?_); refine goesL_ (some 14) rfl rfl Try.func13 (by kernel_rfl) rfl #[.int .i64 ji5] rfl (by (try simp only [List.map_toArray, List.map_cons, List.map_nil]); first | done | (simp only [hji5]; rfl) | rfl | (simp only [List.length_drop, List.length_take]; rfl)) ?_; (with_reducible refine (fixed_RootUp.calls k ji5 t109 _ A7.out).mono ?_); rintro e w' ⟨rfl, ⟨nd, rfl⟩⟩; refine ⟨_, rfl, ?_⟩) | ((with_reducible refine gate_callee (f := 14) rfl ?_); refine goesL_ (some 17) rfl rfl Try.func14 (by kernel_rfl) rfl #[] rfl (by (try simp only [List.map_toArray, List.map_cons, List.map_nil]); first | done | rfl | (simp only [List.length_drop, List.length_take]; rfl)) ?_; (with_reducible refine (armplanlaw1_awake.calls k  true _ A9.out).mono ?_); rintro e w12 ⟨rfl, hb⟩; refine ⟨_, rfl, ?_⟩; have n0_ := Aside0.mk (below_step (by repeat (first | (with_reducible first | exact HB.out | apply below_alloc | apply pw_below_drewN | apply below_drew1) | exact HB.out)) hb); clear HB; have HB := n0_; clear n0_; (try clear hb); (try clear hb2); (try clear hk); (try clear hi)))
          go_ret
          exact ⟨by first | rfl | (simp [errW_none, errW_some] <;> rfl) | (simp only [← hji3, ← hji5]; first | rfl | (simp [errW_none, errW_some] <;> rfl)) | (simp [*, errW_none, errW_some] <;> rfl), by repeat (first | (with_reducible first | exact HB.out | apply below_alloc | apply pw_below_drewN | apply below_drew1) | exact HB.out)⟩
        · rw [if_neg c11] at H
          have c11b0 : (t108 == 0) = false := beq_eq_false_iff_ne.mpr c11
          have c11b1 : (t108 != 0) = true := bne_iff_ne.mpr c11
          obtain rfl := Option.some.inj H
          go_enter Try.func3, Try.ntmps3
          go_wp2_with (first | ((with_reducible refine gate_callee (f := 12) rfl ?_); refine goesL_ (some 12) rfl rfl Try.func12 (by kernel_rfl) rfl #[.int .i64 ji5] rfl (by (try simp only [List.map_toArray, List.map_cons, List.map_nil]); first | done | (simp only [hji5]; rfl) | rfl | (simp only [List.length_drop, List.length_take]; rfl)) ?_; (with_reducible refine (fixed_Root.calls k ji5 t108 _ A6.out).mono ?_); rintro e w' ⟨rfl, ⟨nd, rfl⟩⟩; refine ⟨_, rfl, ?_⟩) | ((with_reducible refine gate_callee (f := 13) rfl ?_); refine goesL_ (some 14) rfl rfl Try.func13 (by kernel_rfl) rfl #[.int .i64 ji5] rfl (by (try simp only [List.map_toArray, List.map_cons, List.map_nil]); first | done | (simp only [hji5]; rfl) | rfl | (simp only [List.length_drop, List.length_take]; rfl)) ?_; (with_reducible refine (fixed_RootUp.calls k ji5 t109 _ A7.out).mono ?_); rintro e w' ⟨rfl, ⟨nd, rfl⟩⟩; refine ⟨_, rfl, ?_⟩) | ((with_reducible refine gate_callee (f := 14) rfl ?_); refine goesL_ (some 17) rfl rfl Try.func14 (by kernel_rfl) rfl #[] rfl (by (try simp only [List.map_toArray, List.map_cons, List.map_nil]); first | done | rfl | (simp only [List.length_drop, List.length_take]; rfl)) ?_; (with_reducible refine (armplanlaw1_awake.calls k  true _ A9.out).mono ?_); rintro e w13 ⟨rfl, hb⟩; refine ⟨_, rfl, ?_⟩; have n0_ := Aside0.mk (below_step (by repeat (first | (with_reducible first | exact HB.out | apply below_alloc | apply pw_below_drewN | apply below_drew1) | exact HB.out)) hb); clear HB; have HB := n0_; clear n0_; (try clear hb); (try clear hb2); (try clear hk); (try clear hi)))
          go_ret
          exact ⟨by first | rfl | (simp [errW_none, errW_some] <;> rfl) | (simp only [← hji3, ← hji5]; first | rfl | (simp [errW_none, errW_some] <;> rfl)) | (simp [*, errW_none, errW_some] <;> rfl), by repeat (first | (with_reducible first | exact HB.out | apply below_alloc | apply pw_below_drewN | apply below_drew1) | exact HB.out)⟩
      · replace c10 := Bool.eq_false_iff.mpr c10
        subst c10
        have H1 : (some false) = some r := by rw [if_neg (show ¬ (false = true) by decide)] at H; exact H
        clear H
        have H := H1
        clear H1
        obtain rfl := Option.some.inj H
        go_enter Try.func3, Try.ntmps3
        go_wp2_with (first | ((with_reducible refine gate_callee (f := 12) rfl ?_); refine goesL_ (some 12) rfl rfl Try.func12 (by kernel_rfl) rfl #[.int .i64 ji5] rfl (by (try simp only [List.map_toArray, List.map_cons, List.map_nil]); first | done | (simp only [hji5]; rfl) | rfl | (simp only [List.length_drop, List.length_take]; rfl)) ?_; (with_reducible refine (fixed_Root.calls k ji5 t108 _ A6.out).mono ?_); rintro e w' ⟨rfl, ⟨nd, rfl⟩⟩; refine ⟨_, rfl, ?_⟩) | ((with_reducible refine gate_callee (f := 13) rfl ?_); refine goesL_ (some 14) rfl rfl Try.func13 (by kernel_rfl) rfl #[.int .i64 ji5] rfl (by (try simp only [List.map_toArray, List.map_cons, List.map_nil]); first | done | (simp only [hji5]; rfl) | rfl | (simp only [List.length_drop, List.length_take]; rfl)) ?_; (with_reducible refine (fixed_RootUp.calls k ji5 t109 _ A7.out).mono ?_); rintro e w' ⟨rfl, ⟨nd, rfl⟩⟩; refine ⟨_, rfl, ?_⟩) | ((with_reducible refine gate_callee (f := 14) rfl ?_); refine goesL_ (some 17) rfl rfl Try.func14 (by kernel_rfl) rfl #[] rfl (by (try simp only [List.map_toArray, List.map_cons, List.map_nil]); first | done | rfl | (simp only [List.length_drop, List.length_take]; rfl)) ?_; (with_reducible refine (armplanlaw1_awake.calls k  false _ A9.out).mono ?_); rintro e w14 ⟨rfl, hb⟩; refine ⟨_, rfl, ?_⟩; have n0_ := Aside0.mk (below_step (by repeat (first | (with_reducible first | exact HB.out | apply below_alloc | apply pw_below_drewN | apply below_drew1) | exact HB.out)) hb); clear HB; have HB := n0_; clear n0_; (try clear hb); (try clear hb2); (try clear hk); (try clear hi)))
        go_ret
        exact ⟨by first | rfl | (simp [errW_none, errW_some] <;> rfl) | (simp only [← hji3, ← hji5]; first | rfl | (simp [errW_none, errW_some] <;> rfl)) | (simp [*, errW_none, errW_some] <;> rfl), by repeat (first | (with_reducible first | exact HB.out | apply below_alloc | apply pw_below_drewN | apply below_drew1) | exact HB.out)⟩
    · rw [if_neg c8] at H
      have c8b0 : decide ((ji5) < 1) = false := decide_eq_false c8
      clear c8
      have HC15 := Aside0.mk H
      clear H
      go_enter Try.func3, Try.ntmps3
      go_upto_region 5 with (first | ((with_reducible refine gate_callee (f := 12) rfl ?_); refine goesL_ (some 12) rfl rfl Try.func12 (by kernel_rfl) rfl #[.int .i64 ji5] rfl (by (try simp only [List.map_toArray, List.map_cons, List.map_nil]); first | done | (simp only [hji5]; rfl) | rfl | (simp only [List.length_drop, List.length_take]; rfl)) ?_; (with_reducible refine (fixed_Root.calls k ji5 t108 _ A6.out).mono ?_); rintro e w' ⟨rfl, ⟨nd, rfl⟩⟩; refine ⟨_, rfl, ?_⟩) | ((with_reducible refine gate_callee (f := 13) rfl ?_); refine goesL_ (some 14) rfl rfl Try.func13 (by kernel_rfl) rfl #[.int .i64 ji5] rfl (by (try simp only [List.map_toArray, List.map_cons, List.map_nil]); first | done | (simp only [hji5]; rfl) | rfl | (simp only [List.length_drop, List.length_take]; rfl)) ?_; (with_reducible refine (fixed_RootUp.calls k ji5 t109 _ A7.out).mono ?_); rintro e w' ⟨rfl, ⟨nd, rfl⟩⟩; refine ⟨_, rfl, ?_⟩))
      (try simp only [Act.put, List.setIfInBounds_toArray, List.set_cons_zero, List.set_cons_succ])
      go_cut [43] (fun v43 wc => ∃ (kq : Nat) (x43_14 : Bool), v43 = .bool x43_14 ∧ Aside0 (armplanlaw1_FixedSquares.j0 kq ji5 t108 t109 x43_14 = some r) ∧ Aside0 (kq ≤ k) ∧ Aside0 (Below w.heap.size w wc))
      case first =>
        have H := HC15.out
        clear HC15
        by_cases c16 : t108 < 1
        · rw [if_pos c16] at H
          have c16b0 : decide (t108 < 1) = true := decide_eq_true c16
          clear c16
          (first | rw [c16b0] | (simp only [i64_w, i32_w]; rw [c16b0]) | skip)
          have H' := Aside0.mk H
          clear H
          go_wp2
          go_meet
          case rel => exact ⟨_, (true), (by first | rfl | (simp; done) | (simp [*]; done)), H', ⟨by first | omega | exact Nat.le_refl _⟩, ⟨by repeat (first | (with_reducible first | exact HB.out | apply below_alloc | apply pw_below_drewN | apply below_drew1) | exact HB.out)⟩⟩
        · rw [if_neg c16] at H
          have c16b0 : decide (t108 < 1) = false := decide_eq_false c16
          clear c16
          (first | rw [c16b0] | (simp only [i64_w, i32_w]; rw [c16b0]) | skip)
          by_cases c17 : t108 = 0
          · rw [if_pos c17] at H
            exact absurd H (by simp)
          · rw [if_neg c17] at H
            have c17b0 : (t108 == 0) = false := beq_eq_false_iff_ne.mpr c17
            have c17b1 : (t108 != 0) = true := bne_iff_ne.mpr c17
            by_cases c18 : t108 > (wrap64 (Int.tdiv (ji5) t108))
            · rw [if_pos c18] at H
              have c18b0 : decide ((wrap64 (Int.tdiv (ji5) t108)) < t108) = true := decide_eq_true c18
              clear c18
              have H' := Aside0.mk H
              clear H
              go_wp2
              go_meet
              case rel => exact ⟨_, (true), (by first | rfl | (simp; done) | (simp [*]; done)), H', ⟨by first | omega | exact Nat.le_refl _⟩, ⟨by repeat (first | (with_reducible first | exact HB.out | apply below_alloc | apply pw_below_drewN | apply below_drew1) | exact HB.out)⟩⟩
            · rw [if_neg c18] at H
              have c18b0 : decide ((wrap64 (Int.tdiv (ji5) t108)) < t108) = false := decide_eq_false c18
              clear c18
              by_cases c19 : (wrap64 (t108 + 1)) = 0
              · rw [if_pos c19] at H
                exact absurd H (by simp)
              · rw [if_neg c19] at H
                have c19b0 : ((wrap64 (t108 + 1)) == 0) = false := beq_eq_false_iff_ne.mpr c19
                have c19b1 : ((wrap64 (t108 + 1)) != 0) = true := bne_iff_ne.mpr c19
                have H' := Aside0.mk H
                clear H
                go_wp2
                go_meet
                case rel => exact ⟨_, (decide ((wrap64 (t108 + 1)) ≤ (wrap64 (Int.tdiv (ji5) (wrap64 (t108 + 1)))))), (by first | rfl | (simp; done) | (simp only [← hji5] <;> (first | rfl | simp)) | (simp [*]; done)), H', ⟨by first | omega | exact Nat.le_refl _⟩, ⟨by repeat (first | (with_reducible first | exact HB.out | apply below_alloc | apply pw_below_drewN | apply below_drew1) | exact HB.out)⟩⟩
      case rest =>
        clear HC15
        try clear c1
        try clear p2
        try clear c3
        try clear c4
        try clear c4b0
        try clear c4b1
        try clear p6
        try clear c8
        try clear c8b0
        try clear c10
        try clear c11
        try clear c11b0
        try clear c11b1
        try clear c12
        try clear c13
        try clear c14
        try clear c16
        try clear c16b0
        try clear c17
        try clear c17b0
        try clear c17b1
        try clear c18
        try clear c18b0
        try clear c19
        try clear c19b0
        try clear c19b1
        obtain ⟨kq, x43_14, rfl, HA, HJ14, HB⟩ := hcut
        cases kq with
        | zero => exact absurd HA.out (by simp [armplanlaw1_FixedSquares.j0])
        | succ kj14 =>
          have H := HA.out
          clear HA
          simp only [armplanlaw1_FixedSquares.j0] at H
          by_cases c20 : x43_14 = true
          · subst c20
            have H1 : (some false) = some r := by rw [if_pos rfl] at H; exact H
            clear H
            have H := H1
            clear H1
            obtain rfl := Option.some.inj H
            go_wp2
            go_ret
            exact ⟨by first | rfl | (simp [errW_none, errW_some] <;> rfl) | (simp only [← hji3, ← hji5]; first | rfl | (simp [errW_none, errW_some] <;> rfl)) | (simp [*, errW_none, errW_some] <;> rfl), by repeat (first | (with_reducible first | exact HB.out | apply below_alloc | apply pw_below_drewN | apply below_drew1) | exact HB.out)⟩
          · replace c20 := Bool.eq_false_iff.mpr c20
            subst c20
            have H1 : (if (wrap64 (t108 * t108)) = ji5 then ((armplanlaw1_awake.f kj14).bind fun t111 => (if t111 = true then (some (t109 == t108)) else (some false))) else ((armplanlaw1_awake.f kj14).bind fun t112 => (if t112 = true then (some (t109 == (wrap64 (t108 + 1)))) else (some false)))) = some r := by rw [if_neg (show ¬ (false = true) by decide)] at H; exact H
            clear H
            have H := H1
            clear H1
            by_cases c21 : (wrap64 (t108 * t108)) = ji5
            · rw [if_pos c21] at H
              have c21b0 : ((wrap64 (t108 * t108)) == ji5) = true := beq_iff_eq.mpr c21
              have c21b1 : ((wrap64 (t108 * t108)) != ji5) = false := bne_eq_false_iff_eq.mpr c21
              clear c21
              replace H := Option.bind_eq_some_iff.mp H
              obtain ⟨t111, A220, H⟩ := H
              replace H : (if t111 = true then (some (t109 == t108)) else (some false)) = some r := H
              have A22 := Aside0.mk A220
              clear A220
              by_cases c23 : t111 = true
              · subst c23
                have H1 : (some (t109 == t108)) = some r := by rw [if_pos rfl] at H; exact H
                clear H
                have H := H1
                clear H1
                obtain rfl := Option.some.inj H
                go_wp2_with (first | ((with_reducible refine gate_callee (f := 14) rfl ?_); refine goesL_ (some 49) rfl rfl Try.func14 (by kernel_rfl) rfl #[] rfl (by (try simp only [List.map_toArray, List.map_cons, List.map_nil]); first | done | rfl | (simp only [List.length_drop, List.length_take]; rfl)) ?_; (with_reducible refine (armplanlaw1_awake.calls kj14  true _ A22.out).mono ?_); rintro e w24 ⟨rfl, hb⟩; refine ⟨_, rfl, ?_⟩; have n0_ := Aside0.mk (below_step (by repeat (first | (with_reducible first | exact HB.out | apply below_alloc | apply pw_below_drewN | apply below_drew1) | exact HB.out)) hb); clear HB; have HB := n0_; clear n0_; (try clear hb); (try clear hb2); (try clear hk); (try clear hi)))
                go_ret
                exact ⟨by first | rfl | (simp [errW_none, errW_some] <;> rfl) | (simp only [← hji3, ← hji5]; first | rfl | (simp [errW_none, errW_some] <;> rfl)) | (simp [*, errW_none, errW_some] <;> rfl), by repeat (first | (with_reducible first | exact HB.out | apply below_alloc | apply pw_below_drewN | apply below_drew1) | exact HB.out)⟩
              · replace c23 := Bool.eq_false_iff.mpr c23
                subst c23
                have H1 : (some false) = some r := by rw [if_neg (show ¬ (false = true) by decide)] at H; exact H
                clear H
                have H := H1
                clear H1
                obtain rfl := Option.some.inj H
                go_wp2_with (first | ((with_reducible refine gate_callee (f := 14) rfl ?_); refine goesL_ (some 49) rfl rfl Try.func14 (by kernel_rfl) rfl #[] rfl (by (try simp only [List.map_toArray, List.map_cons, List.map_nil]); first | done | rfl | (simp only [List.length_drop, List.length_take]; rfl)) ?_; (with_reducible refine (armplanlaw1_awake.calls kj14  false _ A22.out).mono ?_); rintro e w25 ⟨rfl, hb⟩; refine ⟨_, rfl, ?_⟩; have n0_ := Aside0.mk (below_step (by repeat (first | (with_reducible first | exact HB.out | apply below_alloc | apply pw_below_drewN | apply below_drew1) | exact HB.out)) hb); clear HB; have HB := n0_; clear n0_; (try clear hb); (try clear hb2); (try clear hk); (try clear hi)))
                go_ret
                exact ⟨by first | rfl | (simp [errW_none, errW_some] <;> rfl) | (simp only [← hji3, ← hji5]; first | rfl | (simp [errW_none, errW_some] <;> rfl)) | (simp [*, errW_none, errW_some] <;> rfl), by repeat (first | (with_reducible first | exact HB.out | apply below_alloc | apply pw_below_drewN | apply below_drew1) | exact HB.out)⟩
            · rw [if_neg c21] at H
              have c21b0 : ((wrap64 (t108 * t108)) == ji5) = false := beq_eq_false_iff_ne.mpr c21
              have c21b1 : ((wrap64 (t108 * t108)) != ji5) = true := bne_iff_ne.mpr c21
              replace H := Option.bind_eq_some_iff.mp H
              obtain ⟨t112, A260, H⟩ := H
              replace H : (if t112 = true then (some (t109 == (wrap64 (t108 + 1)))) else (some false)) = some r := H
              have A26 := Aside0.mk A260
              clear A260
              by_cases c27 : t112 = true
              · subst c27
                have H1 : (some (t109 == (wrap64 (t108 + 1)))) = some r := by rw [if_pos rfl] at H; exact H
                clear H
                have H := H1
                clear H1
                obtain rfl := Option.some.inj H
                go_wp2_with (first | ((with_reducible refine gate_callee (f := 14) rfl ?_); refine goesL_ (some 55) rfl rfl Try.func14 (by kernel_rfl) rfl #[] rfl (by (try simp only [List.map_toArray, List.map_cons, List.map_nil]); first | done | rfl | (simp only [List.length_drop, List.length_take]; rfl)) ?_; (with_reducible refine (armplanlaw1_awake.calls kj14  true _ A26.out).mono ?_); rintro e w28 ⟨rfl, hb⟩; refine ⟨_, rfl, ?_⟩; have n0_ := Aside0.mk (below_step (by repeat (first | (with_reducible first | exact HB.out | apply below_alloc | apply pw_below_drewN | apply below_drew1) | exact HB.out)) hb); clear HB; have HB := n0_; clear n0_; (try clear hb); (try clear hb2); (try clear hk); (try clear hi)))
                go_ret
                exact ⟨by first | rfl | (simp [errW_none, errW_some] <;> rfl) | (simp only [← hji3, ← hji5]; first | rfl | (simp [errW_none, errW_some] <;> rfl)) | (simp [*, errW_none, errW_some] <;> rfl), by repeat (first | (with_reducible first | exact HB.out | apply below_alloc | apply pw_below_drewN | apply below_drew1) | exact HB.out)⟩
              · replace c27 := Bool.eq_false_iff.mpr c27
                subst c27
                have H1 : (some false) = some r := by rw [if_neg (show ¬ (false = true) by decide)] at H; exact H
                clear H
                have H := H1
                clear H1
                obtain rfl := Option.some.inj H
                go_wp2_with (first | ((with_reducible refine gate_callee (f := 14) rfl ?_); refine goesL_ (some 55) rfl rfl Try.func14 (by kernel_rfl) rfl #[] rfl (by (try simp only [List.map_toArray, List.map_cons, List.map_nil]); first | done | rfl | (simp only [List.length_drop, List.length_take]; rfl)) ?_; (with_reducible refine (armplanlaw1_awake.calls kj14  false _ A26.out).mono ?_); rintro e w29 ⟨rfl, hb⟩; refine ⟨_, rfl, ?_⟩; have n0_ := Aside0.mk (below_step (by repeat (first | (with_reducible first | exact HB.out | apply below_alloc | apply pw_below_drewN | apply below_drew1) | exact HB.out)) hb); clear HB; have HB := n0_; clear n0_; (try clear hb); (try clear hb2); (try clear hk); (try clear hi)))
                go_ret
                exact ⟨by first | rfl | (simp [errW_none, errW_some] <;> rfl) | (simp only [← hji3, ← hji5]; first | rfl | (simp [errW_none, errW_some] <;> rfl)) | (simp [*, errW_none, errW_some] <;> rfl), by repeat (first | (with_reducible first | exact HB.out | apply below_alloc | apply pw_below_drewN | apply below_drew1) | exact HB.out)⟩
  · rw [if_neg c4] at H
    exact absurd H (by simp)

/-- THE ONE PURE STATEMENT of armplanlaw1_FixedSquares: yours. -/
def armplanlaw1_FixedSquares.Pure : Prop := ∀ (a0 : Int) (a1 : Int), (Lit.int .i64 a0).wf = true → (Lit.int .u8 a1).wf = true → ∃ k, armplanlaw1_FixedSquares.f k a0 a1 = some true
theorem armplanlaw1_FixedSquares.walk (P : armplanlaw1_FixedSquares.Pure) (a0 : Int) (a1 : Int) (w : World) (w0 : (Lit.int .i64 a0).wf = true) (w1 : (Lit.int .u8 a1).wf = true) :
    Calls Try.prog 3 #[.int .i64 a0, .int .u8 a1] w fun e w' => e = .returned (.bool true) ∧ Below w.heap.size w w' := by
  obtain ⟨k, h⟩ := P a0 a1 w0 w1
  refine (armplanlaw1_FixedSquares.calls k a0 a1 true w h).mono ?_
  rintro e w' ⟨rfl, hd⟩
  exact ⟨rfl, hd⟩

end Go.Proofs.Ytdeajnmheebghaa.PFixedSquares
