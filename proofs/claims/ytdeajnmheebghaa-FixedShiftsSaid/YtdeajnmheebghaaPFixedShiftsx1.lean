-- PRINTED BY print.sh 35421559b90ae4d0a3588c463048766b98c2df88dd9212a6774a882060cdf62d: not written by this session
import Derived.Test.YtdeajnmheebghaaPFixedShiftsx0
namespace Go.Proofs.Ytdeajnmheebghaa.PFixedShifts
open Go.RowKit Go.Proofs.YtdeajnmheebghaaW.PrintWords Go.Proofs.YtdeajnmheebghaaW.PrintLast Go.Proofs.YtdeajnmheebghaaW.PrintMore
attribute [local go_sem] max2_int min2_int max_two min_two max_three min_three max_four min_four   -- for this text's walks alone
set_option linter.unusedVariables false
set_option linter.unusedSimpArgs false

/-! ### fixed_Root: function 12 -/
def fixed_Root.l0 : Nat → Int → Int → Int → Option (Int)
  | 0, _, _, _ => none
  | k + 1, x0, x3, x8 => if x8 < 32 then (if 0 ≤ (wrap64 (31 - x8)) then (if (wrap64 (x3 + (shl .i64 1 (wrap64 (31 - x8))))) = 0 then (none) else (if (wrap64 (x3 + (shl .i64 1 (wrap64 (31 - x8))))) ≤ (wrap64 (Int.tdiv x0 (wrap64 (x3 + (shl .i64 1 (wrap64 (31 - x8))))))) then (fixed_Root.l0 k x0 (wrap64 (x3 + (shl .i64 1 (wrap64 (31 - x8))))) (wrap64 (x8 + 1))) else (fixed_Root.l0 k x0 x3 (wrap64 (x8 + 1))))) else (none)) else (some x3)
def fixed_Root.f (k : Nat) (a0 : Int) : Option (Int) := if a0 ≤ 0 then (some 0) else (fixed_Root.l0 k a0 0 0)
theorem fixed_Root.mono_l : ∀ k, (∀ y0 y1 y2, LeO (fixed_Root.l0 k y0 y1 y2) (fixed_Root.l0 (k + 1) y0 y1 y2))
  | 0 => fun _ _ _ r h => by simp [fixed_Root.l0] at h
  | k + 1 => by
    have ih0 := fixed_Root.mono_l k
    · intro y0 y1 y2
      unfold fixed_Root.l0
      repeat' first
      | (with_reducible exact ih0 _ _ _)
      | (with_reducible exact LeO.refl _)
      | (with_reducible exact LeO.none _)
      | (with_reducible refine LeO.ite ?_ ?_)
      | (with_reducible refine LeO.bind ?_ (fun _ => ?_))
      | exact ih0 _ _ _
      | exact LeO.none _
      | refine LeO.ite ?_ ?_
      | refine LeO.bind ?_ (fun _ => ?_)
theorem fixed_Root.mono : ∀ a0 k, LeO (fixed_Root.f k a0) (fixed_Root.f (k + 1) a0) := by
  intro a0 k
  have ih0 := fixed_Root.mono_l k
  unfold fixed_Root.f
  repeat' first
      | (with_reducible exact ih0 _ _ _)
      | (with_reducible exact LeO.refl _)
      | (with_reducible exact LeO.none _)
      | (with_reducible refine LeO.ite ?_ ?_)
      | (with_reducible refine LeO.bind ?_ (fun _ => ?_))
      | exact ih0 _ _ _
      | exact LeO.none _
      | refine LeO.ite ?_ ?_
      | refine LeO.bind ?_ (fun _ => ?_)
set_option maxHeartbeats 8000000 in
set_option maxRecDepth 100000 in
theorem fixed_Root.calls (k : Nat) (a0 : Int) (r : Int) (w : World) (h : fixed_Root.f k a0 = some r) :
    Calls Try.prog 12 #[.int .i64 a0] w fun e w' => e = .returned (.int .i64 r) ∧ Drawn0 w w' := by
  have H : (if a0 ≤ 0 then (some 0) else (fixed_Root.l0 k a0 0 0)) = some r := h
  clear h
  by_cases c2 : a0 ≤ 0
  · rw [if_pos c2] at H
    have c2b0 : decide (a0 ≤ 0) = true := decide_eq_true c2
    clear c2
    obtain rfl := Option.some.inj H
    go_enter Try.func12, Try.ntmps12
    go_wp2
    go_ret
    exact ⟨by first | rfl | (simp; done) | (simp [*]; done), by repeat (first | exact Drawn0.refl _ | apply Drawn0.step)⟩
  · rw [if_neg c2] at H
    have c2b0 : decide (a0 ≤ 0) = false := decide_eq_false c2
    clear c2
    have H' := Aside0.mk H
    clear H
    go_enter Try.func12, Try.ntmps12
    go_wp2
    go_loopg [3, 8] k (fun kq v3 v8 w' => ∃ (x3_1 : Int) (x8_1 : Int), v3 = .int .i64 x3_1 ∧ v8 = .int .i64 x8_1 ∧ Aside0 (fixed_Root.l0 kq a0 x3_1 x8_1 = some r) ∧ Aside0 (kq ≤ k) ∧ Drawn0 w w')
    case atStart => exact ⟨(0), (0), (by first | rfl | (simp; done) | (simp [*]; done)), (by first | rfl | (simp; done) | (simp [*]; done)), H', ⟨Nat.le_refl _⟩, by repeat (first | exact Drawn0.refl _ | apply Drawn0.step)⟩
    case round =>
      clear H'
      try clear c1
      try clear c2
      try clear c2b0
      try clear p2
      obtain ⟨x3_1, x8_1, rfl, rfl, HA, HK1, ⟨m1, rfl⟩⟩ := hrel
      cases gk with
      | zero => exact absurd HA.out (by simp [fixed_Root.l0])
      | succ k1 =>
        have H := HA.out
        clear HA
        simp only [fixed_Root.l0] at H
        by_cases c3 : x8_1 < 32
        · rw [if_pos c3] at H
          have c3b0 : decide (x8_1 < 32) = true := decide_eq_true c3
          clear c3
          obtain ⟨ji4, hji4⟩ : ∃ j_ : Int, (wrap64 (31 - x8_1)) = j_ := ⟨_, rfl⟩
          replace H : (if 0 ≤ (ji4) then (if (wrap64 (x3_1 + (shl .i64 1 (ji4)))) = 0 then (none) else (if (wrap64 (x3_1 + (shl .i64 1 (ji4)))) ≤ (wrap64 (Int.tdiv a0 (wrap64 (x3_1 + (shl .i64 1 (ji4)))))) then (fixed_Root.l0 k1 a0 (wrap64 (x3_1 + (shl .i64 1 (ji4)))) (wrap64 (x8_1 + 1))) else (fixed_Root.l0 k1 a0 x3_1 (wrap64 (x8_1 + 1))))) else (none)) = some r := by first | (rw [hji4] at H; exact H) | (simp only [hji4] at H ⊢; exact H)
          have hji4w : (IntKind.i64.wrap (31 - x8_1)) = ji4 := (i64_w _).trans hji4
          by_cases c5 : 0 ≤ (ji4)
          · rw [if_pos c5] at H
            have c5b0 := eq_true c5
            have c5b1 : decide (0 ≤ (ji4)) = true := decide_eq_true c5
            clear c5
            obtain ⟨ji6, hji6⟩ : ∃ j_ : Int, (shl .i64 1 (ji4)) = j_ := ⟨_, rfl⟩
            replace H : (if (wrap64 (x3_1 + (ji6))) = 0 then (none) else (if (wrap64 (x3_1 + (ji6))) ≤ (wrap64 (Int.tdiv a0 (wrap64 (x3_1 + (ji6))))) then (fixed_Root.l0 k1 a0 (wrap64 (x3_1 + (ji6))) (wrap64 (x8_1 + 1))) else (fixed_Root.l0 k1 a0 x3_1 (wrap64 (x8_1 + 1))))) = some r := by first | (rw [hji6] at H; exact H) | (simp only [hji6] at H ⊢; exact H)
            have hji6_ : (IntKind.i64.wrap (1 * 2 ^ min (ji4).toNat 64)) = ji6 := hji6
            have hji6z : (ji4) ≤ 64 → (IntKind.i64.wrap (1 * 2 ^ (ji4).toNat)) = ji6 := shl_small hji6
            have hji6u : (IntKind.i64.wrap (2 ^ min (ji4).toNat 64)) = ji6 := by have h_ := hji6_; rw [Int.one_mul] at h_; exact h_
            have hji6v : (ji4) ≤ 64 → (IntKind.i64.wrap (2 ^ (ji4).toNat)) = ji6 := fun hle_ => by have h_ := hji6z hle_; rw [Int.one_mul] at h_; exact h_
            have hji6y : (wrap64 (1 * 2 ^ min (ji4).toNat 64)) = ji6 := (i64_w _).symm.trans hji6_
            have hji6x : (ji4) ≤ 64 → (wrap64 (1 * 2 ^ (ji4).toNat)) = ji6 := fun h_ => (i64_w _).symm.trans (hji6z h_)
            by_cases c7 : (wrap64 (x3_1 + (ji6))) = 0
            · rw [if_pos c7] at H
              exact absurd H (by simp)
            · rw [if_neg c7] at H
              have c7b0 : ((wrap64 (x3_1 + (ji6))) == 0) = false := beq_eq_false_iff_ne.mpr c7
              have c7b1 : ((wrap64 (x3_1 + (ji6))) != 0) = true := bne_iff_ne.mpr c7
              by_cases c8 : (wrap64 (x3_1 + (ji6))) ≤ (wrap64 (Int.tdiv a0 (wrap64 (x3_1 + (ji6)))))
              · rw [if_pos c8] at H
                have c8b0 : decide ((wrap64 (x3_1 + (ji6))) ≤ (wrap64 (Int.tdiv a0 (wrap64 (x3_1 + (ji6)))))) = true := decide_eq_true c8
                clear c8
                have H' := Aside0.mk H
                clear H
                go_wp2
                go_roundg k1
                case measure => have := HK1.out; omega
                case rel => exact ⟨(wrap64 (x3_1 + (ji6))), (wrap64 (x8_1 + 1)), (by first | rfl | (simp; done) | (simp only [← hji6] <;> (first | rfl | simp)) | (simp [*]; done)), (by first | rfl | (simp; done) | (simp [*]; done)), H', ⟨by have := HK1.out; omega⟩, by repeat (first | exact Drawn0.refl _ | apply Drawn0.step)⟩
              · rw [if_neg c8] at H
                have c8b0 : decide ((wrap64 (x3_1 + (ji6))) ≤ (wrap64 (Int.tdiv a0 (wrap64 (x3_1 + (ji6)))))) = false := decide_eq_false c8
                clear c8
                have H' := Aside0.mk H
                clear H
                go_wp2
                go_roundg k1
                case measure => have := HK1.out; omega
                case rel => exact ⟨(x3_1), (wrap64 (x8_1 + 1)), (by first | rfl | (simp; done) | (simp [*]; done)), (by first | rfl | (simp; done) | (simp [*]; done)), H', ⟨by have := HK1.out; omega⟩, by repeat (first | exact Drawn0.refl _ | apply Drawn0.step)⟩
          · rw [if_neg c5] at H
            exact absurd H (by simp)
        · rw [if_neg c3] at H
          have c3b0 : decide (x8_1 < 32) = false := decide_eq_false c3
          clear c3
          obtain rfl := Option.some.inj H
          go_wp2
          go_ret
          exact ⟨by first | rfl | (simp; done) | (simp [*]; done), by repeat (first | exact Drawn0.refl _ | apply Drawn0.step)⟩

/-! ### fixed_ShiftDown: function 15 -/
def fixed_ShiftDown.f (a0 : Int) (a1 : Int) : Option (Int) := if a1 < 0 then (some a0) else (if 0 ≤ a1 then (some (shr .i64 a0 a1)) else (none))
set_option maxHeartbeats 8000000 in
set_option maxRecDepth 100000 in
theorem fixed_ShiftDown.calls (a0 : Int) (a1 : Int) (r : Int) (w : World) (h : fixed_ShiftDown.f a0 a1 = some r) :
    Calls Try.prog 15 #[.int .i64 a0, .int .i64 a1] w fun e w' => e = .returned (.int .i64 r) ∧ Drawn0 w w' := by
  have H : (if a1 < 0 then (some a0) else (if 0 ≤ a1 then (some (shr .i64 a0 a1)) else (none))) = some r := h
  clear h
  by_cases c3 : a1 < 0
  · rw [if_pos c3] at H
    have c3b0 : decide (a1 < 0) = true := decide_eq_true c3
    clear c3
    obtain rfl := Option.some.inj H
    go_enter Try.func15, Try.ntmps15
    go_wp2
    go_ret
    exact ⟨by first | rfl | (simp; done) | (simp [*]; done), by repeat (first | exact Drawn0.refl _ | apply Drawn0.step)⟩
  · rw [if_neg c3] at H
    have c3b0 : decide (a1 < 0) = false := decide_eq_false c3
    clear c3
    by_cases c4 : 0 ≤ a1
    · rw [if_pos c4] at H
      have c4b0 := eq_true c4
      have c4b1 : decide (0 ≤ a1) = true := decide_eq_true c4
      clear c4
      obtain ⟨ji5, hji5⟩ : ∃ j_ : Int, (shr .i64 a0 a1) = j_ := ⟨_, rfl⟩
      replace H : (some ji5) = some r := by first | (rw [hji5] at H; exact H) | (simp only [hji5] at H ⊢; exact H)
      have hji5_ : (a0 / 2 ^ min a1.toNat 64) = ji5 := hji5
      have hji5z : a1 ≤ 64 → (a0 / 2 ^ a1.toNat) = ji5 := shr_small hji5
      obtain rfl := Option.some.inj H
      go_enter Try.func15, Try.ntmps15
      go_wp2
      go_ret
      exact ⟨by first | rfl | (simp; done) | (simp only [← hji5] <;> (first | rfl | simp)) | (simp [*]; done), by repeat (first | exact Drawn0.refl _ | apply Drawn0.step)⟩
    · rw [if_neg c4] at H
      exact absurd H (by simp)

/-! ### fixed_Clamp: function 19 -/
def fixed_Clamp.f (a0 : Int) : Option (Int) := some (mn (mx a0 (-2147483648)) 2147483648)
set_option maxHeartbeats 8000000 in
set_option maxRecDepth 100000 in
theorem fixed_Clamp.calls (a0 : Int) (r : Int) (w : World) (h : fixed_Clamp.f a0 = some r) :
    Calls Try.prog 19 #[.int .i64 a0] w fun e w' => e = .returned (.int .i64 r) ∧ Below w.heap.size w w' := by
  have HB := Aside0.mk (Below.refl w.heap.size w)
  have H : (some (mn (mx a0 (-2147483648)) 2147483648)) = some r := h
  clear h
  obtain ⟨ji2, hji2⟩ : ∃ j_ : Int, (mx a0 (-2147483648)) = j_ := ⟨_, rfl⟩
  replace H : (some (mn (ji2) 2147483648)) = some r := by first | (rw [hji2] at H; exact H) | (simp only [hji2] at H ⊢; exact H)
  have hji2_ : (if a0 < (-2147483648) then (-2147483648) else a0) = ji2 := hji2
  obtain ⟨ji3, hji3⟩ : ∃ j_ : Int, (mn (ji2) 2147483648) = j_ := ⟨_, rfl⟩
  replace H : (some ji3) = some r := by first | (rw [hji3] at H; exact H) | (simp only [hji3] at H ⊢; exact H)
  have hji3_ : (if 2147483648 < (ji2) then 2147483648 else (ji2)) = ji3 := hji3
  obtain rfl := Option.some.inj H
  go_enter Try.func19, Try.ntmps19
  go_wp2
  go_ret
  exact ⟨by first | rfl | (simp [errW_none, errW_some] <;> rfl) | (simp only [← hji2, ← hji3]; first | rfl | (simp [errW_none, errW_some] <;> rfl)) | (simp [*, errW_none, errW_some] <;> rfl), by repeat (first | (with_reducible first | exact HB.out | apply below_alloc | apply pw_below_drewN | apply below_drew1) | exact HB.out)⟩

/-! ### fixed_product: function 36 -/
def fixed_product.f (a0 : Int) (a1 : Int) : Option (Int) := (fixed_Clamp.f a0).bind fun t101 => ((fixed_Clamp.f a1).bind fun t102 => (some (wrap64 (t101 * t102))))
set_option maxHeartbeats 8000000 in
set_option maxRecDepth 100000 in
theorem fixed_product.calls (a0 : Int) (a1 : Int) (r : Int) (w : World) (h : fixed_product.f a0 a1 = some r) :
    Calls Try.prog 36 #[.int .i64 a0, .int .i64 a1] w fun e w' => e = .returned (.int .i64 r) ∧ Below w.heap.size w w' := by
  have HB := Aside0.mk (Below.refl w.heap.size w)
  have H : ((fixed_Clamp.f a0).bind fun t101 => ((fixed_Clamp.f a1).bind fun t102 => (some (wrap64 (t101 * t102))))) = some r := h
  clear h
  replace H := Option.bind_eq_some_iff.mp H
  obtain ⟨t101, A30, H⟩ := H
  replace H : ((fixed_Clamp.f a1).bind fun t102 => (some (wrap64 (t101 * t102)))) = some r := H
  have A3 := Aside0.mk A30
  clear A30
  replace H := Option.bind_eq_some_iff.mp H
  obtain ⟨t102, A40, H⟩ := H
  replace H : (some (wrap64 (t101 * t102))) = some r := H
  have A4 := Aside0.mk A40
  clear A40
  obtain rfl := Option.some.inj H
  go_enter Try.func36, Try.ntmps36
  go_wp2_with (first | ((with_reducible refine gate_callee (f := 19) rfl ?_); refine goesL_ (some 6) rfl rfl Try.func19 (by kernel_rfl) rfl #[.int .i64 a0] rfl (by (try simp only [List.map_toArray, List.map_cons, List.map_nil]); first | done | rfl | (simp only [List.length_drop, List.length_take]; rfl)) ?_; (with_reducible refine (fixed_Clamp.calls a0 t101 _ A3.out).mono ?_); rintro e w5 ⟨rfl, hb⟩; refine ⟨_, rfl, ?_⟩; have n0_ := Aside0.mk (below_step (by repeat (first | (with_reducible first | exact HB.out | apply below_alloc | apply pw_below_drewN | apply below_drew1) | exact HB.out)) hb); clear HB; have HB := n0_; clear n0_; (try clear hb); (try clear hb2); (try clear hk); (try clear hi)) | ((with_reducible refine gate_callee (f := 19) rfl ?_); refine goesL_ (some 8) rfl rfl Try.func19 (by kernel_rfl) rfl #[.int .i64 a1] rfl (by (try simp only [List.map_toArray, List.map_cons, List.map_nil]); first | done | rfl | (simp only [List.length_drop, List.length_take]; rfl)) ?_; (with_reducible refine (fixed_Clamp.calls a1 t102 _ A4.out).mono ?_); rintro e w6 ⟨rfl, hb⟩; refine ⟨_, rfl, ?_⟩; have n0_ := Aside0.mk (below_step (by repeat (first | (with_reducible first | exact HB.out | apply below_alloc | apply pw_below_drewN | apply below_drew1) | exact HB.out)) hb); clear HB; have HB := n0_; clear n0_; (try clear hb); (try clear hb2); (try clear hk); (try clear hi)))
  go_ret
  exact ⟨by first | rfl | (simp [errW_none, errW_some] <;> rfl) | (simp [*, errW_none, errW_some] <;> rfl), by repeat (first | (with_reducible first | exact HB.out | apply below_alloc | apply pw_below_drewN | apply below_drew1) | exact HB.out)⟩

/-! ### fixed_MulDown: function 21 -/
def fixed_MulDown.f (a0 : Int) (a1 : Int) : Option (Int) := (fixed_product.f a0 a1).bind fun t103 => ((fixed_ShiftDown.f t103 16).bind fun t104 => (some t104))
set_option maxHeartbeats 8000000 in
set_option maxRecDepth 100000 in
theorem fixed_MulDown.calls (a0 : Int) (a1 : Int) (r : Int) (w : World) (h : fixed_MulDown.f a0 a1 = some r) :
    Calls Try.prog 21 #[.int .i64 a0, .int .i64 a1] w fun e w' => e = .returned (.int .i64 r) ∧ Below w.heap.size w w' := by
  have HB := Aside0.mk (Below.refl w.heap.size w)
  have H : ((fixed_product.f a0 a1).bind fun t103 => ((fixed_ShiftDown.f t103 16).bind fun t104 => (some t104))) = some r := h
  clear h
  replace H := Option.bind_eq_some_iff.mp H
  obtain ⟨t103, A30, H⟩ := H
  replace H : ((fixed_ShiftDown.f t103 16).bind fun t104 => (some t104)) = some r := H
  have A3 := Aside0.mk A30
  clear A30
  replace H := Option.bind_eq_some_iff.mp H
  obtain ⟨t104, A40, H⟩ := H
  replace H : (some t104) = some r := H
  have A4 := Aside0.mk A40
  clear A40
  obtain rfl := Option.some.inj H
  go_enter Try.func21, Try.ntmps21
  go_wp2_with (first | ((with_reducible refine gate_callee (f := 36) rfl ?_); refine goesL_ (some 7) rfl rfl Try.func36 (by kernel_rfl) rfl #[.int .i64 a0, .int .i64 a1] rfl (by (try simp only [List.map_toArray, List.map_cons, List.map_nil]); first | done | rfl | (simp only [List.length_drop, List.length_take]; rfl)) ?_; (with_reducible refine (fixed_product.calls a0 a1 t103 _ A3.out).mono ?_); rintro e w5 ⟨rfl, hb⟩; refine ⟨_, rfl, ?_⟩; have n0_ := Aside0.mk (below_step (by repeat (first | (with_reducible first | exact HB.out | apply below_alloc | apply pw_below_drewN | apply below_drew1) | exact HB.out)) hb); clear HB; have HB := n0_; clear n0_; (try clear hb); (try clear hb2); (try clear hk); (try clear hi)) | ((with_reducible refine gate_callee (f := 15) rfl ?_); refine goesL_ (some 8) rfl rfl Try.func15 (by kernel_rfl) rfl #[.int .i64 t103, .int .i64 16] rfl (by (try simp only [List.map_toArray, List.map_cons, List.map_nil]); first | done | rfl | (simp only [List.length_drop, List.length_take]; rfl)) ?_; (with_reducible refine (fixed_ShiftDown.calls t103 16 t104 _ A4.out).mono ?_); rintro e w' ⟨rfl, ⟨nd, rfl⟩⟩; refine ⟨_, rfl, ?_⟩))
  go_ret
  exact ⟨by first | rfl | (simp [errW_none, errW_some] <;> rfl) | (simp [*, errW_none, errW_some] <;> rfl), by repeat (first | (with_reducible first | exact HB.out | apply below_alloc | apply pw_below_drewN | apply below_drew1) | exact HB.out)⟩

/-! ### armplanlaw1_awake: function 14 -/
def armplanlaw1_awake.f (k : Nat)  : Option (Bool) := (fixed_MulDown.f 98304 32768).bind fun t105 => (if t105 = 49152 then ((fixed_Root.f k 15).bind fun t106 => (some (t106 == 3))) else (some false))
theorem armplanlaw1_awake.mono : ∀ k, LeO (armplanlaw1_awake.f k ) (armplanlaw1_awake.f (k + 1) ) := by
  intro  k
  unfold armplanlaw1_awake.f
  repeat' first
      | (with_reducible exact fixed_Root.mono _ _)
      | (with_reducible exact LeO.refl _)
      | (with_reducible exact LeO.none _)
      | (with_reducible refine LeO.ite ?_ ?_)
      | (with_reducible refine LeO.bind ?_ (fun _ => ?_))
      | exact fixed_Root.mono _ _
      | exact LeO.none _
      | refine LeO.ite ?_ ?_
      | refine LeO.bind ?_ (fun _ => ?_)
set_option maxHeartbeats 8000000 in
set_option maxRecDepth 100000 in
theorem armplanlaw1_awake.calls (k : Nat)  (r : Bool) (w : World) (h : armplanlaw1_awake.f k  = some r) :
    Calls Try.prog 14 #[] w fun e w' => e = .returned (.bool r) ∧ Below w.heap.size w w' := by
  have HB := Aside0.mk (Below.refl w.heap.size w)
  have H : ((fixed_MulDown.f 98304 32768).bind fun t105 => (if t105 = 49152 then ((fixed_Root.f k 15).bind fun t106 => (some (t106 == 3))) else (some false))) = some r := h
  clear h
  replace H := Option.bind_eq_some_iff.mp H
  obtain ⟨t105, A10, H⟩ := H
  replace H : (if t105 = 49152 then ((fixed_Root.f k 15).bind fun t106 => (some (t106 == 3))) else (some false)) = some r := H
  have A1 := Aside0.mk A10
  clear A10
  by_cases c2 : t105 = 49152
  · rw [if_pos c2] at H
    have c2b0 : (t105 == 49152) = true := beq_iff_eq.mpr c2
    have c2b1 : (t105 != 49152) = false := bne_eq_false_iff_eq.mpr c2
    clear c2
    replace H := Option.bind_eq_some_iff.mp H
    obtain ⟨t106, A30, H⟩ := H
    replace H : (some (t106 == 3)) = some r := H
    have A3 := Aside0.mk A30
    clear A30
    obtain rfl := Option.some.inj H
    go_enter Try.func14, Try.ntmps14
    go_wp2_with (first | ((with_reducible refine gate_callee (f := 21) rfl ?_); refine goesL_ (some 1) rfl rfl Try.func21 (by kernel_rfl) rfl #[.int .i64 98304, .int .i64 32768] rfl (by (try simp only [List.map_toArray, List.map_cons, List.map_nil]); first | done | rfl | (simp only [List.length_drop, List.length_take]; rfl)) ?_; (with_reducible refine (fixed_MulDown.calls 98304 32768 t105 _ A1.out).mono ?_); rintro e w4 ⟨rfl, hb⟩; refine ⟨_, rfl, ?_⟩; have n0_ := Aside0.mk (below_step (by repeat (first | (with_reducible first | exact HB.out | apply below_alloc | apply pw_below_drewN | apply below_drew1) | exact HB.out)) hb); clear HB; have HB := n0_; clear n0_; (try clear hb); (try clear hb2); (try clear hk); (try clear hi)) | (go_at_call 12; (with_reducible refine (fixed_Root.calls k 15 t106 _ A3.out).mono ?_); rintro e w' ⟨rfl, ⟨nd, rfl⟩⟩))
    go_ret
    exact ⟨by first | rfl | (simp [errW_none, errW_some] <;> rfl) | (simp [*, errW_none, errW_some] <;> rfl), by repeat (first | (with_reducible first | exact HB.out | apply below_alloc | apply pw_below_drewN | apply below_drew1) | exact HB.out)⟩
  · rw [if_neg c2] at H
    have c2b0 : (t105 == 49152) = false := beq_eq_false_iff_ne.mpr c2
    have c2b1 : (t105 != 49152) = true := bne_iff_ne.mpr c2
    obtain rfl := Option.some.inj H
    go_enter Try.func14, Try.ntmps14
    go_wp2_with (first | ((with_reducible refine gate_callee (f := 21) rfl ?_); refine goesL_ (some 1) rfl rfl Try.func21 (by kernel_rfl) rfl #[.int .i64 98304, .int .i64 32768] rfl (by (try simp only [List.map_toArray, List.map_cons, List.map_nil]); first | done | rfl | (simp only [List.length_drop, List.length_take]; rfl)) ?_; (with_reducible refine (fixed_MulDown.calls 98304 32768 t105 _ A1.out).mono ?_); rintro e w5 ⟨rfl, hb⟩; refine ⟨_, rfl, ?_⟩; have n0_ := Aside0.mk (below_step (by repeat (first | (with_reducible first | exact HB.out | apply below_alloc | apply pw_below_drewN | apply below_drew1) | exact HB.out)) hb); clear HB; have HB := n0_; clear n0_; (try clear hb); (try clear hb2); (try clear hk); (try clear hi)))
    go_ret
    exact ⟨by first | rfl | (simp [errW_none, errW_some] <;> rfl) | (simp [*, errW_none, errW_some] <;> rfl), by repeat (first | (with_reducible first | exact HB.out | apply below_alloc | apply pw_below_drewN | apply below_drew1) | exact HB.out)⟩

/-! ### armplanref1_Floor: function 34 -/
def armplanref1_Floor.f (a0 : Int) (a1 : Int) : Option (Int) := if a1 = 0 then (none) else (if (Int.tmod a0 a1) < 0 then (some (wrap64 ((wrap64 (Int.tdiv a0 a1)) - 1))) else (some (wrap64 (Int.tdiv a0 a1))))
set_option maxHeartbeats 8000000 in
set_option maxRecDepth 100000 in
theorem armplanref1_Floor.calls (a0 : Int) (a1 : Int) (r : Int) (w : World) (h : armplanref1_Floor.f a0 a1 = some r) :
    Calls Try.prog 34 #[.int .i64 a0, .int .i64 a1] w fun e w' => e = .returned (.int .i64 r) ∧ Drawn0 w w' := by
  have H : (if a1 = 0 then (none) else (if (Int.tmod a0 a1) < 0 then (some (wrap64 ((wrap64 (Int.tdiv a0 a1)) - 1))) else (some (wrap64 (Int.tdiv a0 a1))))) = some r := h
  clear h
  by_cases c3 : a1 = 0
  · rw [if_pos c3] at H
    exact absurd H (by simp)
  · rw [if_neg c3] at H
    have c3b0 : (a1 == 0) = false := beq_eq_false_iff_ne.mpr c3
    have c3b1 : (a1 != 0) = true := bne_iff_ne.mpr c3
    by_cases c4 : (Int.tmod a0 a1) < 0
    · rw [if_pos c4] at H
      have c4b0 : decide ((Int.tmod a0 a1) < 0) = true := decide_eq_true c4
      clear c4
      obtain rfl := Option.some.inj H
      go_enter Try.func34, Try.ntmps34
      go_wp2
      go_ret
      exact ⟨by first | rfl | (simp; done) | (simp [*]; done), by repeat (first | exact Drawn0.refl _ | apply Drawn0.step)⟩
    · rw [if_neg c4] at H
      have c4b0 : decide ((Int.tmod a0 a1) < 0) = false := decide_eq_false c4
      clear c4
      obtain rfl := Option.some.inj H
      go_enter Try.func34, Try.ntmps34
      go_wp2
      go_ret
      exact ⟨by first | rfl | (simp; done) | (simp [*]; done), by repeat (first | exact Drawn0.refl _ | apply Drawn0.step)⟩

/-! ### armplanref1_ShiftDown: function 16 -/
def armplanref1_ShiftDown.l0 : Nat → Int → Int → Int → Option (Int)
  | 0, _, _, _ => none
  | k + 1, x0, x1, x5 => if x5 < x1 then (if x5 < 64 then ((armplanref1_Floor.f x0 2).bind fun t107 => (armplanref1_ShiftDown.l0 k t107 x1 (wrap64 (x5 + 1)))) else (some x0)) else (some x0)
def armplanref1_ShiftDown.f (k : Nat) (a0 : Int) (a1 : Int) : Option (Int) := armplanref1_ShiftDown.l0 k a0 a1 0
theorem armplanref1_ShiftDown.mono_l : ∀ k, (∀ y0 y1 y2, LeO (armplanref1_ShiftDown.l0 k y0 y1 y2) (armplanref1_ShiftDown.l0 (k + 1) y0 y1 y2))
  | 0 => fun _ _ _ r h => by simp [armplanref1_ShiftDown.l0] at h
  | k + 1 => by
    have ih0 := armplanref1_ShiftDown.mono_l k
    · intro y0 y1 y2
      unfold armplanref1_ShiftDown.l0
      repeat' first
      | (with_reducible exact ih0 _ _ _)
      | (with_reducible exact LeO.refl _)
      | (with_reducible exact LeO.none _)
      | (with_reducible refine LeO.ite ?_ ?_)
      | (with_reducible refine LeO.bind ?_ (fun _ => ?_))
      | exact ih0 _ _ _
      | exact LeO.none _
      | refine LeO.ite ?_ ?_
      | refine LeO.bind ?_ (fun _ => ?_)
theorem armplanref1_ShiftDown.mono : ∀ a0 a1 k, LeO (armplanref1_ShiftDown.f k a0 a1) (armplanref1_ShiftDown.f (k + 1) a0 a1) := by
  intro a0 a1 k
  have ih0 := armplanref1_ShiftDown.mono_l k
  unfold armplanref1_ShiftDown.f
  repeat' first
      | (with_reducible exact ih0 _ _ _)
      | (with_reducible exact LeO.refl _)
      | (with_reducible exact LeO.none _)
      | (with_reducible refine LeO.ite ?_ ?_)
      | (with_reducible refine LeO.bind ?_ (fun _ => ?_))
      | exact ih0 _ _ _
      | exact LeO.none _
      | refine LeO.ite ?_ ?_
      | refine LeO.bind ?_ (fun _ => ?_)
set_option maxHeartbeats 8000000 in
set_option maxRecDepth 100000 in
theorem armplanref1_ShiftDown.calls (k : Nat) (a0 : Int) (a1 : Int) (r : Int) (w : World) (h : armplanref1_ShiftDown.f k a0 a1 = some r) :
    Calls Try.prog 16 #[.int .i64 a0, .int .i64 a1] w fun e w' => e = .returned (.int .i64 r) ∧ Drawn0 w w' := by
  have H : (armplanref1_ShiftDown.l0 k a0 a1 0) = some r := h
  clear h
  have H' := Aside0.mk H
  clear H
  go_enter Try.func16, Try.ntmps16
  go_wp2
  go_loopg [0, 5] k (fun kq v0 v5 w' => ∃ (x0_1 : Int) (x5_1 : Int), v0 = .int .i64 x0_1 ∧ v5 = .int .i64 x5_1 ∧ Aside0 (armplanref1_ShiftDown.l0 kq x0_1 a1 x5_1 = some r) ∧ Aside0 (kq ≤ k) ∧ Drawn0 w w')
  case atStart => exact ⟨(a0), (0), (by first | rfl | (simp; done) | (simp [*]; done)), (by first | rfl | (simp; done) | (simp [*]; done)), H', ⟨Nat.le_refl _⟩, by repeat (first | exact Drawn0.refl _ | apply Drawn0.step)⟩
  case round =>
    clear H'
    try clear c1
    try clear p2
    obtain ⟨x0_1, x5_1, rfl, rfl, HA, HK1, ⟨m1, rfl⟩⟩ := hrel
    cases gk with
    | zero => exact absurd HA.out (by simp [armplanref1_ShiftDown.l0])
    | succ k1 =>
      have H := HA.out
      clear HA
      simp only [armplanref1_ShiftDown.l0] at H
      by_cases c3 : x5_1 < a1
      · rw [if_pos c3] at H
        have c3b0 : decide (x5_1 < a1) = true := decide_eq_true c3
        clear c3
        by_cases c4 : x5_1 < 64
        · rw [if_pos c4] at H
          have c4b0 : decide (x5_1 < 64) = true := decide_eq_true c4
          clear c4
          replace H := Option.bind_eq_some_iff.mp H
          obtain ⟨t107, A50, H⟩ := H
          replace H : (armplanref1_ShiftDown.l0 k1 t107 a1 (wrap64 (x5_1 + 1))) = some r := H
          have A5 := Aside0.mk A50
          clear A50
          have H' := Aside0.mk H
          clear H
          go_wp2_with (first | ((with_reducible refine gate_callee (f := 34) rfl ?_); refine goesL_ (some 16) rfl rfl Try.func34 (by kernel_rfl) rfl #[.int .i64 x0_1, .int .i64 2] rfl (by (try simp only [List.map_toArray, List.map_cons, List.map_nil]); first | done | rfl | (simp only [List.length_drop, List.length_take]; rfl)) ?_; (with_reducible refine (armplanref1_Floor.calls x0_1 2 t107 _ A5.out).mono ?_); rintro e w' ⟨rfl, ⟨nd, rfl⟩⟩; refine ⟨_, rfl, ?_⟩))
          go_roundg k1
          case measure => have := HK1.out; omega
          case rel => exact ⟨(t107), (wrap64 (x5_1 + 1)), (by first | rfl | (simp; done) | (simp [*]; done)), (by first | rfl | (simp; done) | (simp [*]; done)), H', ⟨by have := HK1.out; omega⟩, by repeat (first | exact Drawn0.refl _ | apply Drawn0.step)⟩
        · rw [if_neg c4] at H
          have c4b0 : decide (x5_1 < 64) = false := decide_eq_false c4
          clear c4
          obtain rfl := Option.some.inj H
          go_wp2
          go_ret
          exact ⟨by first | rfl | (simp; done) | (simp [*]; done), by repeat (first | exact Drawn0.refl _ | apply Drawn0.step)⟩
      · rw [if_neg c3] at H
        have c3b0 : decide (x5_1 < a1) = false := decide_eq_false c3
        clear c3
        obtain rfl := Option.some.inj H
        go_wp2
        go_ret
        exact ⟨by first | rfl | (simp; done) | (simp [*]; done), by repeat (first | exact Drawn0.refl _ | apply Drawn0.step)⟩

/-! ### fixed_ShiftUp: function 17 -/
def fixed_ShiftUp.f (a0 : Int) (a1 : Int) : Option (Int) := (fixed_ShiftDown.f a0 a1).bind fun t108 => (if a1 ≥ 0 then (if 0 ≤ a1 then (if (shl .i64 t108 a1) = a0 then (some t108) else (some (wrap64 (t108 + 1)))) else (none)) else (some t108))
set_option maxHeartbeats 8000000 in
set_option maxRecDepth 100000 in
theorem fixed_ShiftUp.calls (a0 : Int) (a1 : Int) (r : Int) (w : World) (h : fixed_ShiftUp.f a0 a1 = some r) :
    Calls Try.prog 17 #[.int .i64 a0, .int .i64 a1] w fun e w' => e = .returned (.int .i64 r) ∧ Drawn0 w w' := by
  have H : ((fixed_ShiftDown.f a0 a1).bind fun t108 => (if a1 ≥ 0 then (if 0 ≤ a1 then (if (shl .i64 t108 a1) = a0 then (some t108) else (some (wrap64 (t108 + 1)))) else (none)) else (some t108))) = some r := h
  clear h
  replace H := Option.bind_eq_some_iff.mp H
  obtain ⟨t108, A30, H⟩ := H
  replace H : (if a1 ≥ 0 then (if 0 ≤ a1 then (if (shl .i64 t108 a1) = a0 then (some t108) else (some (wrap64 (t108 + 1)))) else (none)) else (some t108)) = some r := H
  have A3 := Aside0.mk A30
  clear A30
  by_cases c4 : a1 ≥ 0
  · rw [if_pos c4] at H
    have c4b0 : decide (0 ≤ a1) = true := decide_eq_true c4
    clear c4
    by_cases c5 : 0 ≤ a1
    · rw [if_pos c5] at H
      have c5b0 := eq_true c5
      have c5b1 : decide (0 ≤ a1) = true := decide_eq_true c5
      clear c5
      obtain ⟨ji6, hji6⟩ : ∃ j_ : Int, (shl .i64 t108 a1) = j_ := ⟨_, rfl⟩
      replace H : (if (ji6) = a0 then (some t108) else (some (wrap64 (t108 + 1)))) = some r := by first | (rw [hji6] at H; exact H) | (simp only [hji6] at H ⊢; exact H)
      (try rw [hji6] at A3)
      have hji6_ : (IntKind.i64.wrap (t108 * 2 ^ min a1.toNat 64)) = ji6 := hji6
      have hji6z : a1 ≤ 64 → (IntKind.i64.wrap (t108 * 2 ^ a1.toNat)) = ji6 := shl_small hji6
      have hji6y : (wrap64 (t108 * 2 ^ min a1.toNat 64)) = ji6 := (i64_w _).symm.trans hji6_
      have hji6x : a1 ≤ 64 → (wrap64 (t108 * 2 ^ a1.toNat)) = ji6 := fun h_ => (i64_w _).symm.trans (hji6z h_)
      by_cases c7 : (ji6) = a0
      · rw [if_pos c7] at H
        have c7b0 : ((ji6) == a0) = true := beq_iff_eq.mpr c7
        have c7b1 : ((ji6) != a0) = false := bne_eq_false_iff_eq.mpr c7
        clear c7
        obtain rfl := Option.some.inj H
        go_enter Try.func17, Try.ntmps17
        go_wp2_with (first | ((with_reducible refine gate_callee (f := 15) rfl ?_); refine goesL_ (some 8) rfl rfl Try.func15 (by kernel_rfl) rfl #[.int .i64 a0, .int .i64 a1] rfl (by (try simp only [List.map_toArray, List.map_cons, List.map_nil]); first | done | rfl | (simp only [List.length_drop, List.length_take]; rfl)) ?_; (with_reducible refine (fixed_ShiftDown.calls a0 a1 t108 _ A3.out).mono ?_); rintro e w' ⟨rfl, ⟨nd, rfl⟩⟩; refine ⟨_, rfl, ?_⟩))
        go_ret
        exact ⟨by first | rfl | (simp; done) | (simp only [← hji6] <;> (first | rfl | simp)) | (simp [*]; done), by repeat (first | exact Drawn0.refl _ | apply Drawn0.step)⟩
      · rw [if_neg c7] at H
        have c7b0 : ((ji6) == a0) = false := beq_eq_false_iff_ne.mpr c7
        have c7b1 : ((ji6) != a0) = true := bne_iff_ne.mpr c7
        obtain rfl := Option.some.inj H
        go_enter Try.func17, Try.ntmps17
        go_wp2_with (first | ((with_reducible refine gate_callee (f := 15) rfl ?_); refine goesL_ (some 8) rfl rfl Try.func15 (by kernel_rfl) rfl #[.int .i64 a0, .int .i64 a1] rfl (by (try simp only [List.map_toArray, List.map_cons, List.map_nil]); first | done | rfl | (simp only [List.length_drop, List.length_take]; rfl)) ?_; (with_reducible refine (fixed_ShiftDown.calls a0 a1 t108 _ A3.out).mono ?_); rintro e w' ⟨rfl, ⟨nd, rfl⟩⟩; refine ⟨_, rfl, ?_⟩))
        go_ret
        exact ⟨by first | rfl | (simp; done) | (simp only [← hji6] <;> (first | rfl | simp)) | (simp [*]; done), by repeat (first | exact Drawn0.refl _ | apply Drawn0.step)⟩
    · rw [if_neg c5] at H
      exact absurd H (by simp)
  · rw [if_neg c4] at H
    have c4b0 : decide (0 ≤ a1) = false := decide_eq_false c4
    clear c4
    obtain rfl := Option.some.inj H
    go_enter Try.func17, Try.ntmps17
    go_wp2_with (first | ((with_reducible refine gate_callee (f := 15) rfl ?_); refine goesL_ (some 8) rfl rfl Try.func15 (by kernel_rfl) rfl #[.int .i64 a0, .int .i64 a1] rfl (by (try simp only [List.map_toArray, List.map_cons, List.map_nil]); first | done | rfl | (simp only [List.length_drop, List.length_take]; rfl)) ?_; (with_reducible refine (fixed_ShiftDown.calls a0 a1 t108 _ A3.out).mono ?_); rintro e w' ⟨rfl, ⟨nd, rfl⟩⟩; refine ⟨_, rfl, ?_⟩))
    go_ret
    exact ⟨by first | rfl | (simp; done) | (simp [*]; done), by repeat (first | exact Drawn0.refl _ | apply Drawn0.step)⟩

/-! ### armplanref1_Ceil: function 35 -/
def armplanref1_Ceil.f (a0 : Int) (a1 : Int) : Option (Int) := if a1 = 0 then (none) else (if (Int.tmod a0 a1) > 0 then (some (wrap64 ((wrap64 (Int.tdiv a0 a1)) + 1))) else (some (wrap64 (Int.tdiv a0 a1))))
set_option maxHeartbeats 8000000 in
set_option maxRecDepth 100000 in
theorem armplanref1_Ceil.calls (a0 : Int) (a1 : Int) (r : Int) (w : World) (h : armplanref1_Ceil.f a0 a1 = some r) :
    Calls Try.prog 35 #[.int .i64 a0, .int .i64 a1] w fun e w' => e = .returned (.int .i64 r) ∧ Drawn0 w w' := by
  have H : (if a1 = 0 then (none) else (if (Int.tmod a0 a1) > 0 then (some (wrap64 ((wrap64 (Int.tdiv a0 a1)) + 1))) else (some (wrap64 (Int.tdiv a0 a1))))) = some r := h
  clear h
  by_cases c3 : a1 = 0
  · rw [if_pos c3] at H
    exact absurd H (by simp)
  · rw [if_neg c3] at H
    have c3b0 : (a1 == 0) = false := beq_eq_false_iff_ne.mpr c3
    have c3b1 : (a1 != 0) = true := bne_iff_ne.mpr c3
    by_cases c4 : (Int.tmod a0 a1) > 0
    · rw [if_pos c4] at H
      have c4b0 : decide (0 < (Int.tmod a0 a1)) = true := decide_eq_true c4
      clear c4
      obtain rfl := Option.some.inj H
      go_enter Try.func35, Try.ntmps35
      go_wp2
      go_ret
      exact ⟨by first | rfl | (simp; done) | (simp [*]; done), by repeat (first | exact Drawn0.refl _ | apply Drawn0.step)⟩
    · rw [if_neg c4] at H
      have c4b0 : decide (0 < (Int.tmod a0 a1)) = false := decide_eq_false c4
      clear c4
      obtain rfl := Option.some.inj H
      go_enter Try.func35, Try.ntmps35
      go_wp2
      go_ret
      exact ⟨by first | rfl | (simp; done) | (simp [*]; done), by repeat (first | exact Drawn0.refl _ | apply Drawn0.step)⟩

/-! ### armplanref1_ShiftUp: function 18 -/
def armplanref1_ShiftUp.l0 : Nat → Int → Int → Int → Option (Int)
  | 0, _, _, _ => none
  | k + 1, x0, x1, x5 => if x5 < x1 then (if x5 < 64 then ((armplanref1_Ceil.f x0 2).bind fun t109 => (armplanref1_ShiftUp.l0 k t109 x1 (wrap64 (x5 + 1)))) else (some x0)) else (some x0)
def armplanref1_ShiftUp.f (k : Nat) (a0 : Int) (a1 : Int) : Option (Int) := armplanref1_ShiftUp.l0 k a0 a1 0
theorem armplanref1_ShiftUp.mono_l : ∀ k, (∀ y0 y1 y2, LeO (armplanref1_ShiftUp.l0 k y0 y1 y2) (armplanref1_ShiftUp.l0 (k + 1) y0 y1 y2))
  | 0 => fun _ _ _ r h => by simp [armplanref1_ShiftUp.l0] at h
  | k + 1 => by
    have ih0 := armplanref1_ShiftUp.mono_l k
    · intro y0 y1 y2
      unfold armplanref1_ShiftUp.l0
      repeat' first
      | (with_reducible exact ih0 _ _ _)
      | (with_reducible exact LeO.refl _)
      | (with_reducible exact LeO.none _)
      | (with_reducible refine LeO.ite ?_ ?_)
      | (with_reducible refine LeO.bind ?_ (fun _ => ?_))
      | exact ih0 _ _ _
      | exact LeO.none _
      | refine LeO.ite ?_ ?_
      | refine LeO.bind ?_ (fun _ => ?_)
theorem armplanref1_ShiftUp.mono : ∀ a0 a1 k, LeO (armplanref1_ShiftUp.f k a0 a1) (armplanref1_ShiftUp.f (k + 1) a0 a1) := by
  intro a0 a1 k
  have ih0 := armplanref1_ShiftUp.mono_l k
  unfold armplanref1_ShiftUp.f
  repeat' first
      | (with_reducible exact ih0 _ _ _)
      | (with_reducible exact LeO.refl _)
      | (with_reducible exact LeO.none _)
      | (with_reducible refine LeO.ite ?_ ?_)
      | (with_reducible refine LeO.bind ?_ (fun _ => ?_))
      | exact ih0 _ _ _
      | exact LeO.none _
      | refine LeO.ite ?_ ?_
      | refine LeO.bind ?_ (fun _ => ?_)
set_option maxHeartbeats 8000000 in
set_option maxRecDepth 100000 in
theorem armplanref1_ShiftUp.calls (k : Nat) (a0 : Int) (a1 : Int) (r : Int) (w : World) (h : armplanref1_ShiftUp.f k a0 a1 = some r) :
    Calls Try.prog 18 #[.int .i64 a0, .int .i64 a1] w fun e w' => e = .returned (.int .i64 r) ∧ Drawn0 w w' := by
  have H : (armplanref1_ShiftUp.l0 k a0 a1 0) = some r := h
  clear h
  have H' := Aside0.mk H
  clear H
  go_enter Try.func18, Try.ntmps18
  go_wp2
  go_loopg [0, 5] k (fun kq v0 v5 w' => ∃ (x0_1 : Int) (x5_1 : Int), v0 = .int .i64 x0_1 ∧ v5 = .int .i64 x5_1 ∧ Aside0 (armplanref1_ShiftUp.l0 kq x0_1 a1 x5_1 = some r) ∧ Aside0 (kq ≤ k) ∧ Drawn0 w w')
  case atStart => exact ⟨(a0), (0), (by first | rfl | (simp; done) | (simp [*]; done)), (by first | rfl | (simp; done) | (simp [*]; done)), H', ⟨Nat.le_refl _⟩, by repeat (first | exact Drawn0.refl _ | apply Drawn0.step)⟩
  case round =>
    clear H'
    try clear c1
    try clear p2
    obtain ⟨x0_1, x5_1, rfl, rfl, HA, HK1, ⟨m1, rfl⟩⟩ := hrel
    cases gk with
    | zero => exact absurd HA.out (by simp [armplanref1_ShiftUp.l0])
    | succ k1 =>
      have H := HA.out
      clear HA
      simp only [armplanref1_ShiftUp.l0] at H
      by_cases c3 : x5_1 < a1
      · rw [if_pos c3] at H
        have c3b0 : decide (x5_1 < a1) = true := decide_eq_true c3
        clear c3
        by_cases c4 : x5_1 < 64
        · rw [if_pos c4] at H
          have c4b0 : decide (x5_1 < 64) = true := decide_eq_true c4
          clear c4
          replace H := Option.bind_eq_some_iff.mp H
          obtain ⟨t109, A50, H⟩ := H
          replace H : (armplanref1_ShiftUp.l0 k1 t109 a1 (wrap64 (x5_1 + 1))) = some r := H
          have A5 := Aside0.mk A50
          clear A50
          have H' := Aside0.mk H
          clear H
          go_wp2_with (first | ((with_reducible refine gate_callee (f := 35) rfl ?_); refine goesL_ (some 16) rfl rfl Try.func35 (by kernel_rfl) rfl #[.int .i64 x0_1, .int .i64 2] rfl (by (try simp only [List.map_toArray, List.map_cons, List.map_nil]); first | done | rfl | (simp only [List.length_drop, List.length_take]; rfl)) ?_; (with_reducible refine (armplanref1_Ceil.calls x0_1 2 t109 _ A5.out).mono ?_); rintro e w' ⟨rfl, ⟨nd, rfl⟩⟩; refine ⟨_, rfl, ?_⟩))
          go_roundg k1
          case measure => have := HK1.out; omega
          case rel => exact ⟨(t109), (wrap64 (x5_1 + 1)), (by first | rfl | (simp; done) | (simp [*]; done)), (by first | rfl | (simp; done) | (simp [*]; done)), H', ⟨by have := HK1.out; omega⟩, by repeat (first | exact Drawn0.refl _ | apply Drawn0.step)⟩
        · rw [if_neg c4] at H
          have c4b0 : decide (x5_1 < 64) = false := decide_eq_false c4
          clear c4
          obtain rfl := Option.some.inj H
          go_wp2
          go_ret
          exact ⟨by first | rfl | (simp; done) | (simp [*]; done), by repeat (first | exact Drawn0.refl _ | apply Drawn0.step)⟩
      · rw [if_neg c3] at H
        have c3b0 : decide (x5_1 < a1) = false := decide_eq_false c3
        clear c3
        obtain rfl := Option.some.inj H
        go_wp2
        go_ret
        exact ⟨by first | rfl | (simp; done) | (simp [*]; done), by repeat (first | exact Drawn0.refl _ | apply Drawn0.step)⟩

/-! ### armplanlaw1_FixedShifts: function 4 -/
def armplanlaw1_FixedShifts.f (k : Nat) (a0 : Int) (a1 : Int) (a2 : Int) (a3 : Int) : Option (Bool) := (armplanlaw1_awake.f k).bind fun t110 => (if t110 = true then ((fixed_ShiftDown.f a0 a1).bind fun t111 => ((armplanref1_ShiftDown.f k a0 a1).bind fun t112 => (if t111 = t112 then ((fixed_ShiftUp.f a0 a1).bind fun t113 => ((armplanref1_ShiftUp.f k a0 a1).bind fun t114 => (if t113 = t114 then ((fixed_ShiftDown.f a0 (wrap64 (Int.tmod a2 64))).bind fun t115 => ((fixed_ShiftDown.f t115 (wrap64 (Int.tmod a3 64))).bind fun t116 => ((fixed_ShiftDown.f a0 (wrap64 ((wrap64 (Int.tmod a2 64)) + (wrap64 (Int.tmod a3 64))))).bind fun t117 => (if t116 = t117 then ((fixed_ShiftUp.f a0 (wrap64 (Int.tmod a2 64))).bind fun t118 => ((fixed_ShiftUp.f t118 (wrap64 (Int.tmod a3 64))).bind fun t119 => ((armplanref1_ShiftUp.f k a0 (wrap64 ((wrap64 (Int.tmod a2 64)) + (wrap64 (Int.tmod a3 64))))).bind fun t120 => (some (t119 == t120))))) else (some false))))) else (some false)))) else (some false)))) else (some false))
theorem armplanlaw1_FixedShifts.mono : ∀ a0 a1 a2 a3 k, LeO (armplanlaw1_FixedShifts.f k a0 a1 a2 a3) (armplanlaw1_FixedShifts.f (k + 1) a0 a1 a2 a3) := by
  intro a0 a1 a2 a3 k
  unfold armplanlaw1_FixedShifts.f
  repeat' first
      | (with_reducible exact armplanlaw1_awake.mono _)
      | (with_reducible exact armplanref1_ShiftDown.mono _ _ _)
      | (with_reducible exact armplanref1_ShiftUp.mono _ _ _)
      | (with_reducible exact LeO.refl _)
      | (with_reducible exact LeO.none _)
      | (with_reducible refine LeO.ite ?_ ?_)
      | (with_reducible refine LeO.bind ?_ (fun _ => ?_))
      | exact armplanlaw1_awake.mono _
      | exact armplanref1_ShiftDown.mono _ _ _
      | exact armplanref1_ShiftUp.mono _ _ _
      | exact LeO.none _
      | refine LeO.ite ?_ ?_
      | refine LeO.bind ?_ (fun _ => ?_)
set_option maxHeartbeats 8000000 in
set_option maxRecDepth 100000 in
theorem armplanlaw1_FixedShifts.calls (k : Nat) (a0 : Int) (a1 : Int) (a2 : Int) (a3 : Int) (r : Bool) (w : World) (h : armplanlaw1_FixedShifts.f k a0 a1 a2 a3 = some r) :
    Calls Try.prog 4 #[.int .i64 a0, .int .i64 a1, .int .u8 a2, .int .u8 a3] w fun e w' => e = .returned (.bool r) ∧ Below w.heap.size w w' := by
  have HB := Aside0.mk (Below.refl w.heap.size w)
  have H : ((armplanlaw1_awake.f k).bind fun t110 => (if t110 = true then ((fixed_ShiftDown.f a0 a1).bind fun t111 => ((armplanref1_ShiftDown.f k a0 a1).bind fun t112 => (if t111 = t112 then ((fixed_ShiftUp.f a0 a1).bind fun t113 => ((armplanref1_ShiftUp.f k a0 a1).bind fun t114 => (if t113 = t114 then ((fixed_ShiftDown.f a0 (wrap64 (Int.tmod a2 64))).bind fun t115 => ((fixed_ShiftDown.f t115 (wrap64 (Int.tmod a3 64))).bind fun t116 => ((fixed_ShiftDown.f a0 (wrap64 ((wrap64 (Int.tmod a2 64)) + (wrap64 (Int.tmod a3 64))))).bind fun t117 => (if t116 = t117 then ((fixed_ShiftUp.f a0 (wrap64 (Int.tmod a2 64))).bind fun t118 => ((fixed_ShiftUp.f t118 (wrap64 (Int.tmod a3 64))).bind fun t119 => ((armplanref1_ShiftUp.f k a0 (wrap64 ((wrap64 (Int.tmod a2 64)) + (wrap64 (Int.tmod a3 64))))).bind fun t120 => (some (t119 == t120))))) else (some false))))) else (some false)))) else (some false)))) else (some false))) = some r := h
  clear h
  replace H := Option.bind_eq_some_iff.mp H
  obtain ⟨t110, A50, H⟩ := H
  replace H : (if t110 = true then ((fixed_ShiftDown.f a0 a1).bind fun t111 => ((armplanref1_ShiftDown.f k a0 a1).bind fun t112 => (if t111 = t112 then ((fixed_ShiftUp.f a0 a1).bind fun t113 => ((armplanref1_ShiftUp.f k a0 a1).bind fun t114 => (if t113 = t114 then ((fixed_ShiftDown.f a0 (wrap64 (Int.tmod a2 64))).bind fun t115 => ((fixed_ShiftDown.f t115 (wrap64 (Int.tmod a3 64))).bind fun t116 => ((fixed_ShiftDown.f a0 (wrap64 ((wrap64 (Int.tmod a2 64)) + (wrap64 (Int.tmod a3 64))))).bind fun t117 => (if t116 = t117 then ((fixed_ShiftUp.f a0 (wrap64 (Int.tmod a2 64))).bind fun t118 => ((fixed_ShiftUp.f t118 (wrap64 (Int.tmod a3 64))).bind fun t119 => ((armplanref1_ShiftUp.f k a0 (wrap64 ((wrap64 (Int.tmod a2 64)) + (wrap64 (Int.tmod a3 64))))).bind fun t120 => (some (t119 == t120))))) else (some false))))) else (some false)))) else (some false)))) else (some false)) = some r := H
  have A5 := Aside0.mk A50
  clear A50
  by_cases c6 : t110 = true
  · subst c6
    have H1 : ((fixed_ShiftDown.f a0 a1).bind fun t111 => ((armplanref1_ShiftDown.f k a0 a1).bind fun t112 => (if t111 = t112 then ((fixed_ShiftUp.f a0 a1).bind fun t113 => ((armplanref1_ShiftUp.f k a0 a1).bind fun t114 => (if t113 = t114 then ((fixed_ShiftDown.f a0 (wrap64 (Int.tmod a2 64))).bind fun t115 => ((fixed_ShiftDown.f t115 (wrap64 (Int.tmod a3 64))).bind fun t116 => ((fixed_ShiftDown.f a0 (wrap64 ((wrap64 (Int.tmod a2 64)) + (wrap64 (Int.tmod a3 64))))).bind fun t117 => (if t116 = t117 then ((fixed_ShiftUp.f a0 (wrap64 (Int.tmod a2 64))).bind fun t118 => ((fixed_ShiftUp.f t118 (wrap64 (Int.tmod a3 64))).bind fun t119 => ((armplanref1_ShiftUp.f k a0 (wrap64 ((wrap64 (Int.tmod a2 64)) + (wrap64 (Int.tmod a3 64))))).bind fun t120 => (some (t119 == t120))))) else (some false))))) else (some false)))) else (some false)))) = some r := by rw [if_pos rfl] at H; exact H
    clear H
    have H := H1
    clear H1
    replace H := Option.bind_eq_some_iff.mp H
    obtain ⟨t111, A70, H⟩ := H
    replace H : ((armplanref1_ShiftDown.f k a0 a1).bind fun t112 => (if t111 = t112 then ((fixed_ShiftUp.f a0 a1).bind fun t113 => ((armplanref1_ShiftUp.f k a0 a1).bind fun t114 => (if t113 = t114 then ((fixed_ShiftDown.f a0 (wrap64 (Int.tmod a2 64))).bind fun t115 => ((fixed_ShiftDown.f t115 (wrap64 (Int.tmod a3 64))).bind fun t116 => ((fixed_ShiftDown.f a0 (wrap64 ((wrap64 (Int.tmod a2 64)) + (wrap64 (Int.tmod a3 64))))).bind fun t117 => (if t116 = t117 then ((fixed_ShiftUp.f a0 (wrap64 (Int.tmod a2 64))).bind fun t118 => ((fixed_ShiftUp.f t118 (wrap64 (Int.tmod a3 64))).bind fun t119 => ((armplanref1_ShiftUp.f k a0 (wrap64 ((wrap64 (Int.tmod a2 64)) + (wrap64 (Int.tmod a3 64))))).bind fun t120 => (some (t119 == t120))))) else (some false))))) else (some false)))) else (some false))) = some r := H
    have A7 := Aside0.mk A70
    clear A70
    replace H := Option.bind_eq_some_iff.mp H
    obtain ⟨t112, A80, H⟩ := H
    replace H : (if t111 = t112 then ((fixed_ShiftUp.f a0 a1).bind fun t113 => ((armplanref1_ShiftUp.f k a0 a1).bind fun t114 => (if t113 = t114 then ((fixed_ShiftDown.f a0 (wrap64 (Int.tmod a2 64))).bind fun t115 => ((fixed_ShiftDown.f t115 (wrap64 (Int.tmod a3 64))).bind fun t116 => ((fixed_ShiftDown.f a0 (wrap64 ((wrap64 (Int.tmod a2 64)) + (wrap64 (Int.tmod a3 64))))).bind fun t117 => (if t116 = t117 then ((fixed_ShiftUp.f a0 (wrap64 (Int.tmod a2 64))).bind fun t118 => ((fixed_ShiftUp.f t118 (wrap64 (Int.tmod a3 64))).bind fun t119 => ((armplanref1_ShiftUp.f k a0 (wrap64 ((wrap64 (Int.tmod a2 64)) + (wrap64 (Int.tmod a3 64))))).bind fun t120 => (some (t119 == t120))))) else (some false))))) else (some false)))) else (some false)) = some r := H
    have A8 := Aside0.mk A80
    clear A80
    by_cases c9 : t111 = t112
    · rw [if_pos c9] at H
      have c9b0 : (t111 == t112) = true := beq_iff_eq.mpr c9
      have c9b1 : (t111 != t112) = false := bne_eq_false_iff_eq.mpr c9
      clear c9
      replace H := Option.bind_eq_some_iff.mp H
      obtain ⟨t113, A100, H⟩ := H
      replace H : ((armplanref1_ShiftUp.f k a0 a1).bind fun t114 => (if t113 = t114 then ((fixed_ShiftDown.f a0 (wrap64 (Int.tmod a2 64))).bind fun t115 => ((fixed_ShiftDown.f t115 (wrap64 (Int.tmod a3 64))).bind fun t116 => ((fixed_ShiftDown.f a0 (wrap64 ((wrap64 (Int.tmod a2 64)) + (wrap64 (Int.tmod a3 64))))).bind fun t117 => (if t116 = t117 then ((fixed_ShiftUp.f a0 (wrap64 (Int.tmod a2 64))).bind fun t118 => ((fixed_ShiftUp.f t118 (wrap64 (Int.tmod a3 64))).bind fun t119 => ((armplanref1_ShiftUp.f k a0 (wrap64 ((wrap64 (Int.tmod a2 64)) + (wrap64 (Int.tmod a3 64))))).bind fun t120 => (some (t119 == t120))))) else (some false))))) else (some false))) = some r := H
      have A10 := Aside0.mk A100
      clear A100
      replace H := Option.bind_eq_some_iff.mp H
      obtain ⟨t114, A110, H⟩ := H
      replace H : (if t113 = t114 then ((fixed_ShiftDown.f a0 (wrap64 (Int.tmod a2 64))).bind fun t115 => ((fixed_ShiftDown.f t115 (wrap64 (Int.tmod a3 64))).bind fun t116 => ((fixed_ShiftDown.f a0 (wrap64 ((wrap64 (Int.tmod a2 64)) + (wrap64 (Int.tmod a3 64))))).bind fun t117 => (if t116 = t117 then ((fixed_ShiftUp.f a0 (wrap64 (Int.tmod a2 64))).bind fun t118 => ((fixed_ShiftUp.f t118 (wrap64 (Int.tmod a3 64))).bind fun t119 => ((armplanref1_ShiftUp.f k a0 (wrap64 ((wrap64 (Int.tmod a2 64)) + (wrap64 (Int.tmod a3 64))))).bind fun t120 => (some (t119 == t120))))) else (some false))))) else (some false)) = some r := H
      have A11 := Aside0.mk A110
      clear A110
      by_cases c12 : t113 = t114
      · rw [if_pos c12] at H
        have c12b0 : (t113 == t114) = true := beq_iff_eq.mpr c12
        have c12b1 : (t113 != t114) = false := bne_eq_false_iff_eq.mpr c12
        clear c12
        replace H := Option.bind_eq_some_iff.mp H
        obtain ⟨t115, A130, H⟩ := H
        replace H : ((fixed_ShiftDown.f t115 (wrap64 (Int.tmod a3 64))).bind fun t116 => ((fixed_ShiftDown.f a0 (wrap64 ((wrap64 (Int.tmod a2 64)) + (wrap64 (Int.tmod a3 64))))).bind fun t117 => (if t116 = t117 then ((fixed_ShiftUp.f a0 (wrap64 (Int.tmod a2 64))).bind fun t118 => ((fixed_ShiftUp.f t118 (wrap64 (Int.tmod a3 64))).bind fun t119 => ((armplanref1_ShiftUp.f k a0 (wrap64 ((wrap64 (Int.tmod a2 64)) + (wrap64 (Int.tmod a3 64))))).bind fun t120 => (some (t119 == t120))))) else (some false)))) = some r := H
        have A13 := Aside0.mk A130
        clear A130
        replace H := Option.bind_eq_some_iff.mp H
        obtain ⟨t116, A140, H⟩ := H
        replace H : ((fixed_ShiftDown.f a0 (wrap64 ((wrap64 (Int.tmod a2 64)) + (wrap64 (Int.tmod a3 64))))).bind fun t117 => (if t116 = t117 then ((fixed_ShiftUp.f a0 (wrap64 (Int.tmod a2 64))).bind fun t118 => ((fixed_ShiftUp.f t118 (wrap64 (Int.tmod a3 64))).bind fun t119 => ((armplanref1_ShiftUp.f k a0 (wrap64 ((wrap64 (Int.tmod a2 64)) + (wrap64 (Int.tmod a3 64))))).bind fun t120 => (some (t119 == t120))))) else (some false))) = some r := H
        have A14 := Aside0.mk A140
        clear A140
        replace H := Option.bind_eq_some_iff.mp H
        obtain ⟨t117, A150, H⟩ := H
        replace H : (if t116 = t117 then ((fixed_ShiftUp.f a0 (wrap64 (Int.tmod a2 64))).bind fun t118 => ((fixed_ShiftUp.f t118 (wrap64 (Int.tmod a3 64))).bind fun t119 => ((armplanref1_ShiftUp.f k a0 (wrap64 ((wrap64 (Int.tmod a2 64)) + (wrap64 (Int.tmod a3 64))))).bind fun t120 => (some (t119 == t120))))) else (some false)) = some r := H
        have A15 := Aside0.mk A150
        clear A150
        by_cases c16 : t116 = t117
        · rw [if_pos c16] at H
          have c16b0 : (t116 == t117) = true := beq_iff_eq.mpr c16
          have c16b1 : (t116 != t117) = false := bne_eq_false_iff_eq.mpr c16
          clear c16
          replace H := Option.bind_eq_some_iff.mp H
          obtain ⟨t118, A170, H⟩ := H
          replace H : ((fixed_ShiftUp.f t118 (wrap64 (Int.tmod a3 64))).bind fun t119 => ((armplanref1_ShiftUp.f k a0 (wrap64 ((wrap64 (Int.tmod a2 64)) + (wrap64 (Int.tmod a3 64))))).bind fun t120 => (some (t119 == t120)))) = some r := H
          have A17 := Aside0.mk A170
          clear A170
          replace H := Option.bind_eq_some_iff.mp H
          obtain ⟨t119, A180, H⟩ := H
          replace H : ((armplanref1_ShiftUp.f k a0 (wrap64 ((wrap64 (Int.tmod a2 64)) + (wrap64 (Int.tmod a3 64))))).bind fun t120 => (some (t119 == t120))) = some r := H
          have A18 := Aside0.mk A180
          clear A180
          replace H := Option.bind_eq_some_iff.mp H
          obtain ⟨t120, A190, H⟩ := H
          replace H : (some (t119 == t120)) = some r := H
          have A19 := Aside0.mk A190
          clear A190
          obtain rfl := Option.some.inj H
          go_enter Try.func4, Try.ntmps4
          go_wp2_with (first | ((with_reducible refine gate_callee (f := 14) rfl ?_); refine goesL_ (some 17) rfl rfl Try.func14 (by kernel_rfl) rfl #[] rfl (by (try simp only [List.map_toArray, List.map_cons, List.map_nil]); first | done | rfl | (simp only [List.length_drop, List.length_take]; rfl)) ?_; (with_reducible refine (armplanlaw1_awake.calls k  true _ A5.out).mono ?_); rintro e w20 ⟨rfl, hb⟩; refine ⟨_, rfl, ?_⟩; have n0_ := Aside0.mk (below_step (by repeat (first | (with_reducible first | exact HB.out | apply below_alloc | apply pw_below_drewN | apply below_drew1) | exact HB.out)) hb); clear HB; have HB := n0_; clear n0_; (try clear hb); (try clear hb2); (try clear hk); (try clear hi)) | (go_at_call 15; (with_reducible refine (fixed_ShiftDown.calls a0 a1 t111 _ A7.out).mono ?_); rintro e w' ⟨rfl, ⟨nd, rfl⟩⟩) | (go_at_call 16; (with_reducible refine (armplanref1_ShiftDown.calls k a0 a1 t112 _ A8.out).mono ?_); rintro e w' ⟨rfl, ⟨nd, rfl⟩⟩) | (go_at_call 17; (with_reducible refine (fixed_ShiftUp.calls a0 a1 t113 _ A10.out).mono ?_); rintro e w' ⟨rfl, ⟨nd, rfl⟩⟩) | (go_at_call 18; (with_reducible refine (armplanref1_ShiftUp.calls k a0 a1 t114 _ A11.out).mono ?_); rintro e w' ⟨rfl, ⟨nd, rfl⟩⟩) | (go_at_call 15; (with_reducible refine (fixed_ShiftDown.calls a0 (wrap64 (Int.tmod a2 64)) t115 _ A13.out).mono ?_); rintro e w' ⟨rfl, ⟨nd, rfl⟩⟩) | (go_at_call 15; (with_reducible refine (fixed_ShiftDown.calls t115 (wrap64 (Int.tmod a3 64)) t116 _ A14.out).mono ?_); rintro e w' ⟨rfl, ⟨nd, rfl⟩⟩) | (go_at_call 15; (with_reducible refine (fixed_ShiftDown.calls a0 (wrap64 ((wrap64 (Int.tmod a2 64)) + (wrap64 (Int.tmod a3 64)))) t117 _ A15.out).mono ?_); rintro e w' ⟨rfl, ⟨nd, rfl⟩⟩) | (go_at_call 17; (with_reducible refine (fixed_ShiftUp.calls a0 (wrap64 (Int.tmod a2 64)) t118 _ A17.out).mono ?_); rintro e w' ⟨rfl, ⟨nd, rfl⟩⟩) | (go_at_call 17; (with_reducible refine (fixed_ShiftUp.calls t118 (wrap64 (Int.tmod a3 64)) t119 _ A18.out).mono ?_); rintro e w' ⟨rfl, ⟨nd, rfl⟩⟩) | (go_at_call 18; (with_reducible refine (armplanref1_ShiftUp.calls k a0 (wrap64 ((wrap64 (Int.tmod a2 64)) + (wrap64 (Int.tmod a3 64)))) t120 _ A19.out).mono ?_); rintro e w' ⟨rfl, ⟨nd, rfl⟩⟩))
          go_ret
          exact ⟨by first | rfl | (simp [errW_none, errW_some] <;> rfl) | (simp [*, errW_none, errW_some] <;> rfl), by repeat (first | (with_reducible first | exact HB.out | apply below_alloc | apply pw_below_drewN | apply below_drew1) | exact HB.out)⟩
        · rw [if_neg c16] at H
          have c16b0 : (t116 == t117) = false := beq_eq_false_iff_ne.mpr c16
          have c16b1 : (t116 != t117) = true := bne_iff_ne.mpr c16
          obtain rfl := Option.some.inj H
          go_enter Try.func4, Try.ntmps4
          go_wp2_with (first | ((with_reducible refine gate_callee (f := 14) rfl ?_); refine goesL_ (some 17) rfl rfl Try.func14 (by kernel_rfl) rfl #[] rfl (by (try simp only [List.map_toArray, List.map_cons, List.map_nil]); first | done | rfl | (simp only [List.length_drop, List.length_take]; rfl)) ?_; (with_reducible refine (armplanlaw1_awake.calls k  true _ A5.out).mono ?_); rintro e w21 ⟨rfl, hb⟩; refine ⟨_, rfl, ?_⟩; have n0_ := Aside0.mk (below_step (by repeat (first | (with_reducible first | exact HB.out | apply below_alloc | apply pw_below_drewN | apply below_drew1) | exact HB.out)) hb); clear HB; have HB := n0_; clear n0_; (try clear hb); (try clear hb2); (try clear hk); (try clear hi)) | (go_at_call 15; (with_reducible refine (fixed_ShiftDown.calls a0 a1 t111 _ A7.out).mono ?_); rintro e w' ⟨rfl, ⟨nd, rfl⟩⟩) | (go_at_call 16; (with_reducible refine (armplanref1_ShiftDown.calls k a0 a1 t112 _ A8.out).mono ?_); rintro e w' ⟨rfl, ⟨nd, rfl⟩⟩) | (go_at_call 17; (with_reducible refine (fixed_ShiftUp.calls a0 a1 t113 _ A10.out).mono ?_); rintro e w' ⟨rfl, ⟨nd, rfl⟩⟩) | (go_at_call 18; (with_reducible refine (armplanref1_ShiftUp.calls k a0 a1 t114 _ A11.out).mono ?_); rintro e w' ⟨rfl, ⟨nd, rfl⟩⟩) | (go_at_call 15; (with_reducible refine (fixed_ShiftDown.calls a0 (wrap64 (Int.tmod a2 64)) t115 _ A13.out).mono ?_); rintro e w' ⟨rfl, ⟨nd, rfl⟩⟩) | (go_at_call 15; (with_reducible refine (fixed_ShiftDown.calls t115 (wrap64 (Int.tmod a3 64)) t116 _ A14.out).mono ?_); rintro e w' ⟨rfl, ⟨nd, rfl⟩⟩) | (go_at_call 15; (with_reducible refine (fixed_ShiftDown.calls a0 (wrap64 ((wrap64 (Int.tmod a2 64)) + (wrap64 (Int.tmod a3 64)))) t117 _ A15.out).mono ?_); rintro e w' ⟨rfl, ⟨nd, rfl⟩⟩))
          go_ret
          exact ⟨by first | rfl | (simp [errW_none, errW_some] <;> rfl) | (simp [*, errW_none, errW_some] <;> rfl), by repeat (first | (with_reducible first | exact HB.out | apply below_alloc | apply pw_below_drewN | apply below_drew1) | exact HB.out)⟩
      · rw [if_neg c12] at H
        have c12b0 : (t113 == t114) = false := beq_eq_false_iff_ne.mpr c12
        have c12b1 : (t113 != t114) = true := bne_iff_ne.mpr c12
        obtain rfl := Option.some.inj H
        go_enter Try.func4, Try.ntmps4
        go_wp2_with (first | ((with_reducible refine gate_callee (f := 14) rfl ?_); refine goesL_ (some 17) rfl rfl Try.func14 (by kernel_rfl) rfl #[] rfl (by (try simp only [List.map_toArray, List.map_cons, List.map_nil]); first | done | rfl | (simp only [List.length_drop, List.length_take]; rfl)) ?_; (with_reducible refine (armplanlaw1_awake.calls k  true _ A5.out).mono ?_); rintro e w22 ⟨rfl, hb⟩; refine ⟨_, rfl, ?_⟩; have n0_ := Aside0.mk (below_step (by repeat (first | (with_reducible first | exact HB.out | apply below_alloc | apply pw_below_drewN | apply below_drew1) | exact HB.out)) hb); clear HB; have HB := n0_; clear n0_; (try clear hb); (try clear hb2); (try clear hk); (try clear hi)) | (go_at_call 15; (with_reducible refine (fixed_ShiftDown.calls a0 a1 t111 _ A7.out).mono ?_); rintro e w' ⟨rfl, ⟨nd, rfl⟩⟩) | (go_at_call 16; (with_reducible refine (armplanref1_ShiftDown.calls k a0 a1 t112 _ A8.out).mono ?_); rintro e w' ⟨rfl, ⟨nd, rfl⟩⟩) | (go_at_call 17; (with_reducible refine (fixed_ShiftUp.calls a0 a1 t113 _ A10.out).mono ?_); rintro e w' ⟨rfl, ⟨nd, rfl⟩⟩) | (go_at_call 18; (with_reducible refine (armplanref1_ShiftUp.calls k a0 a1 t114 _ A11.out).mono ?_); rintro e w' ⟨rfl, ⟨nd, rfl⟩⟩))
        go_ret
        exact ⟨by first | rfl | (simp [errW_none, errW_some] <;> rfl) | (simp [*, errW_none, errW_some] <;> rfl), by repeat (first | (with_reducible first | exact HB.out | apply below_alloc | apply pw_below_drewN | apply below_drew1) | exact HB.out)⟩
    · rw [if_neg c9] at H
      have c9b0 : (t111 == t112) = false := beq_eq_false_iff_ne.mpr c9
      have c9b1 : (t111 != t112) = true := bne_iff_ne.mpr c9
      obtain rfl := Option.some.inj H
      go_enter Try.func4, Try.ntmps4
      go_wp2_with (first | ((with_reducible refine gate_callee (f := 14) rfl ?_); refine goesL_ (some 17) rfl rfl Try.func14 (by kernel_rfl) rfl #[] rfl (by (try simp only [List.map_toArray, List.map_cons, List.map_nil]); first | done | rfl | (simp only [List.length_drop, List.length_take]; rfl)) ?_; (with_reducible refine (armplanlaw1_awake.calls k  true _ A5.out).mono ?_); rintro e w23 ⟨rfl, hb⟩; refine ⟨_, rfl, ?_⟩; have n0_ := Aside0.mk (below_step (by repeat (first | (with_reducible first | exact HB.out | apply below_alloc | apply pw_below_drewN | apply below_drew1) | exact HB.out)) hb); clear HB; have HB := n0_; clear n0_; (try clear hb); (try clear hb2); (try clear hk); (try clear hi)) | (go_at_call 15; (with_reducible refine (fixed_ShiftDown.calls a0 a1 t111 _ A7.out).mono ?_); rintro e w' ⟨rfl, ⟨nd, rfl⟩⟩) | (go_at_call 16; (with_reducible refine (armplanref1_ShiftDown.calls k a0 a1 t112 _ A8.out).mono ?_); rintro e w' ⟨rfl, ⟨nd, rfl⟩⟩))
      go_ret
      exact ⟨by first | rfl | (simp [errW_none, errW_some] <;> rfl) | (simp [*, errW_none, errW_some] <;> rfl), by repeat (first | (with_reducible first | exact HB.out | apply below_alloc | apply pw_below_drewN | apply below_drew1) | exact HB.out)⟩
  · replace c6 := Bool.eq_false_iff.mpr c6
    subst c6
    have H1 : (some false) = some r := by rw [if_neg (show ¬ (false = true) by decide)] at H; exact H
    clear H
    have H := H1
    clear H1
    obtain rfl := Option.some.inj H
    go_enter Try.func4, Try.ntmps4
    go_wp2_with (first | ((with_reducible refine gate_callee (f := 14) rfl ?_); refine goesL_ (some 17) rfl rfl Try.func14 (by kernel_rfl) rfl #[] rfl (by (try simp only [List.map_toArray, List.map_cons, List.map_nil]); first | done | rfl | (simp only [List.length_drop, List.length_take]; rfl)) ?_; (with_reducible refine (armplanlaw1_awake.calls k  false _ A5.out).mono ?_); rintro e w24 ⟨rfl, hb⟩; refine ⟨_, rfl, ?_⟩; have n0_ := Aside0.mk (below_step (by repeat (first | (with_reducible first | exact HB.out | apply below_alloc | apply pw_below_drewN | apply below_drew1) | exact HB.out)) hb); clear HB; have HB := n0_; clear n0_; (try clear hb); (try clear hb2); (try clear hk); (try clear hi)))
    go_ret
    exact ⟨by first | rfl | (simp [errW_none, errW_some] <;> rfl) | (simp [*, errW_none, errW_some] <;> rfl), by repeat (first | (with_reducible first | exact HB.out | apply below_alloc | apply pw_below_drewN | apply below_drew1) | exact HB.out)⟩

/-- THE ONE PURE STATEMENT of armplanlaw1_FixedShifts: yours. -/
def armplanlaw1_FixedShifts.Pure : Prop := ∀ (a0 : Int) (a1 : Int) (a2 : Int) (a3 : Int), (Lit.int .i64 a0).wf = true → (Lit.int .i64 a1).wf = true → (Lit.int .u8 a2).wf = true → (Lit.int .u8 a3).wf = true → ∃ k, armplanlaw1_FixedShifts.f k a0 a1 a2 a3 = some true
theorem armplanlaw1_FixedShifts.walk (P : armplanlaw1_FixedShifts.Pure) (a0 : Int) (a1 : Int) (a2 : Int) (a3 : Int) (w : World) (w0 : (Lit.int .i64 a0).wf = true) (w1 : (Lit.int .i64 a1).wf = true) (w2 : (Lit.int .u8 a2).wf = true) (w3 : (Lit.int .u8 a3).wf = true) :
    Calls Try.prog 4 #[.int .i64 a0, .int .i64 a1, .int .u8 a2, .int .u8 a3] w fun e w' => e = .returned (.bool true) ∧ Below w.heap.size w w' := by
  obtain ⟨k, h⟩ := P a0 a1 a2 a3 w0 w1 w2 w3
  refine (armplanlaw1_FixedShifts.calls k a0 a1 a2 a3 true w h).mono ?_
  rintro e w' ⟨rfl, hd⟩
  exact ⟨rfl, hd⟩

end Go.Proofs.Ytdeajnmheebghaa.PFixedShifts
