-- PRINTED BY print.sh 35421559b90ae4d0a3588c463048766b98c2df88dd9212a6774a882060cdf62d: not written by this session
import Derived.Test.YtdeajnmheebghaaPFixedRootsx0
import Derived.Test.YtdeajnmheebghaaPFixedRootsx1
namespace Go.Proofs.Ytdeajnmheebghaa.PFixedRoots
open Go.RowKit Go.Proofs.YtdeajnmheebghaaW.PrintWords Go.Proofs.YtdeajnmheebghaaW.PrintLast Go.Proofs.YtdeajnmheebghaaW.PrintMore
attribute [local go_sem] max2_int min2_int max_two min_two max_three min_three max_four min_four   -- for this text's walks alone
set_option linter.unusedVariables false
set_option linter.unusedSimpArgs false

/-! ### armplanlaw1_FixedRoots: function 8 -/
def armplanlaw1_FixedRoots.f (k : Nat) (a0 : Int) (a1 : Int) : Option (Bool) := if 0 ≤ (Int.tmod a1 64) then ((armplanlaw1_awake.f k).bind fun t117 => (if t117 = true then ((fixed_Root.f k a0).bind fun t118 => ((armplanref1_Root.f k a0).bind fun t119 => (if t118 = t119 then ((fixed_Root.f k (shr .i64 a0 (Int.tmod a1 64))).bind fun t120 => ((armplanref1_Root.f k (shr .i64 a0 (Int.tmod a1 64))).bind fun t121 => (if t120 = t121 then ((fixed_RootUp.f k a0).bind fun t122 => ((armplanref1_RootUp.f k a0).bind fun t123 => (if t122 = t123 then ((fixed_RootUp.f k (shr .i64 a0 (Int.tmod a1 64))).bind fun t124 => ((armplanref1_RootUp.f k (shr .i64 a0 (Int.tmod a1 64))).bind fun t125 => (if t124 = t125 then ((fixed_SqrtDown.f k a0).bind fun t126 => ((armplanref1_SqrtDown.f k a0).bind fun t127 => (if t126 = t127 then ((fixed_SqrtDown.f k (shr .i64 a0 (Int.tmod a1 64))).bind fun t128 => ((armplanref1_SqrtDown.f k (shr .i64 a0 (Int.tmod a1 64))).bind fun t129 => (if t128 = t129 then ((fixed_SqrtUp.f k a0).bind fun t130 => ((armplanref1_SqrtUp.f k a0).bind fun t131 => (if t130 = t131 then ((fixed_SqrtUp.f k (shr .i64 a0 (Int.tmod a1 64))).bind fun t132 => ((armplanref1_SqrtUp.f k (shr .i64 a0 (Int.tmod a1 64))).bind fun t133 => (some (t132 == t133)))) else (some false)))) else (some false)))) else (some false)))) else (some false)))) else (some false)))) else (some false)))) else (some false)))) else (some false))) else (none)
theorem armplanlaw1_FixedRoots.mono : ∀ a0 a1 k, LeO (armplanlaw1_FixedRoots.f k a0 a1) (armplanlaw1_FixedRoots.f (k + 1) a0 a1) := by
  intro a0 a1 k
  unfold armplanlaw1_FixedRoots.f
  repeat' first
      | (with_reducible exact armplanlaw1_awake.mono _)
      | (with_reducible exact armplanref1_Root.mono _ _)
      | (with_reducible exact armplanref1_RootUp.mono _ _)
      | (with_reducible exact armplanref1_SqrtDown.mono _ _)
      | (with_reducible exact armplanref1_SqrtUp.mono _ _)
      | (with_reducible exact fixed_Root.mono _ _)
      | (with_reducible exact fixed_RootUp.mono _ _)
      | (with_reducible exact fixed_SqrtDown.mono _ _)
      | (with_reducible exact fixed_SqrtUp.mono _ _)
      | (with_reducible exact LeO.refl _)
      | (with_reducible exact LeO.none _)
      | (with_reducible refine LeO.ite ?_ ?_)
      | (with_reducible refine LeO.bind ?_ (fun _ => ?_))
      | exact armplanlaw1_awake.mono _
      | exact armplanref1_Root.mono _ _
      | exact armplanref1_RootUp.mono _ _
      | exact armplanref1_SqrtDown.mono _ _
      | exact armplanref1_SqrtUp.mono _ _
      | exact fixed_Root.mono _ _
      | exact fixed_RootUp.mono _ _
      | exact fixed_SqrtDown.mono _ _
      | exact fixed_SqrtUp.mono _ _
      | exact LeO.none _
      | refine LeO.ite ?_ ?_
      | refine LeO.bind ?_ (fun _ => ?_)
set_option maxHeartbeats 8000000 in
set_option maxRecDepth 100000 in
theorem armplanlaw1_FixedRoots.calls (k : Nat) (a0 : Int) (a1 : Int) (r : Bool) (w : World) (h : armplanlaw1_FixedRoots.f k a0 a1 = some r) :
    Calls Try.prog 8 #[.int .i64 a0, .int .u8 a1] w fun e w' => e = .returned (.bool r) ∧ Below w.heap.size w w' := by
  have HB := Aside0.mk (Below.refl w.heap.size w)
  have H : (if 0 ≤ (Int.tmod a1 64) then ((armplanlaw1_awake.f k).bind fun t117 => (if t117 = true then ((fixed_Root.f k a0).bind fun t118 => ((armplanref1_Root.f k a0).bind fun t119 => (if t118 = t119 then ((fixed_Root.f k (shr .i64 a0 (Int.tmod a1 64))).bind fun t120 => ((armplanref1_Root.f k (shr .i64 a0 (Int.tmod a1 64))).bind fun t121 => (if t120 = t121 then ((fixed_RootUp.f k a0).bind fun t122 => ((armplanref1_RootUp.f k a0).bind fun t123 => (if t122 = t123 then ((fixed_RootUp.f k (shr .i64 a0 (Int.tmod a1 64))).bind fun t124 => ((armplanref1_RootUp.f k (shr .i64 a0 (Int.tmod a1 64))).bind fun t125 => (if t124 = t125 then ((fixed_SqrtDown.f k a0).bind fun t126 => ((armplanref1_SqrtDown.f k a0).bind fun t127 => (if t126 = t127 then ((fixed_SqrtDown.f k (shr .i64 a0 (Int.tmod a1 64))).bind fun t128 => ((armplanref1_SqrtDown.f k (shr .i64 a0 (Int.tmod a1 64))).bind fun t129 => (if t128 = t129 then ((fixed_SqrtUp.f k a0).bind fun t130 => ((armplanref1_SqrtUp.f k a0).bind fun t131 => (if t130 = t131 then ((fixed_SqrtUp.f k (shr .i64 a0 (Int.tmod a1 64))).bind fun t132 => ((armplanref1_SqrtUp.f k (shr .i64 a0 (Int.tmod a1 64))).bind fun t133 => (some (t132 == t133)))) else (some false)))) else (some false)))) else (some false)))) else (some false)))) else (some false)))) else (some false)))) else (some false)))) else (some false))) else (none)) = some r := h
  clear h
  obtain ⟨ji3, hji3⟩ : ∃ j_ : Int, (Int.tmod a1 64) = j_ := ⟨_, rfl⟩
  replace H : (if 0 ≤ (ji3) then ((armplanlaw1_awake.f k).bind fun t117 => (if t117 = true then ((fixed_Root.f k a0).bind fun t118 => ((armplanref1_Root.f k a0).bind fun t119 => (if t118 = t119 then ((fixed_Root.f k (shr .i64 a0 (ji3))).bind fun t120 => ((armplanref1_Root.f k (shr .i64 a0 (ji3))).bind fun t121 => (if t120 = t121 then ((fixed_RootUp.f k a0).bind fun t122 => ((armplanref1_RootUp.f k a0).bind fun t123 => (if t122 = t123 then ((fixed_RootUp.f k (shr .i64 a0 (ji3))).bind fun t124 => ((armplanref1_RootUp.f k (shr .i64 a0 (ji3))).bind fun t125 => (if t124 = t125 then ((fixed_SqrtDown.f k a0).bind fun t126 => ((armplanref1_SqrtDown.f k a0).bind fun t127 => (if t126 = t127 then ((fixed_SqrtDown.f k (shr .i64 a0 (ji3))).bind fun t128 => ((armplanref1_SqrtDown.f k (shr .i64 a0 (ji3))).bind fun t129 => (if t128 = t129 then ((fixed_SqrtUp.f k a0).bind fun t130 => ((armplanref1_SqrtUp.f k a0).bind fun t131 => (if t130 = t131 then ((fixed_SqrtUp.f k (shr .i64 a0 (ji3))).bind fun t132 => ((armplanref1_SqrtUp.f k (shr .i64 a0 (ji3))).bind fun t133 => (some (t132 == t133)))) else (some false)))) else (some false)))) else (some false)))) else (some false)))) else (some false)))) else (some false)))) else (some false)))) else (some false))) else (none)) = some r := by first | (rw [hji3] at H; exact H) | (simp only [hji3] at H ⊢; exact H)
  by_cases c4 : 0 ≤ (ji3)
  · rw [if_pos c4] at H
    have c4b0 := eq_true c4
    have c4b1 : decide (0 ≤ (ji3)) = true := decide_eq_true c4
    clear c4
    obtain ⟨ji5, hji5⟩ : ∃ j_ : Int, (shr .i64 a0 (ji3)) = j_ := ⟨_, rfl⟩
    replace H : ((armplanlaw1_awake.f k).bind fun t117 => (if t117 = true then ((fixed_Root.f k a0).bind fun t118 => ((armplanref1_Root.f k a0).bind fun t119 => (if t118 = t119 then ((fixed_Root.f k (ji5)).bind fun t120 => ((armplanref1_Root.f k (ji5)).bind fun t121 => (if t120 = t121 then ((fixed_RootUp.f k a0).bind fun t122 => ((armplanref1_RootUp.f k a0).bind fun t123 => (if t122 = t123 then ((fixed_RootUp.f k (ji5)).bind fun t124 => ((armplanref1_RootUp.f k (ji5)).bind fun t125 => (if t124 = t125 then ((fixed_SqrtDown.f k a0).bind fun t126 => ((armplanref1_SqrtDown.f k a0).bind fun t127 => (if t126 = t127 then ((fixed_SqrtDown.f k (ji5)).bind fun t128 => ((armplanref1_SqrtDown.f k (ji5)).bind fun t129 => (if t128 = t129 then ((fixed_SqrtUp.f k a0).bind fun t130 => ((armplanref1_SqrtUp.f k a0).bind fun t131 => (if t130 = t131 then ((fixed_SqrtUp.f k (ji5)).bind fun t132 => ((armplanref1_SqrtUp.f k (ji5)).bind fun t133 => (some (t132 == t133)))) else (some false)))) else (some false)))) else (some false)))) else (some false)))) else (some false)))) else (some false)))) else (some false)))) else (some false))) = some r := by first | (rw [hji5] at H; exact H) | (simp only [hji5] at H ⊢; exact H)
    have hji5_ : (a0 / 2 ^ min (ji3).toNat 64) = ji5 := hji5
    have hji5z : (ji3) ≤ 64 → (a0 / 2 ^ (ji3).toNat) = ji5 := shr_small hji5
    replace H := Option.bind_eq_some_iff.mp H
    obtain ⟨t117, A60, H⟩ := H
    replace H : (if t117 = true then ((fixed_Root.f k a0).bind fun t118 => ((armplanref1_Root.f k a0).bind fun t119 => (if t118 = t119 then ((fixed_Root.f k (ji5)).bind fun t120 => ((armplanref1_Root.f k (ji5)).bind fun t121 => (if t120 = t121 then ((fixed_RootUp.f k a0).bind fun t122 => ((armplanref1_RootUp.f k a0).bind fun t123 => (if t122 = t123 then ((fixed_RootUp.f k (ji5)).bind fun t124 => ((armplanref1_RootUp.f k (ji5)).bind fun t125 => (if t124 = t125 then ((fixed_SqrtDown.f k a0).bind fun t126 => ((armplanref1_SqrtDown.f k a0).bind fun t127 => (if t126 = t127 then ((fixed_SqrtDown.f k (ji5)).bind fun t128 => ((armplanref1_SqrtDown.f k (ji5)).bind fun t129 => (if t128 = t129 then ((fixed_SqrtUp.f k a0).bind fun t130 => ((armplanref1_SqrtUp.f k a0).bind fun t131 => (if t130 = t131 then ((fixed_SqrtUp.f k (ji5)).bind fun t132 => ((armplanref1_SqrtUp.f k (ji5)).bind fun t133 => (some (t132 == t133)))) else (some false)))) else (some false)))) else (some false)))) else (some false)))) else (some false)))) else (some false)))) else (some false)))) else (some false)) = some r := H
    have A6 := Aside0.mk A60
    clear A60
    by_cases c7 : t117 = true
    · subst c7
      have H1 : ((fixed_Root.f k a0).bind fun t118 => ((armplanref1_Root.f k a0).bind fun t119 => (if t118 = t119 then ((fixed_Root.f k (ji5)).bind fun t120 => ((armplanref1_Root.f k (ji5)).bind fun t121 => (if t120 = t121 then ((fixed_RootUp.f k a0).bind fun t122 => ((armplanref1_RootUp.f k a0).bind fun t123 => (if t122 = t123 then ((fixed_RootUp.f k (ji5)).bind fun t124 => ((armplanref1_RootUp.f k (ji5)).bind fun t125 => (if t124 = t125 then ((fixed_SqrtDown.f k a0).bind fun t126 => ((armplanref1_SqrtDown.f k a0).bind fun t127 => (if t126 = t127 then ((fixed_SqrtDown.f k (ji5)).bind fun t128 => ((armplanref1_SqrtDown.f k (ji5)).bind fun t129 => (if t128 = t129 then ((fixed_SqrtUp.f k a0).bind fun t130 => ((armplanref1_SqrtUp.f k a0).bind fun t131 => (if t130 = t131 then ((fixed_SqrtUp.f k (ji5)).bind fun t132 => ((armplanref1_SqrtUp.f k (ji5)).bind fun t133 => (some (t132 == t133)))) else (some false)))) else (some false)))) else (some false)))) else (some false)))) else (some false)))) else (some false)))) else (some false)))) = some r := by rw [if_pos rfl] at H; exact H
      clear H
      have H := H1
      clear H1
      replace H := Option.bind_eq_some_iff.mp H
      obtain ⟨t118, A80, H⟩ := H
      replace H : ((armplanref1_Root.f k a0).bind fun t119 => (if t118 = t119 then ((fixed_Root.f k (ji5)).bind fun t120 => ((armplanref1_Root.f k (ji5)).bind fun t121 => (if t120 = t121 then ((fixed_RootUp.f k a0).bind fun t122 => ((armplanref1_RootUp.f k a0).bind fun t123 => (if t122 = t123 then ((fixed_RootUp.f k (ji5)).bind fun t124 => ((armplanref1_RootUp.f k (ji5)).bind fun t125 => (if t124 = t125 then ((fixed_SqrtDown.f k a0).bind fun t126 => ((armplanref1_SqrtDown.f k a0).bind fun t127 => (if t126 = t127 then ((fixed_SqrtDown.f k (ji5)).bind fun t128 => ((armplanref1_SqrtDown.f k (ji5)).bind fun t129 => (if t128 = t129 then ((fixed_SqrtUp.f k a0).bind fun t130 => ((armplanref1_SqrtUp.f k a0).bind fun t131 => (if t130 = t131 then ((fixed_SqrtUp.f k (ji5)).bind fun t132 => ((armplanref1_SqrtUp.f k (ji5)).bind fun t133 => (some (t132 == t133)))) else (some false)))) else (some false)))) else (some false)))) else (some false)))) else (some false)))) else (some false)))) else (some false))) = some r := H
      have A8 := Aside0.mk A80
      clear A80
      replace H := Option.bind_eq_some_iff.mp H
      obtain ⟨t119, A90, H⟩ := H
      replace H : (if t118 = t119 then ((fixed_Root.f k (ji5)).bind fun t120 => ((armplanref1_Root.f k (ji5)).bind fun t121 => (if t120 = t121 then ((fixed_RootUp.f k a0).bind fun t122 => ((armplanref1_RootUp.f k a0).bind fun t123 => (if t122 = t123 then ((fixed_RootUp.f k (ji5)).bind fun t124 => ((armplanref1_RootUp.f k (ji5)).bind fun t125 => (if t124 = t125 then ((fixed_SqrtDown.f k a0).bind fun t126 => ((armplanref1_SqrtDown.f k a0).bind fun t127 => (if t126 = t127 then ((fixed_SqrtDown.f k (ji5)).bind fun t128 => ((armplanref1_SqrtDown.f k (ji5)).bind fun t129 => (if t128 = t129 then ((fixed_SqrtUp.f k a0).bind fun t130 => ((armplanref1_SqrtUp.f k a0).bind fun t131 => (if t130 = t131 then ((fixed_SqrtUp.f k (ji5)).bind fun t132 => ((armplanref1_SqrtUp.f k (ji5)).bind fun t133 => (some (t132 == t133)))) else (some false)))) else (some false)))) else (some false)))) else (some false)))) else (some false)))) else (some false)))) else (some false)) = some r := H
      have A9 := Aside0.mk A90
      clear A90
      by_cases c10 : t118 = t119
      · rw [if_pos c10] at H
        have c10b0 : (t118 == t119) = true := beq_iff_eq.mpr c10
        have c10b1 : (t118 != t119) = false := bne_eq_false_iff_eq.mpr c10
        clear c10
        replace H := Option.bind_eq_some_iff.mp H
        obtain ⟨t120, A110, H⟩ := H
        replace H : ((armplanref1_Root.f k (ji5)).bind fun t121 => (if t120 = t121 then ((fixed_RootUp.f k a0).bind fun t122 => ((armplanref1_RootUp.f k a0).bind fun t123 => (if t122 = t123 then ((fixed_RootUp.f k (ji5)).bind fun t124 => ((armplanref1_RootUp.f k (ji5)).bind fun t125 => (if t124 = t125 then ((fixed_SqrtDown.f k a0).bind fun t126 => ((armplanref1_SqrtDown.f k a0).bind fun t127 => (if t126 = t127 then ((fixed_SqrtDown.f k (ji5)).bind fun t128 => ((armplanref1_SqrtDown.f k (ji5)).bind fun t129 => (if t128 = t129 then ((fixed_SqrtUp.f k a0).bind fun t130 => ((armplanref1_SqrtUp.f k a0).bind fun t131 => (if t130 = t131 then ((fixed_SqrtUp.f k (ji5)).bind fun t132 => ((armplanref1_SqrtUp.f k (ji5)).bind fun t133 => (some (t132 == t133)))) else (some false)))) else (some false)))) else (some false)))) else (some false)))) else (some false)))) else (some false))) = some r := H
        have A11 := Aside0.mk A110
        clear A110
        replace H := Option.bind_eq_some_iff.mp H
        obtain ⟨t121, A120, H⟩ := H
        replace H : (if t120 = t121 then ((fixed_RootUp.f k a0).bind fun t122 => ((armplanref1_RootUp.f k a0).bind fun t123 => (if t122 = t123 then ((fixed_RootUp.f k (ji5)).bind fun t124 => ((armplanref1_RootUp.f k (ji5)).bind fun t125 => (if t124 = t125 then ((fixed_SqrtDown.f k a0).bind fun t126 => ((armplanref1_SqrtDown.f k a0).bind fun t127 => (if t126 = t127 then ((fixed_SqrtDown.f k (ji5)).bind fun t128 => ((armplanref1_SqrtDown.f k (ji5)).bind fun t129 => (if t128 = t129 then ((fixed_SqrtUp.f k a0).bind fun t130 => ((armplanref1_SqrtUp.f k a0).bind fun t131 => (if t130 = t131 then ((fixed_SqrtUp.f k (ji5)).bind fun t132 => ((armplanref1_SqrtUp.f k (ji5)).bind fun t133 => (some (t132 == t133)))) else (some false)))) else (some false)))) else (some false)))) else (some false)))) else (some false)))) else (some false)) = some r := H
        have A12 := Aside0.mk A120
        clear A120
        by_cases c13 : t120 = t121
        · rw [if_pos c13] at H
          have c13b0 : (t120 == t121) = true := beq_iff_eq.mpr c13
          have c13b1 : (t120 != t121) = false := bne_eq_false_iff_eq.mpr c13
          clear c13
          replace H := Option.bind_eq_some_iff.mp H
          obtain ⟨t122, A140, H⟩ := H
          replace H : ((armplanref1_RootUp.f k a0).bind fun t123 => (if t122 = t123 then ((fixed_RootUp.f k (ji5)).bind fun t124 => ((armplanref1_RootUp.f k (ji5)).bind fun t125 => (if t124 = t125 then ((fixed_SqrtDown.f k a0).bind fun t126 => ((armplanref1_SqrtDown.f k a0).bind fun t127 => (if t126 = t127 then ((fixed_SqrtDown.f k (ji5)).bind fun t128 => ((armplanref1_SqrtDown.f k (ji5)).bind fun t129 => (if t128 = t129 then ((fixed_SqrtUp.f k a0).bind fun t130 => ((armplanref1_SqrtUp.f k a0).bind fun t131 => (if t130 = t131 then ((fixed_SqrtUp.f k (ji5)).bind fun t132 => ((armplanref1_SqrtUp.f k (ji5)).bind fun t133 => (some (t132 == t133)))) else (some false)))) else (some false)))) else (some false)))) else (some false)))) else (some false))) = some r := H
          have A14 := Aside0.mk A140
          clear A140
          replace H := Option.bind_eq_some_iff.mp H
          obtain ⟨t123, A150, H⟩ := H
          replace H : (if t122 = t123 then ((fixed_RootUp.f k (ji5)).bind fun t124 => ((armplanref1_RootUp.f k (ji5)).bind fun t125 => (if t124 = t125 then ((fixed_SqrtDown.f k a0).bind fun t126 => ((armplanref1_SqrtDown.f k a0).bind fun t127 => (if t126 = t127 then ((fixed_SqrtDown.f k (ji5)).bind fun t128 => ((armplanref1_SqrtDown.f k (ji5)).bind fun t129 => (if t128 = t129 then ((fixed_SqrtUp.f k a0).bind fun t130 => ((armplanref1_SqrtUp.f k a0).bind fun t131 => (if t130 = t131 then ((fixed_SqrtUp.f k (ji5)).bind fun t132 => ((armplanref1_SqrtUp.f k (ji5)).bind fun t133 => (some (t132 == t133)))) else (some false)))) else (some false)))) else (some false)))) else (some false)))) else (some false)) = some r := H
          have A15 := Aside0.mk A150
          clear A150
          by_cases c16 : t122 = t123
          · rw [if_pos c16] at H
            have c16b0 : (t122 == t123) = true := beq_iff_eq.mpr c16
            have c16b1 : (t122 != t123) = false := bne_eq_false_iff_eq.mpr c16
            clear c16
            replace H := Option.bind_eq_some_iff.mp H
            obtain ⟨t124, A170, H⟩ := H
            replace H : ((armplanref1_RootUp.f k (ji5)).bind fun t125 => (if t124 = t125 then ((fixed_SqrtDown.f k a0).bind fun t126 => ((armplanref1_SqrtDown.f k a0).bind fun t127 => (if t126 = t127 then ((fixed_SqrtDown.f k (ji5)).bind fun t128 => ((armplanref1_SqrtDown.f k (ji5)).bind fun t129 => (if t128 = t129 then ((fixed_SqrtUp.f k a0).bind fun t130 => ((armplanref1_SqrtUp.f k a0).bind fun t131 => (if t130 = t131 then ((fixed_SqrtUp.f k (ji5)).bind fun t132 => ((armplanref1_SqrtUp.f k (ji5)).bind fun t133 => (some (t132 == t133)))) else (some false)))) else (some false)))) else (some false)))) else (some false))) = some r := H
            have A17 := Aside0.mk A170
            clear A170
            replace H := Option.bind_eq_some_iff.mp H
            obtain ⟨t125, A180, H⟩ := H
            replace H : (if t124 = t125 then ((fixed_SqrtDown.f k a0).bind fun t126 => ((armplanref1_SqrtDown.f k a0).bind fun t127 => (if t126 = t127 then ((fixed_SqrtDown.f k (ji5)).bind fun t128 => ((armplanref1_SqrtDown.f k (ji5)).bind fun t129 => (if t128 = t129 then ((fixed_SqrtUp.f k a0).bind fun t130 => ((armplanref1_SqrtUp.f k a0).bind fun t131 => (if t130 = t131 then ((fixed_SqrtUp.f k (ji5)).bind fun t132 => ((armplanref1_SqrtUp.f k (ji5)).bind fun t133 => (some (t132 == t133)))) else (some false)))) else (some false)))) else (some false)))) else (some false)) = some r := H
            have A18 := Aside0.mk A180
            clear A180
            by_cases c19 : t124 = t125
            · rw [if_pos c19] at H
              have c19b0 : (t124 == t125) = true := beq_iff_eq.mpr c19
              have c19b1 : (t124 != t125) = false := bne_eq_false_iff_eq.mpr c19
              clear c19
              replace H := Option.bind_eq_some_iff.mp H
              obtain ⟨t126, A200, H⟩ := H
              replace H : ((armplanref1_SqrtDown.f k a0).bind fun t127 => (if t126 = t127 then ((fixed_SqrtDown.f k (ji5)).bind fun t128 => ((armplanref1_SqrtDown.f k (ji5)).bind fun t129 => (if t128 = t129 then ((fixed_SqrtUp.f k a0).bind fun t130 => ((armplanref1_SqrtUp.f k a0).bind fun t131 => (if t130 = t131 then ((fixed_SqrtUp.f k (ji5)).bind fun t132 => ((armplanref1_SqrtUp.f k (ji5)).bind fun t133 => (some (t132 == t133)))) else (some false)))) else (some false)))) else (some false))) = some r := H
              have A20 := Aside0.mk A200
              clear A200
              replace H := Option.bind_eq_some_iff.mp H
              obtain ⟨t127, A210, H⟩ := H
              replace H : (if t126 = t127 then ((fixed_SqrtDown.f k (ji5)).bind fun t128 => ((armplanref1_SqrtDown.f k (ji5)).bind fun t129 => (if t128 = t129 then ((fixed_SqrtUp.f k a0).bind fun t130 => ((armplanref1_SqrtUp.f k a0).bind fun t131 => (if t130 = t131 then ((fixed_SqrtUp.f k (ji5)).bind fun t132 => ((armplanref1_SqrtUp.f k (ji5)).bind fun t133 => (some (t132 == t133)))) else (some false)))) else (some false)))) else (some false)) = some r := H
              have A21 := Aside0.mk A210
              clear A210
              by_cases c22 : t126 = t127
              · rw [if_pos c22] at H
                have c22b0 : (t126 == t127) = true := beq_iff_eq.mpr c22
                have c22b1 : (t126 != t127) = false := bne_eq_false_iff_eq.mpr c22
                clear c22
                replace H := Option.bind_eq_some_iff.mp H
                obtain ⟨t128, A230, H⟩ := H
                replace H : ((armplanref1_SqrtDown.f k (ji5)).bind fun t129 => (if t128 = t129 then ((fixed_SqrtUp.f k a0).bind fun t130 => ((armplanref1_SqrtUp.f k a0).bind fun t131 => (if t130 = t131 then ((fixed_SqrtUp.f k (ji5)).bind fun t132 => ((armplanref1_SqrtUp.f k (ji5)).bind fun t133 => (some (t132 == t133)))) else (some false)))) else (some false))) = some r := H
                have A23 := Aside0.mk A230
                clear A230
                replace H := Option.bind_eq_some_iff.mp H
                obtain ⟨t129, A240, H⟩ := H
                replace H : (if t128 = t129 then ((fixed_SqrtUp.f k a0).bind fun t130 => ((armplanref1_SqrtUp.f k a0).bind fun t131 => (if t130 = t131 then ((fixed_SqrtUp.f k (ji5)).bind fun t132 => ((armplanref1_SqrtUp.f k (ji5)).bind fun t133 => (some (t132 == t133)))) else (some false)))) else (some false)) = some r := H
                have A24 := Aside0.mk A240
                clear A240
                by_cases c25 : t128 = t129
                · rw [if_pos c25] at H
                  have c25b0 : (t128 == t129) = true := beq_iff_eq.mpr c25
                  have c25b1 : (t128 != t129) = false := bne_eq_false_iff_eq.mpr c25
                  clear c25
                  replace H := Option.bind_eq_some_iff.mp H
                  obtain ⟨t130, A260, H⟩ := H
                  replace H : ((armplanref1_SqrtUp.f k a0).bind fun t131 => (if t130 = t131 then ((fixed_SqrtUp.f k (ji5)).bind fun t132 => ((armplanref1_SqrtUp.f k (ji5)).bind fun t133 => (some (t132 == t133)))) else (some false))) = some r := H
                  have A26 := Aside0.mk A260
                  clear A260
                  replace H := Option.bind_eq_some_iff.mp H
                  obtain ⟨t131, A270, H⟩ := H
                  replace H : (if t130 = t131 then ((fixed_SqrtUp.f k (ji5)).bind fun t132 => ((armplanref1_SqrtUp.f k (ji5)).bind fun t133 => (some (t132 == t133)))) else (some false)) = some r := H
                  have A27 := Aside0.mk A270
                  clear A270
                  by_cases c28 : t130 = t131
                  · rw [if_pos c28] at H
                    have c28b0 : (t130 == t131) = true := beq_iff_eq.mpr c28
                    have c28b1 : (t130 != t131) = false := bne_eq_false_iff_eq.mpr c28
                    clear c28
                    replace H := Option.bind_eq_some_iff.mp H
                    obtain ⟨t132, A290, H⟩ := H
                    replace H : ((armplanref1_SqrtUp.f k (ji5)).bind fun t133 => (some (t132 == t133))) = some r := H
                    have A29 := Aside0.mk A290
                    clear A290
                    replace H := Option.bind_eq_some_iff.mp H
                    obtain ⟨t133, A300, H⟩ := H
                    replace H : (some (t132 == t133)) = some r := H
                    have A30 := Aside0.mk A300
                    clear A300
                    obtain rfl := Option.some.inj H
                    go_enter Try.func8, Try.ntmps8
                    go_wp2_with (first | ((with_reducible refine gate_callee (f := 14) rfl ?_); refine goesL_ (some 10) rfl rfl Try.func14 (by kernel_rfl) rfl #[] rfl (by (try simp only [List.map_toArray, List.map_cons, List.map_nil]); first | done | rfl | (simp only [List.length_drop, List.length_take]; rfl)) ?_; (with_reducible refine (armplanlaw1_awake.calls k  true _ A6.out).mono ?_); rintro e w31 ⟨rfl, hb⟩; refine ⟨_, rfl, ?_⟩; have n0_ := Aside0.mk (below_step (by repeat (first | (with_reducible first | exact HB.out | apply below_alloc | apply pw_below_drewN | apply below_drew1) | exact HB.out)) hb); clear HB; have HB := n0_; clear n0_; (try clear hb); (try clear hb2); (try clear hk); (try clear hi)) | (go_at_call 12; (with_reducible refine (fixed_Root.calls k a0 t118 _ A8.out).mono ?_); rintro e w' ⟨rfl, ⟨nd, rfl⟩⟩) | (go_at_call 25; (with_reducible refine (armplanref1_Root.calls k a0 t119 _ A9.out).mono ?_); rintro e w' ⟨rfl, ⟨nd, rfl⟩⟩) | (go_at_call 12; (with_reducible refine (fixed_Root.calls k ji5 t120 _ A11.out).mono ?_); rintro e w' ⟨rfl, ⟨nd, rfl⟩⟩) | (go_at_call 25; (with_reducible refine (armplanref1_Root.calls k ji5 t121 _ A12.out).mono ?_); rintro e w' ⟨rfl, ⟨nd, rfl⟩⟩) | (go_at_call 13; (with_reducible refine (fixed_RootUp.calls k a0 t122 _ A14.out).mono ?_); rintro e w' ⟨rfl, ⟨nd, rfl⟩⟩) | (go_at_call 26; (with_reducible refine (armplanref1_RootUp.calls k a0 t123 _ A15.out).mono ?_); rintro e w' ⟨rfl, ⟨nd, rfl⟩⟩) | (go_at_call 13; (with_reducible refine (fixed_RootUp.calls k ji5 t124 _ A17.out).mono ?_); rintro e w' ⟨rfl, ⟨nd, rfl⟩⟩) | (go_at_call 26; (with_reducible refine (armplanref1_RootUp.calls k ji5 t125 _ A18.out).mono ?_); rintro e w' ⟨rfl, ⟨nd, rfl⟩⟩) | (go_at_call 27; (with_reducible refine (fixed_SqrtDown.calls k a0 t126 _ A20.out).mono ?_); rintro e w32 ⟨rfl, hb⟩; have n0_ := Aside0.mk (below_step (by repeat (first | (with_reducible first | exact HB.out | apply below_alloc | apply pw_below_drewN | apply below_drew1) | exact HB.out)) hb); clear HB; have HB := n0_; clear n0_; (try clear hb); (try clear hb2); (try clear hk); (try clear hi)) | (go_at_call 28; (with_reducible refine (armplanref1_SqrtDown.calls k a0 t127 _ A21.out).mono ?_); rintro e w33 ⟨rfl, hb⟩; have n0_ := Aside0.mk (below_step (by repeat (first | (with_reducible first | exact HB.out | apply below_alloc | apply pw_below_drewN | apply below_drew1) | exact HB.out)) hb); clear HB; have HB := n0_; clear n0_; (try clear hb); (try clear hb2); (try clear hk); (try clear hi)) | (go_at_call 27; (with_reducible refine (fixed_SqrtDown.calls k ji5 t128 _ A23.out).mono ?_); rintro e w34 ⟨rfl, hb⟩; have n0_ := Aside0.mk (below_step (by repeat (first | (with_reducible first | exact HB.out | apply below_alloc | apply pw_below_drewN | apply below_drew1) | exact HB.out)) hb); clear HB; have HB := n0_; clear n0_; (try clear hb); (try clear hb2); (try clear hk); (try clear hi)) | (go_at_call 28; (with_reducible refine (armplanref1_SqrtDown.calls k ji5 t129 _ A24.out).mono ?_); rintro e w35 ⟨rfl, hb⟩; have n0_ := Aside0.mk (below_step (by repeat (first | (with_reducible first | exact HB.out | apply below_alloc | apply pw_below_drewN | apply below_drew1) | exact HB.out)) hb); clear HB; have HB := n0_; clear n0_; (try clear hb); (try clear hb2); (try clear hk); (try clear hi)) | (go_at_call 29; (with_reducible refine (fixed_SqrtUp.calls k a0 t130 _ A26.out).mono ?_); rintro e w36 ⟨rfl, hb⟩; have n0_ := Aside0.mk (below_step (by repeat (first | (with_reducible first | exact HB.out | apply below_alloc | apply pw_below_drewN | apply below_drew1) | exact HB.out)) hb); clear HB; have HB := n0_; clear n0_; (try clear hb); (try clear hb2); (try clear hk); (try clear hi)) | (go_at_call 30; (with_reducible refine (armplanref1_SqrtUp.calls k a0 t131 _ A27.out).mono ?_); rintro e w37 ⟨rfl, hb⟩; have n0_ := Aside0.mk (below_step (by repeat (first | (with_reducible first | exact HB.out | apply below_alloc | apply pw_below_drewN | apply below_drew1) | exact HB.out)) hb); clear HB; have HB := n0_; clear n0_; (try clear hb); (try clear hb2); (try clear hk); (try clear hi)) | (go_at_call 29; (with_reducible refine (fixed_SqrtUp.calls k ji5 t132 _ A29.out).mono ?_); rintro e w38 ⟨rfl, hb⟩; have n0_ := Aside0.mk (below_step (by repeat (first | (with_reducible first | exact HB.out | apply below_alloc | apply pw_below_drewN | apply below_drew1) | exact HB.out)) hb); clear HB; have HB := n0_; clear n0_; (try clear hb); (try clear hb2); (try clear hk); (try clear hi)) | (go_at_call 30; (with_reducible refine (armplanref1_SqrtUp.calls k ji5 t133 _ A30.out).mono ?_); rintro e w39 ⟨rfl, hb⟩; have n0_ := Aside0.mk (below_step (by repeat (first | (with_reducible first | exact HB.out | apply below_alloc | apply pw_below_drewN | apply below_drew1) | exact HB.out)) hb); clear HB; have HB := n0_; clear n0_; (try clear hb); (try clear hb2); (try clear hk); (try clear hi)))
                    go_ret
                    exact ⟨by first | rfl | (simp [errW_none, errW_some] <;> rfl) | (simp only [← hji3, ← hji5]; first | rfl | (simp [errW_none, errW_some] <;> rfl)) | (simp [*, errW_none, errW_some] <;> rfl), by repeat (first | (with_reducible first | exact HB.out | apply below_alloc | apply pw_below_drewN | apply below_drew1) | exact HB.out)⟩
                  · rw [if_neg c28] at H
                    have c28b0 : (t130 == t131) = false := beq_eq_false_iff_ne.mpr c28
                    have c28b1 : (t130 != t131) = true := bne_iff_ne.mpr c28
                    obtain rfl := Option.some.inj H
                    go_enter Try.func8, Try.ntmps8
                    go_wp2_with (first | ((with_reducible refine gate_callee (f := 14) rfl ?_); refine goesL_ (some 10) rfl rfl Try.func14 (by kernel_rfl) rfl #[] rfl (by (try simp only [List.map_toArray, List.map_cons, List.map_nil]); first | done | rfl | (simp only [List.length_drop, List.length_take]; rfl)) ?_; (with_reducible refine (armplanlaw1_awake.calls k  true _ A6.out).mono ?_); rintro e w40 ⟨rfl, hb⟩; refine ⟨_, rfl, ?_⟩; have n0_ := Aside0.mk (below_step (by repeat (first | (with_reducible first | exact HB.out | apply below_alloc | apply pw_below_drewN | apply below_drew1) | exact HB.out)) hb); clear HB; have HB := n0_; clear n0_; (try clear hb); (try clear hb2); (try clear hk); (try clear hi)) | (go_at_call 12; (with_reducible refine (fixed_Root.calls k a0 t118 _ A8.out).mono ?_); rintro e w' ⟨rfl, ⟨nd, rfl⟩⟩) | (go_at_call 25; (with_reducible refine (armplanref1_Root.calls k a0 t119 _ A9.out).mono ?_); rintro e w' ⟨rfl, ⟨nd, rfl⟩⟩) | (go_at_call 12; (with_reducible refine (fixed_Root.calls k ji5 t120 _ A11.out).mono ?_); rintro e w' ⟨rfl, ⟨nd, rfl⟩⟩) | (go_at_call 25; (with_reducible refine (armplanref1_Root.calls k ji5 t121 _ A12.out).mono ?_); rintro e w' ⟨rfl, ⟨nd, rfl⟩⟩) | (go_at_call 13; (with_reducible refine (fixed_RootUp.calls k a0 t122 _ A14.out).mono ?_); rintro e w' ⟨rfl, ⟨nd, rfl⟩⟩) | (go_at_call 26; (with_reducible refine (armplanref1_RootUp.calls k a0 t123 _ A15.out).mono ?_); rintro e w' ⟨rfl, ⟨nd, rfl⟩⟩) | (go_at_call 13; (with_reducible refine (fixed_RootUp.calls k ji5 t124 _ A17.out).mono ?_); rintro e w' ⟨rfl, ⟨nd, rfl⟩⟩) | (go_at_call 26; (with_reducible refine (armplanref1_RootUp.calls k ji5 t125 _ A18.out).mono ?_); rintro e w' ⟨rfl, ⟨nd, rfl⟩⟩) | (go_at_call 27; (with_reducible refine (fixed_SqrtDown.calls k a0 t126 _ A20.out).mono ?_); rintro e w41 ⟨rfl, hb⟩; have n0_ := Aside0.mk (below_step (by repeat (first | (with_reducible first | exact HB.out | apply below_alloc | apply pw_below_drewN | apply below_drew1) | exact HB.out)) hb); clear HB; have HB := n0_; clear n0_; (try clear hb); (try clear hb2); (try clear hk); (try clear hi)) | (go_at_call 28; (with_reducible refine (armplanref1_SqrtDown.calls k a0 t127 _ A21.out).mono ?_); rintro e w42 ⟨rfl, hb⟩; have n0_ := Aside0.mk (below_step (by repeat (first | (with_reducible first | exact HB.out | apply below_alloc | apply pw_below_drewN | apply below_drew1) | exact HB.out)) hb); clear HB; have HB := n0_; clear n0_; (try clear hb); (try clear hb2); (try clear hk); (try clear hi)) | (go_at_call 27; (with_reducible refine (fixed_SqrtDown.calls k ji5 t128 _ A23.out).mono ?_); rintro e w43 ⟨rfl, hb⟩; have n0_ := Aside0.mk (below_step (by repeat (first | (with_reducible first | exact HB.out | apply below_alloc | apply pw_below_drewN | apply below_drew1) | exact HB.out)) hb); clear HB; have HB := n0_; clear n0_; (try clear hb); (try clear hb2); (try clear hk); (try clear hi)) | (go_at_call 28; (with_reducible refine (armplanref1_SqrtDown.calls k ji5 t129 _ A24.out).mono ?_); rintro e w44 ⟨rfl, hb⟩; have n0_ := Aside0.mk (below_step (by repeat (first | (with_reducible first | exact HB.out | apply below_alloc | apply pw_below_drewN | apply below_drew1) | exact HB.out)) hb); clear HB; have HB := n0_; clear n0_; (try clear hb); (try clear hb2); (try clear hk); (try clear hi)) | (go_at_call 29; (with_reducible refine (fixed_SqrtUp.calls k a0 t130 _ A26.out).mono ?_); rintro e w45 ⟨rfl, hb⟩; have n0_ := Aside0.mk (below_step (by repeat (first | (with_reducible first | exact HB.out | apply below_alloc | apply pw_below_drewN | apply below_drew1) | exact HB.out)) hb); clear HB; have HB := n0_; clear n0_; (try clear hb); (try clear hb2); (try clear hk); (try clear hi)) | (go_at_call 30; (with_reducible refine (armplanref1_SqrtUp.calls k a0 t131 _ A27.out).mono ?_); rintro e w46 ⟨rfl, hb⟩; have n0_ := Aside0.mk (below_step (by repeat (first | (with_reducible first | exact HB.out | apply below_alloc | apply pw_below_drewN | apply below_drew1) | exact HB.out)) hb); clear HB; have HB := n0_; clear n0_; (try clear hb); (try clear hb2); (try clear hk); (try clear hi)))
                    go_ret
                    exact ⟨by first | rfl | (simp [errW_none, errW_some] <;> rfl) | (simp only [← hji3, ← hji5]; first | rfl | (simp [errW_none, errW_some] <;> rfl)) | (simp [*, errW_none, errW_some] <;> rfl), by repeat (first | (with_reducible first | exact HB.out | apply below_alloc | apply pw_below_drewN | apply below_drew1) | exact HB.out)⟩
                · rw [if_neg c25] at H
                  have c25b0 : (t128 == t129) = false := beq_eq_false_iff_ne.mpr c25
                  have c25b1 : (t128 != t129) = true := bne_iff_ne.mpr c25
                  obtain rfl := Option.some.inj H
                  go_enter Try.func8, Try.ntmps8
                  go_wp2_with (first | ((with_reducible refine gate_callee (f := 14) rfl ?_); refine goesL_ (some 10) rfl rfl Try.func14 (by kernel_rfl) rfl #[] rfl (by (try simp only [List.map_toArray, List.map_cons, List.map_nil]); first | done | rfl | (simp only [List.length_drop, List.length_take]; rfl)) ?_; (with_reducible refine (armplanlaw1_awake.calls k  true _ A6.out).mono ?_); rintro e w47 ⟨rfl, hb⟩; refine ⟨_, rfl, ?_⟩; have n0_ := Aside0.mk (below_step (by repeat (first | (with_reducible first | exact HB.out | apply below_alloc | apply pw_below_drewN | apply below_drew1) | exact HB.out)) hb); clear HB; have HB := n0_; clear n0_; (try clear hb); (try clear hb2); (try clear hk); (try clear hi)) | (go_at_call 12; (with_reducible refine (fixed_Root.calls k a0 t118 _ A8.out).mono ?_); rintro e w' ⟨rfl, ⟨nd, rfl⟩⟩) | (go_at_call 25; (with_reducible refine (armplanref1_Root.calls k a0 t119 _ A9.out).mono ?_); rintro e w' ⟨rfl, ⟨nd, rfl⟩⟩) | (go_at_call 12; (with_reducible refine (fixed_Root.calls k ji5 t120 _ A11.out).mono ?_); rintro e w' ⟨rfl, ⟨nd, rfl⟩⟩) | (go_at_call 25; (with_reducible refine (armplanref1_Root.calls k ji5 t121 _ A12.out).mono ?_); rintro e w' ⟨rfl, ⟨nd, rfl⟩⟩) | (go_at_call 13; (with_reducible refine (fixed_RootUp.calls k a0 t122 _ A14.out).mono ?_); rintro e w' ⟨rfl, ⟨nd, rfl⟩⟩) | (go_at_call 26; (with_reducible refine (armplanref1_RootUp.calls k a0 t123 _ A15.out).mono ?_); rintro e w' ⟨rfl, ⟨nd, rfl⟩⟩) | (go_at_call 13; (with_reducible refine (fixed_RootUp.calls k ji5 t124 _ A17.out).mono ?_); rintro e w' ⟨rfl, ⟨nd, rfl⟩⟩) | (go_at_call 26; (with_reducible refine (armplanref1_RootUp.calls k ji5 t125 _ A18.out).mono ?_); rintro e w' ⟨rfl, ⟨nd, rfl⟩⟩) | (go_at_call 27; (with_reducible refine (fixed_SqrtDown.calls k a0 t126 _ A20.out).mono ?_); rintro e w48 ⟨rfl, hb⟩; have n0_ := Aside0.mk (below_step (by repeat (first | (with_reducible first | exact HB.out | apply below_alloc | apply pw_below_drewN | apply below_drew1) | exact HB.out)) hb); clear HB; have HB := n0_; clear n0_; (try clear hb); (try clear hb2); (try clear hk); (try clear hi)) | (go_at_call 28; (with_reducible refine (armplanref1_SqrtDown.calls k a0 t127 _ A21.out).mono ?_); rintro e w49 ⟨rfl, hb⟩; have n0_ := Aside0.mk (below_step (by repeat (first | (with_reducible first | exact HB.out | apply below_alloc | apply pw_below_drewN | apply below_drew1) | exact HB.out)) hb); clear HB; have HB := n0_; clear n0_; (try clear hb); (try clear hb2); (try clear hk); (try clear hi)) | (go_at_call 27; (with_reducible refine (fixed_SqrtDown.calls k ji5 t128 _ A23.out).mono ?_); rintro e w50 ⟨rfl, hb⟩; have n0_ := Aside0.mk (below_step (by repeat (first | (with_reducible first | exact HB.out | apply below_alloc | apply pw_below_drewN | apply below_drew1) | exact HB.out)) hb); clear HB; have HB := n0_; clear n0_; (try clear hb); (try clear hb2); (try clear hk); (try clear hi)) | (go_at_call 28; (with_reducible refine (armplanref1_SqrtDown.calls k ji5 t129 _ A24.out).mono ?_); rintro e w51 ⟨rfl, hb⟩; have n0_ := Aside0.mk (below_step (by repeat (first | (with_reducible first | exact HB.out | apply below_alloc | apply pw_below_drewN | apply below_drew1) | exact HB.out)) hb); clear HB; have HB := n0_; clear n0_; (try clear hb); (try clear hb2); (try clear hk); (try clear hi)))
                  go_ret
                  exact ⟨by first | rfl | (simp [errW_none, errW_some] <;> rfl) | (simp only [← hji3, ← hji5]; first | rfl | (simp [errW_none, errW_some] <;> rfl)) | (simp [*, errW_none, errW_some] <;> rfl), by repeat (first | (with_reducible first | exact HB.out | apply below_alloc | apply pw_below_drewN | apply below_drew1) | exact HB.out)⟩
              · rw [if_neg c22] at H
                have c22b0 : (t126 == t127) = false := beq_eq_false_iff_ne.mpr c22
                have c22b1 : (t126 != t127) = true := bne_iff_ne.mpr c22
                obtain rfl := Option.some.inj H
                go_enter Try.func8, Try.ntmps8
                go_wp2_with (first | ((with_reducible refine gate_callee (f := 14) rfl ?_); refine goesL_ (some 10) rfl rfl Try.func14 (by kernel_rfl) rfl #[] rfl (by (try simp only [List.map_toArray, List.map_cons, List.map_nil]); first | done | rfl | (simp only [List.length_drop, List.length_take]; rfl)) ?_; (with_reducible refine (armplanlaw1_awake.calls k  true _ A6.out).mono ?_); rintro e w52 ⟨rfl, hb⟩; refine ⟨_, rfl, ?_⟩; have n0_ := Aside0.mk (below_step (by repeat (first | (with_reducible first | exact HB.out | apply below_alloc | apply pw_below_drewN | apply below_drew1) | exact HB.out)) hb); clear HB; have HB := n0_; clear n0_; (try clear hb); (try clear hb2); (try clear hk); (try clear hi)) | (go_at_call 12; (with_reducible refine (fixed_Root.calls k a0 t118 _ A8.out).mono ?_); rintro e w' ⟨rfl, ⟨nd, rfl⟩⟩) | (go_at_call 25; (with_reducible refine (armplanref1_Root.calls k a0 t119 _ A9.out).mono ?_); rintro e w' ⟨rfl, ⟨nd, rfl⟩⟩) | (go_at_call 12; (with_reducible refine (fixed_Root.calls k ji5 t120 _ A11.out).mono ?_); rintro e w' ⟨rfl, ⟨nd, rfl⟩⟩) | (go_at_call 25; (with_reducible refine (armplanref1_Root.calls k ji5 t121 _ A12.out).mono ?_); rintro e w' ⟨rfl, ⟨nd, rfl⟩⟩) | (go_at_call 13; (with_reducible refine (fixed_RootUp.calls k a0 t122 _ A14.out).mono ?_); rintro e w' ⟨rfl, ⟨nd, rfl⟩⟩) | (go_at_call 26; (with_reducible refine (armplanref1_RootUp.calls k a0 t123 _ A15.out).mono ?_); rintro e w' ⟨rfl, ⟨nd, rfl⟩⟩) | (go_at_call 13; (with_reducible refine (fixed_RootUp.calls k ji5 t124 _ A17.out).mono ?_); rintro e w' ⟨rfl, ⟨nd, rfl⟩⟩) | (go_at_call 26; (with_reducible refine (armplanref1_RootUp.calls k ji5 t125 _ A18.out).mono ?_); rintro e w' ⟨rfl, ⟨nd, rfl⟩⟩) | (go_at_call 27; (with_reducible refine (fixed_SqrtDown.calls k a0 t126 _ A20.out).mono ?_); rintro e w53 ⟨rfl, hb⟩; have n0_ := Aside0.mk (below_step (by repeat (first | (with_reducible first | exact HB.out | apply below_alloc | apply pw_below_drewN | apply below_drew1) | exact HB.out)) hb); clear HB; have HB := n0_; clear n0_; (try clear hb); (try clear hb2); (try clear hk); (try clear hi)) | (go_at_call 28; (with_reducible refine (armplanref1_SqrtDown.calls k a0 t127 _ A21.out).mono ?_); rintro e w54 ⟨rfl, hb⟩; have n0_ := Aside0.mk (below_step (by repeat (first | (with_reducible first | exact HB.out | apply below_alloc | apply pw_below_drewN | apply below_drew1) | exact HB.out)) hb); clear HB; have HB := n0_; clear n0_; (try clear hb); (try clear hb2); (try clear hk); (try clear hi)))
                go_ret
                exact ⟨by first | rfl | (simp [errW_none, errW_some] <;> rfl) | (simp only [← hji3, ← hji5]; first | rfl | (simp [errW_none, errW_some] <;> rfl)) | (simp [*, errW_none, errW_some] <;> rfl), by repeat (first | (with_reducible first | exact HB.out | apply below_alloc | apply pw_below_drewN | apply below_drew1) | exact HB.out)⟩
            · rw [if_neg c19] at H
              have c19b0 : (t124 == t125) = false := beq_eq_false_iff_ne.mpr c19
              have c19b1 : (t124 != t125) = true := bne_iff_ne.mpr c19
              obtain rfl := Option.some.inj H
              go_enter Try.func8, Try.ntmps8
              go_wp2_with (first | ((with_reducible refine gate_callee (f := 14) rfl ?_); refine goesL_ (some 10) rfl rfl Try.func14 (by kernel_rfl) rfl #[] rfl (by (try simp only [List.map_toArray, List.map_cons, List.map_nil]); first | done | rfl | (simp only [List.length_drop, List.length_take]; rfl)) ?_; (with_reducible refine (armplanlaw1_awake.calls k  true _ A6.out).mono ?_); rintro e w55 ⟨rfl, hb⟩; refine ⟨_, rfl, ?_⟩; have n0_ := Aside0.mk (below_step (by repeat (first | (with_reducible first | exact HB.out | apply below_alloc | apply pw_below_drewN | apply below_drew1) | exact HB.out)) hb); clear HB; have HB := n0_; clear n0_; (try clear hb); (try clear hb2); (try clear hk); (try clear hi)) | (go_at_call 12; (with_reducible refine (fixed_Root.calls k a0 t118 _ A8.out).mono ?_); rintro e w' ⟨rfl, ⟨nd, rfl⟩⟩) | (go_at_call 25; (with_reducible refine (armplanref1_Root.calls k a0 t119 _ A9.out).mono ?_); rintro e w' ⟨rfl, ⟨nd, rfl⟩⟩) | (go_at_call 12; (with_reducible refine (fixed_Root.calls k ji5 t120 _ A11.out).mono ?_); rintro e w' ⟨rfl, ⟨nd, rfl⟩⟩) | (go_at_call 25; (with_reducible refine (armplanref1_Root.calls k ji5 t121 _ A12.out).mono ?_); rintro e w' ⟨rfl, ⟨nd, rfl⟩⟩) | (go_at_call 13; (with_reducible refine (fixed_RootUp.calls k a0 t122 _ A14.out).mono ?_); rintro e w' ⟨rfl, ⟨nd, rfl⟩⟩) | (go_at_call 26; (with_reducible refine (armplanref1_RootUp.calls k a0 t123 _ A15.out).mono ?_); rintro e w' ⟨rfl, ⟨nd, rfl⟩⟩) | (go_at_call 13; (with_reducible refine (fixed_RootUp.calls k ji5 t124 _ A17.out).mono ?_); rintro e w' ⟨rfl, ⟨nd, rfl⟩⟩) | (go_at_call 26; (with_reducible refine (armplanref1_RootUp.calls k ji5 t125 _ A18.out).mono ?_); rintro e w' ⟨rfl, ⟨nd, rfl⟩⟩))
              go_ret
              exact ⟨by first | rfl | (simp [errW_none, errW_some] <;> rfl) | (simp only [← hji3, ← hji5]; first | rfl | (simp [errW_none, errW_some] <;> rfl)) | (simp [*, errW_none, errW_some] <;> rfl), by repeat (first | (with_reducible first | exact HB.out | apply below_alloc | apply pw_below_drewN | apply below_drew1) | exact HB.out)⟩
          · rw [if_neg c16] at H
            have c16b0 : (t122 == t123) = false := beq_eq_false_iff_ne.mpr c16
            have c16b1 : (t122 != t123) = true := bne_iff_ne.mpr c16
            obtain rfl := Option.some.inj H
            go_enter Try.func8, Try.ntmps8
            go_wp2_with (first | ((with_reducible refine gate_callee (f := 14) rfl ?_); refine goesL_ (some 10) rfl rfl Try.func14 (by kernel_rfl) rfl #[] rfl (by (try simp only [List.map_toArray, List.map_cons, List.map_nil]); first | done | rfl | (simp only [List.length_drop, List.length_take]; rfl)) ?_; (with_reducible refine (armplanlaw1_awake.calls k  true _ A6.out).mono ?_); rintro e w56 ⟨rfl, hb⟩; refine ⟨_, rfl, ?_⟩; have n0_ := Aside0.mk (below_step (by repeat (first | (with_reducible first | exact HB.out | apply below_alloc | apply pw_below_drewN | apply below_drew1) | exact HB.out)) hb); clear HB; have HB := n0_; clear n0_; (try clear hb); (try clear hb2); (try clear hk); (try clear hi)) | (go_at_call 12; (with_reducible refine (fixed_Root.calls k a0 t118 _ A8.out).mono ?_); rintro e w' ⟨rfl, ⟨nd, rfl⟩⟩) | (go_at_call 25; (with_reducible refine (armplanref1_Root.calls k a0 t119 _ A9.out).mono ?_); rintro e w' ⟨rfl, ⟨nd, rfl⟩⟩) | (go_at_call 12; (with_reducible refine (fixed_Root.calls k ji5 t120 _ A11.out).mono ?_); rintro e w' ⟨rfl, ⟨nd, rfl⟩⟩) | (go_at_call 25; (with_reducible refine (armplanref1_Root.calls k ji5 t121 _ A12.out).mono ?_); rintro e w' ⟨rfl, ⟨nd, rfl⟩⟩) | (go_at_call 13; (with_reducible refine (fixed_RootUp.calls k a0 t122 _ A14.out).mono ?_); rintro e w' ⟨rfl, ⟨nd, rfl⟩⟩) | (go_at_call 26; (with_reducible refine (armplanref1_RootUp.calls k a0 t123 _ A15.out).mono ?_); rintro e w' ⟨rfl, ⟨nd, rfl⟩⟩))
            go_ret
            exact ⟨by first | rfl | (simp [errW_none, errW_some] <;> rfl) | (simp only [← hji3, ← hji5]; first | rfl | (simp [errW_none, errW_some] <;> rfl)) | (simp [*, errW_none, errW_some] <;> rfl), by repeat (first | (with_reducible first | exact HB.out | apply below_alloc | apply pw_below_drewN | apply below_drew1) | exact HB.out)⟩
        · rw [if_neg c13] at H
          have c13b0 : (t120 == t121) = false := beq_eq_false_iff_ne.mpr c13
          have c13b1 : (t120 != t121) = true := bne_iff_ne.mpr c13
          obtain rfl := Option.some.inj H
          go_enter Try.func8, Try.ntmps8
          go_wp2_with (first | ((with_reducible refine gate_callee (f := 14) rfl ?_); refine goesL_ (some 10) rfl rfl Try.func14 (by kernel_rfl) rfl #[] rfl (by (try simp only [List.map_toArray, List.map_cons, List.map_nil]); first | done | rfl | (simp only [List.length_drop, List.length_take]; rfl)) ?_; (with_reducible refine (armplanlaw1_awake.calls k  true _ A6.out).mono ?_); rintro e w57 ⟨rfl, hb⟩; refine ⟨_, rfl, ?_⟩; have n0_ := Aside0.mk (below_step (by repeat (first | (with_reducible first | exact HB.out | apply below_alloc | apply pw_below_drewN | apply below_drew1) | exact HB.out)) hb); clear HB; have HB := n0_; clear n0_; (try clear hb); (try clear hb2); (try clear hk); (try clear hi)) | (go_at_call 12; (with_reducible refine (fixed_Root.calls k a0 t118 _ A8.out).mono ?_); rintro e w' ⟨rfl, ⟨nd, rfl⟩⟩) | (go_at_call 25; (with_reducible refine (armplanref1_Root.calls k a0 t119 _ A9.out).mono ?_); rintro e w' ⟨rfl, ⟨nd, rfl⟩⟩) | (go_at_call 12; (with_reducible refine (fixed_Root.calls k ji5 t120 _ A11.out).mono ?_); rintro e w' ⟨rfl, ⟨nd, rfl⟩⟩) | (go_at_call 25; (with_reducible refine (armplanref1_Root.calls k ji5 t121 _ A12.out).mono ?_); rintro e w' ⟨rfl, ⟨nd, rfl⟩⟩))
          go_ret
          exact ⟨by first | rfl | (simp [errW_none, errW_some] <;> rfl) | (simp only [← hji3, ← hji5]; first | rfl | (simp [errW_none, errW_some] <;> rfl)) | (simp [*, errW_none, errW_some] <;> rfl), by repeat (first | (with_reducible first | exact HB.out | apply below_alloc | apply pw_below_drewN | apply below_drew1) | exact HB.out)⟩
      · rw [if_neg c10] at H
        have c10b0 : (t118 == t119) = false := beq_eq_false_iff_ne.mpr c10
        have c10b1 : (t118 != t119) = true := bne_iff_ne.mpr c10
        obtain rfl := Option.some.inj H
        go_enter Try.func8, Try.ntmps8
        go_wp2_with (first | ((with_reducible refine gate_callee (f := 14) rfl ?_); refine goesL_ (some 10) rfl rfl Try.func14 (by kernel_rfl) rfl #[] rfl (by (try simp only [List.map_toArray, List.map_cons, List.map_nil]); first | done | rfl | (simp only [List.length_drop, List.length_take]; rfl)) ?_; (with_reducible refine (armplanlaw1_awake.calls k  true _ A6.out).mono ?_); rintro e w58 ⟨rfl, hb⟩; refine ⟨_, rfl, ?_⟩; have n0_ := Aside0.mk (below_step (by repeat (first | (with_reducible first | exact HB.out | apply below_alloc | apply pw_below_drewN | apply below_drew1) | exact HB.out)) hb); clear HB; have HB := n0_; clear n0_; (try clear hb); (try clear hb2); (try clear hk); (try clear hi)) | (go_at_call 12; (with_reducible refine (fixed_Root.calls k a0 t118 _ A8.out).mono ?_); rintro e w' ⟨rfl, ⟨nd, rfl⟩⟩) | (go_at_call 25; (with_reducible refine (armplanref1_Root.calls k a0 t119 _ A9.out).mono ?_); rintro e w' ⟨rfl, ⟨nd, rfl⟩⟩))
        go_ret
        exact ⟨by first | rfl | (simp [errW_none, errW_some] <;> rfl) | (simp only [← hji3, ← hji5]; first | rfl | (simp [errW_none, errW_some] <;> rfl)) | (simp [*, errW_none, errW_some] <;> rfl), by repeat (first | (with_reducible first | exact HB.out | apply below_alloc | apply pw_below_drewN | apply below_drew1) | exact HB.out)⟩
    · replace c7 := Bool.eq_false_iff.mpr c7
      subst c7
      have H1 : (some false) = some r := by rw [if_neg (show ¬ (false = true) by decide)] at H; exact H
      clear H
      have H := H1
      clear H1
      obtain rfl := Option.some.inj H
      go_enter Try.func8, Try.ntmps8
      go_wp2_with (first | ((with_reducible refine gate_callee (f := 14) rfl ?_); refine goesL_ (some 10) rfl rfl Try.func14 (by kernel_rfl) rfl #[] rfl (by (try simp only [List.map_toArray, List.map_cons, List.map_nil]); first | done | rfl | (simp only [List.length_drop, List.length_take]; rfl)) ?_; (with_reducible refine (armplanlaw1_awake.calls k  false _ A6.out).mono ?_); rintro e w59 ⟨rfl, hb⟩; refine ⟨_, rfl, ?_⟩; have n0_ := Aside0.mk (below_step (by repeat (first | (with_reducible first | exact HB.out | apply below_alloc | apply pw_below_drewN | apply below_drew1) | exact HB.out)) hb); clear HB; have HB := n0_; clear n0_; (try clear hb); (try clear hb2); (try clear hk); (try clear hi)))
      go_ret
      exact ⟨by first | rfl | (simp [errW_none, errW_some] <;> rfl) | (simp only [← hji3, ← hji5]; first | rfl | (simp [errW_none, errW_some] <;> rfl)) | (simp [*, errW_none, errW_some] <;> rfl), by repeat (first | (with_reducible first | exact HB.out | apply below_alloc | apply pw_below_drewN | apply below_drew1) | exact HB.out)⟩
  · rw [if_neg c4] at H
    exact absurd H (by simp)

/-- THE ONE PURE STATEMENT of armplanlaw1_FixedRoots: yours. -/
def armplanlaw1_FixedRoots.Pure : Prop := ∀ (a0 : Int) (a1 : Int), (Lit.int .i64 a0).wf = true → (Lit.int .u8 a1).wf = true → ∃ k, armplanlaw1_FixedRoots.f k a0 a1 = some true
theorem armplanlaw1_FixedRoots.walk (P : armplanlaw1_FixedRoots.Pure) (a0 : Int) (a1 : Int) (w : World) (w0 : (Lit.int .i64 a0).wf = true) (w1 : (Lit.int .u8 a1).wf = true) :
    Calls Try.prog 8 #[.int .i64 a0, .int .u8 a1] w fun e w' => e = .returned (.bool true) ∧ Below w.heap.size w w' := by
  obtain ⟨k, h⟩ := P a0 a1 w0 w1
  refine (armplanlaw1_FixedRoots.calls k a0 a1 true w h).mono ?_
  rintro e w' ⟨rfl, hd⟩
  exact ⟨rfl, hd⟩

end Go.Proofs.Ytdeajnmheebghaa.PFixedRoots
