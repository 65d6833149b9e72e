/- PRINTED: the functions without levels. -/
import Derived.Test.YtdeajnmheebghaaE0
import Derived.Test.YtdeajnmheebghaaE1
import Derived.Test.YtdeajnmheebghaaE2
import Derived.Test.YtdeajnmheebghaaE3
import Derived.Test.YtdeajnmheebghaaV
set_option linter.unusedVariables false
set_option linter.unusedSimpArgs false
set_option maxRecDepth 100000
namespace Go.Proofs.Ytdeajnmheebghaa.Am
open Go Go.Proofs
/-! armplan/fixed.Clamp -/
abbrev o_fixed_Clamp (v : Int) : VtsT outs19 × MtsT mouts19 := ((v, ()), ())
abbrev encO_fixed_Clamp (v : Int) : R := (encR outs19 (o_fixed_Clamp v).1, encMts mouts19 (o_fixed_Clamp v).2)
theorem injO_fixed_Clamp : ∀ a b, encO_fixed_Clamp a = encO_fixed_Clamp b → a = b := by
  rintro a0 b0 h
  have h1 := encR_inj (Prod.mk.inj h).1
  have h2 := encMts_inj (Prod.mk.inj h).2
  simp [o_fixed_Clamp] at h1 h2
  simp [h1, h2]
noncomputable abbrev X_fixed_Clamp (a1 : Int) (n : Nat) : Option R := (lvl Try.prog HH n).2 19 [.s (.one (.v (.int .i64 a1)))] []
noncomputable def F_fixed_Clamp (a1 : Int) : Option Int := den encO_fixed_Clamp (X_fixed_Clamp a1)
theorem lim_fixed_Clamp (k : Nat) (a1 : Int) : Lim (fun v => (encR outs19 (o_fixed_Clamp v).1, encMts mouts19 (o_fixed_Clamp v).2)) (fun n => (lvl Try.prog HH (n + k)).2 19 [.s (.one (.v (.int .i64 a1)))] []) (F_fixed_Clamp a1) := Lim.den (x := (X_fixed_Clamp a1)) k
theorem F_fixed_Clamp_of (a1 : Int) : ∀ r, ((
    letIn (if (-2147483648) > a1 then (-2147483648) else a1 : Int) fun n2 =>
    letIn (if 2147483648 < n2 then 2147483648 else n2 : Int) fun n3 =>
    some n3) : Option Int) = some r →
    F_fixed_Clamp a1 = some r := fun r h =>
  den_of (x := (X_fixed_Clamp a1)) injO_fixed_Clamp 1 (Lim.cong (fun n => fn19 n a1) (by
      refine Lim.letIn rfl fun n2 => ?_
      refine Lim.letIn rfl fun n3 => ?_
      exact Lim.leaf rfl
    )) h
def G_fixed_Clamp (a1 : Int) : Int :=
  letIn (if (-2147483648) > a1 then (-2147483648) else a1 : Int) fun n2 =>
  letIn (if 2147483648 < n2 then 2147483648 else n2 : Int) fun n3 =>
  n3
theorem F_fixed_Clamp_eq (a1 : Int) : F_fixed_Clamp a1 = some (G_fixed_Clamp a1) := F_fixed_Clamp_of a1 _ (by
  unfold G_fixed_Clamp
  refine Tot.letIn fun n2 => ?_
  refine Tot.letIn fun n3 => ?_
  rfl)

/-! armplan/fixed.product -/
abbrev o_fixed_product (v : Int) : VtsT outs36 × MtsT mouts36 := ((v, ()), ())
abbrev encO_fixed_product (v : Int) : R := (encR outs36 (o_fixed_product v).1, encMts mouts36 (o_fixed_product v).2)
theorem injO_fixed_product : ∀ a b, encO_fixed_product a = encO_fixed_product b → a = b := by
  rintro a0 b0 h
  have h1 := encR_inj (Prod.mk.inj h).1
  have h2 := encMts_inj (Prod.mk.inj h).2
  simp [o_fixed_product] at h1 h2
  simp [h1, h2]
noncomputable abbrev X_fixed_product (a1 : Int) (b2 : Int) (n : Nat) : Option R := (lvl Try.prog HH n).2 36 [.s (.one (.v (.int .i64 a1))), .s (.one (.v (.int .i64 b2)))] []
noncomputable def F_fixed_product (a1 : Int) (b2 : Int) : Option Int := den encO_fixed_product (X_fixed_product a1 b2)
theorem lim_fixed_product (k : Nat) (a1 : Int) (b2 : Int) : Lim (fun v => (encR outs36 (o_fixed_product v).1, encMts mouts36 (o_fixed_product v).2)) (fun n => (lvl Try.prog HH (n + k)).2 36 [.s (.one (.v (.int .i64 a1))), .s (.one (.v (.int .i64 b2)))] []) (F_fixed_product a1 b2) := Lim.den (x := (X_fixed_product a1 b2)) k
theorem F_fixed_product_of (a1 : Int) (b2 : Int) : ∀ r, ((
    (F_fixed_Clamp a1).bind fun y3 =>
    (F_fixed_Clamp b2).bind fun y4 =>
    letIn (IntKind.wrap .i64 (y3 * y4) : Int) fun n5 =>
    some n5) : Option Int) = some r →
    F_fixed_product a1 b2 = some r := fun r h =>
  den_of (x := (X_fixed_product a1 b2)) injO_fixed_product 1 (Lim.cong (fun n => fn36 n a1 b2) (by
      refine Lim.call o_fixed_Clamp (lim_fixed_Clamp 0 a1) rfl rfl fun y3 => ?_
      refine Lim.call o_fixed_Clamp (lim_fixed_Clamp 0 b2) rfl rfl fun y4 => ?_
      refine Lim.letIn rfl fun n5 => ?_
      exact Lim.leaf rfl
    )) h
def G_fixed_product (a1 : Int) (b2 : Int) : Int :=
  letIn (G_fixed_Clamp a1) fun y3 =>
  letIn (G_fixed_Clamp b2) fun y4 =>
  letIn (IntKind.wrap .i64 (y3 * y4) : Int) fun n5 =>
  n5
theorem F_fixed_product_eq (a1 : Int) (b2 : Int) : F_fixed_product a1 b2 = some (G_fixed_product a1 b2) := F_fixed_product_of a1 b2 _ (by
  unfold G_fixed_product
  refine Tot.bind (F_fixed_Clamp_eq a1) fun y3 => ?_
  refine Tot.bind (F_fixed_Clamp_eq b2) fun y4 => ?_
  refine Tot.letIn fun n5 => ?_
  rfl)

/-! armplan/fixed.ShiftDown -/
abbrev o_fixed_ShiftDown (v : Int) : VtsT outs15 × MtsT mouts15 := ((v, ()), ())
abbrev encO_fixed_ShiftDown (v : Int) : R := (encR outs15 (o_fixed_ShiftDown v).1, encMts mouts15 (o_fixed_ShiftDown v).2)
theorem injO_fixed_ShiftDown : ∀ a b, encO_fixed_ShiftDown a = encO_fixed_ShiftDown b → a = b := by
  rintro a0 b0 h
  have h1 := encR_inj (Prod.mk.inj h).1
  have h2 := encMts_inj (Prod.mk.inj h).2
  simp [o_fixed_ShiftDown] at h1 h2
  simp [h1, h2]
noncomputable abbrev X_fixed_ShiftDown (a1 : Int) (k2 : Int) (n : Nat) : Option R := (lvl Try.prog HH n).2 15 [.s (.one (.v (.int .i64 a1))), .s (.one (.v (.int .i64 k2)))] []
noncomputable def F_fixed_ShiftDown (a1 : Int) (k2 : Int) : Option Int := den encO_fixed_ShiftDown (X_fixed_ShiftDown a1 k2)
theorem lim_fixed_ShiftDown (k : Nat) (a1 : Int) (k2 : Int) : Lim (fun v => (encR outs15 (o_fixed_ShiftDown v).1, encMts mouts15 (o_fixed_ShiftDown v).2)) (fun n => (lvl Try.prog HH (n + k)).2 15 [.s (.one (.v (.int .i64 a1))), .s (.one (.v (.int .i64 k2)))] []) (F_fixed_ShiftDown a1 k2) := Lim.den (x := (X_fixed_ShiftDown a1 k2)) k
theorem F_fixed_ShiftDown_of (a1 : Int) (k2 : Int) : ∀ r, ((
    bif decide (k2 < 0) then (
      some a1)
    else
    bif decide (k2 < 0) then (
      none)
    else
    letIn (Int.fdiv a1 (2 ^ min k2.toNat 64) : Int) fun n3 =>
    some n3) : Option Int) = some r →
    F_fixed_ShiftDown a1 k2 = some r := fun r h =>
  den_of (x := (X_fixed_ShiftDown a1 k2)) injO_fixed_ShiftDown 1 (Lim.cong (fun n => fn15 n a1 k2) (by
      refine Lim.bif rfl ?_ ?_
      · exact Lim.leaf rfl
      refine Lim.bif rfl Lim.none_ ?_
      refine Lim.letIn rfl fun n3 => ?_
      exact Lim.leaf rfl
    )) h

/-! armplan/fixed.MulDown -/
abbrev o_fixed_MulDown (v : Int) : VtsT outs21 × MtsT mouts21 := ((v, ()), ())
abbrev encO_fixed_MulDown (v : Int) : R := (encR outs21 (o_fixed_MulDown v).1, encMts mouts21 (o_fixed_MulDown v).2)
theorem injO_fixed_MulDown : ∀ a b, encO_fixed_MulDown a = encO_fixed_MulDown b → a = b := by
  rintro a0 b0 h
  have h1 := encR_inj (Prod.mk.inj h).1
  have h2 := encMts_inj (Prod.mk.inj h).2
  simp [o_fixed_MulDown] at h1 h2
  simp [h1, h2]
noncomputable abbrev X_fixed_MulDown (a1 : Int) (b2 : Int) (n : Nat) : Option R := (lvl Try.prog HH n).2 21 [.s (.one (.v (.int .i64 a1))), .s (.one (.v (.int .i64 b2)))] []
noncomputable def F_fixed_MulDown (a1 : Int) (b2 : Int) : Option Int := den encO_fixed_MulDown (X_fixed_MulDown a1 b2)
theorem lim_fixed_MulDown (k : Nat) (a1 : Int) (b2 : Int) : Lim (fun v => (encR outs21 (o_fixed_MulDown v).1, encMts mouts21 (o_fixed_MulDown v).2)) (fun n => (lvl Try.prog HH (n + k)).2 21 [.s (.one (.v (.int .i64 a1))), .s (.one (.v (.int .i64 b2)))] []) (F_fixed_MulDown a1 b2) := Lim.den (x := (X_fixed_MulDown a1 b2)) k
theorem F_fixed_MulDown_of (a1 : Int) (b2 : Int) : ∀ r, ((
    (F_fixed_product a1 b2).bind fun y3 =>
    (F_fixed_ShiftDown y3 16).bind fun y4 =>
    some y4) : Option Int) = some r →
    F_fixed_MulDown a1 b2 = some r := fun r h =>
  den_of (x := (X_fixed_MulDown a1 b2)) injO_fixed_MulDown 1 (Lim.cong (fun n => fn21 n a1 b2) (by
      refine Lim.call o_fixed_product (lim_fixed_product 0 a1 b2) rfl rfl fun y3 => ?_
      refine Lim.call o_fixed_ShiftDown (lim_fixed_ShiftDown 0 y3 16) rfl rfl fun y4 => ?_
      exact Lim.leaf rfl
    )) h

/-! armplan/fixed.Root -/
abbrev E_fixed_Root_0 : Type := (Int)
def enc_L_fixed_Root_0 (e : E_fixed_Root_0) : Ex × St := (.exit 0, encSt S12_0_e0 ((e, ()), ()))
theorem inj_L_fixed_Root_0 : ∀ a b, enc_L_fixed_Root_0 a = enc_L_fixed_Root_0 b → a = b := by
  rintro a0 b0 h
  first | (cases h; done) | (have h2 := encSt_inj rfl (Prod.mk.inj h).2; simp [] at h2; simp [h2]) | (have h2 := (Prod.mk.inj h).1; simp at h2) | rfl
noncomputable abbrev X_L_fixed_Root_0 (v2 : Int) (v3 : Int) (v4 : Int) (n : Nat) : Option (Ex × St) := (lvl Try.prog HH n).1 ⟨12, 0, true⟩ 0 (loopOf Try.f12 0) (encSt S12_0 ((v2, v3, v4, ()), ()))
noncomputable def L_fixed_Root_0 (v2 : Int) (v3 : Int) (v4 : Int) : Option E_fixed_Root_0 := den enc_L_fixed_Root_0 (X_L_fixed_Root_0 v2 v3 v4)
theorem L_fixed_Root_0_of (v2 : Int) (v3 : Int) (v4 : Int) : ∀ r, ((
    bif decide (v4 < 32) then (
      letIn (IntKind.wrap .i64 (31 - v4) : Int) fun n5 =>
      bif decide (n5 < 0) then (
        none)
      else
      letIn (IntKind.wrap .i64 (1 * (2 ^ min n5.toNat 64)) : Int) fun n6 =>
      letIn (IntKind.wrap .i64 (v3 + n6) : Int) fun n7 =>
      bif n7 == 0 then (
        none)
      else
      letIn (IntKind.wrap .i64 (Int.tdiv v2 n7) : Int) fun n8 =>
      bif decide (n7 ≤ n8) then (
        letIn (IntKind.wrap .i64 (v4 + 1) : Int) fun n9 =>
        L_fixed_Root_0 v2 n7 n9)
      else
      letIn (IntKind.wrap .i64 (v4 + 1) : Int) fun n10 =>
      L_fixed_Root_0 v2 v3 n10)
    else
    some v3) : Option E_fixed_Root_0) = some r →
    L_fixed_Root_0 v2 v3 v4 = some r := fun r h =>
  den_of (x := (X_L_fixed_Root_0 v2 v3 v4)) inj_L_fixed_Root_0 1 (Lim.cong (fun n => loop12_0 n v2 v3 v4) (by
      refine Lim.bif rfl ?_ ?_
      · refine Lim.letIn rfl fun n5 => ?_
        refine Lim.bif rfl Lim.none_ ?_
        refine Lim.letIn rfl fun n6 => ?_
        refine Lim.letIn rfl fun n7 => ?_
        refine Lim.bif rfl Lim.none_ ?_
        refine Lim.letIn rfl fun n8 => ?_
        refine Lim.bif rfl ?_ ?_
        · refine Lim.letIn rfl fun n9 => ?_
          exact Lim.loop 0 rfl
        refine Lim.letIn rfl fun n10 => ?_
        exact Lim.loop 0 rfl
      exact Lim.leaf rfl
    )) h
abbrev o_fixed_Root (v : Int) : VtsT outs12 × MtsT mouts12 := ((v, ()), ())
abbrev encO_fixed_Root (v : Int) : R := (encR outs12 (o_fixed_Root v).1, encMts mouts12 (o_fixed_Root v).2)
theorem injO_fixed_Root : ∀ a b, encO_fixed_Root a = encO_fixed_Root b → a = b := by
  rintro a0 b0 h
  have h1 := encR_inj (Prod.mk.inj h).1
  have h2 := encMts_inj (Prod.mk.inj h).2
  simp [o_fixed_Root] at h1 h2
  simp [h1, h2]
noncomputable abbrev X_fixed_Root (n1 : Int) (n : Nat) : Option R := (lvl Try.prog HH n).2 12 [.s (.one (.v (.int .i64 n1)))] []
noncomputable def F_fixed_Root (n1 : Int) : Option Int := den encO_fixed_Root (X_fixed_Root n1)
theorem lim_fixed_Root (k : Nat) (n1 : Int) : Lim (fun v => (encR outs12 (o_fixed_Root v).1, encMts mouts12 (o_fixed_Root v).2)) (fun n => (lvl Try.prog HH (n + k)).2 12 [.s (.one (.v (.int .i64 n1)))] []) (F_fixed_Root n1) := Lim.den (x := (X_fixed_Root n1)) k
theorem F_fixed_Root_of (n1 : Int) : ∀ r, ((
    bif decide (n1 ≤ 0) then (
      some 0)
    else
    (L_fixed_Root_0 n1 0 0).bind fun p11 =>
    some p11) : Option Int) = some r →
    F_fixed_Root n1 = some r := fun r h =>
  den_of (x := (X_fixed_Root n1)) injO_fixed_Root 1 (Lim.cong (fun n => fn12 n n1) (by
      refine Lim.bif rfl ?_ ?_
      · exact Lim.leaf rfl
      refine Lim.bind (show Lim enc_L_fixed_Root_0 _ (L_fixed_Root_0 n1 0 0) from Lim.loop 0 rfl) fun p11 => ?_
      refine Lim.exit (.exit 0) S12_0_e0 ((p11, ()), ()) rfl rfl rfl ?_
      exact Lim.leaf rfl
    )) h

/-! armplan/armplanlaw1.awake -/
abbrev o_law1_awake (v : Bool) : VtsT outs14 × MtsT mouts14 := ((v, ()), ())
abbrev encO_law1_awake (v : Bool) : R := (encR outs14 (o_law1_awake v).1, encMts mouts14 (o_law1_awake v).2)
theorem injO_law1_awake : ∀ a b, encO_law1_awake a = encO_law1_awake b → a = b := by
  rintro a0 b0 h
  have h1 := encR_inj (Prod.mk.inj h).1
  have h2 := encMts_inj (Prod.mk.inj h).2
  simp [o_law1_awake] at h1 h2
  simp [h1, h2]
noncomputable abbrev X_law1_awake  (n : Nat) : Option R := (lvl Try.prog HH n).2 14 [] []
noncomputable def F_law1_awake  : Option Bool := den encO_law1_awake X_law1_awake
theorem lim_law1_awake (k : Nat)  : Lim (fun v => (encR outs14 (o_law1_awake v).1, encMts mouts14 (o_law1_awake v).2)) (fun n => (lvl Try.prog HH (n + k)).2 14 [] []) (F_law1_awake) := Lim.den (x := X_law1_awake) k
theorem F_law1_awake_of  : ∀ r, ((
    (F_fixed_MulDown 98304 32768).bind fun y1 =>
    bif y1 == 49152 then (
      (F_fixed_Root 15).bind fun y2 =>
      some (y2 == 3))
    else
    some false) : Option Bool) = some r →
    F_law1_awake = some r := fun r h =>
  den_of (x := X_law1_awake) injO_law1_awake 1 (Lim.cong (fun n => fn14 n ) (by
      refine Lim.call o_fixed_MulDown (lim_fixed_MulDown 0 98304 32768) rfl rfl fun y1 => ?_
      refine Lim.bif rfl ?_ ?_
      · refine Lim.call o_fixed_Root (lim_fixed_Root 0 15) rfl rfl fun y2 => ?_
        exact Lim.leaf rfl
      exact Lim.leaf rfl
    )) h

/-! armplan/fixed.quotient -/
abbrev o_fixed_quotient (v : Int) : VtsT outs37 × MtsT mouts37 := ((v, ()), ())
abbrev encO_fixed_quotient (v : Int) : R := (encR outs37 (o_fixed_quotient v).1, encMts mouts37 (o_fixed_quotient v).2)
theorem injO_fixed_quotient : ∀ a b, encO_fixed_quotient a = encO_fixed_quotient b → a = b := by
  rintro a0 b0 h
  have h1 := encR_inj (Prod.mk.inj h).1
  have h2 := encMts_inj (Prod.mk.inj h).2
  simp [o_fixed_quotient] at h1 h2
  simp [h1, h2]
noncomputable abbrev X_fixed_quotient (x1 : Int) (y2 : Int) (n : Nat) : Option R := (lvl Try.prog HH n).2 37 [.s (.one (.v (.int .i64 x1))), .s (.one (.v (.int .i64 y2)))] []
noncomputable def F_fixed_quotient (x1 : Int) (y2 : Int) : Option Int := den encO_fixed_quotient (X_fixed_quotient x1 y2)
theorem lim_fixed_quotient (k : Nat) (x1 : Int) (y2 : Int) : Lim (fun v => (encR outs37 (o_fixed_quotient v).1, encMts mouts37 (o_fixed_quotient v).2)) (fun n => (lvl Try.prog HH (n + k)).2 37 [.s (.one (.v (.int .i64 x1))), .s (.one (.v (.int .i64 y2)))] []) (F_fixed_quotient x1 y2) := Lim.den (x := (X_fixed_quotient x1 y2)) k
theorem F_fixed_quotient_of (x1 : Int) (y2 : Int) : ∀ r, ((
    bif y2 == 0 then (
      none)
    else
    letIn (IntKind.wrap .i64 (Int.tdiv x1 y2) : Int) fun n3 =>
    bif y2 == 0 then (
      none)
    else
    letIn (Int.tmod x1 y2 : Int) fun n4 =>
    bif n4 != 0 then (
      bif !((decide (x1 < 0)) == (decide (y2 < 0))) then (
        letIn (IntKind.wrap .i64 (n3 - 1) : Int) fun n5 =>
        some n5)
      else
      some n3)
    else
    some n3) : Option Int) = some r →
    F_fixed_quotient x1 y2 = some r := fun r h =>
  den_of (x := (X_fixed_quotient x1 y2)) injO_fixed_quotient 1 (Lim.cong (fun n => fn37 n x1 y2) (by
      refine Lim.bif rfl Lim.none_ ?_
      refine Lim.letIn rfl fun n3 => ?_
      refine Lim.bif rfl Lim.none_ ?_
      refine Lim.letIn rfl fun n4 => ?_
      refine Lim.bif rfl ?_ ?_
      · refine Lim.bif rfl ?_ ?_
        · refine Lim.letIn rfl fun n5 => ?_
          exact Lim.leaf rfl
        exact Lim.leaf rfl
      exact Lim.leaf rfl
    )) h

/-! armplan/fixed.DivUp -/
abbrev o_fixed_DivUp (v : Int × Bool) : VtsT outs33 × MtsT mouts33 := ((v.1, v.2, ()), ())
abbrev encO_fixed_DivUp (v : Int × Bool) : R := (encR outs33 (o_fixed_DivUp v).1, encMts mouts33 (o_fixed_DivUp v).2)
theorem injO_fixed_DivUp : ∀ a b, encO_fixed_DivUp a = encO_fixed_DivUp b → a = b := by
  rintro ⟨a0, a1⟩ ⟨b0, b1⟩ h
  have h1 := encR_inj (Prod.mk.inj h).1
  have h2 := encMts_inj (Prod.mk.inj h).2
  simp [o_fixed_DivUp] at h1 h2
  simp [h1, h2]
noncomputable abbrev X_fixed_DivUp (a1 : Int) (b2 : Int) (n : Nat) : Option R := (lvl Try.prog HH n).2 33 [.s (.one (.v (.int .i64 a1))), .s (.one (.v (.int .i64 b2)))] []
noncomputable def F_fixed_DivUp (a1 : Int) (b2 : Int) : Option (Int × Bool) := den encO_fixed_DivUp (X_fixed_DivUp a1 b2)
theorem lim_fixed_DivUp (k : Nat) (a1 : Int) (b2 : Int) : Lim (fun v => (encR outs33 (o_fixed_DivUp v).1, encMts mouts33 (o_fixed_DivUp v).2)) (fun n => (lvl Try.prog HH (n + k)).2 33 [.s (.one (.v (.int .i64 a1))), .s (.one (.v (.int .i64 b2)))] []) (F_fixed_DivUp a1 b2) := Lim.den (x := (X_fixed_DivUp a1 b2)) k
theorem F_fixed_DivUp_of (a1 : Int) (b2 : Int) : ∀ r, ((
    bif b2 == 0 then (
      some (0, false))
    else
    (F_fixed_Clamp a1).bind fun y3 =>
    letIn (IntKind.wrap .i64 (0 - y3) : Int) fun n4 =>
    letIn (IntKind.wrap .i64 (n4 * 65536) : Int) fun n5 =>
    (F_fixed_Clamp b2).bind fun y6 =>
    (F_fixed_quotient n5 y6).bind fun y7 =>
    letIn (IntKind.wrap .i64 (0 - y7) : Int) fun n8 =>
    some (n8, true)) : Option (Int × Bool)) = some r →
    F_fixed_DivUp a1 b2 = some r := fun r h =>
  den_of (x := (X_fixed_DivUp a1 b2)) injO_fixed_DivUp 1 (Lim.cong (fun n => fn33 n a1 b2) (by
      refine Lim.bif rfl ?_ ?_
      · exact Lim.leaf rfl
      refine Lim.call o_fixed_Clamp (lim_fixed_Clamp 0 a1) rfl rfl fun y3 => ?_
      refine Lim.letIn rfl fun n4 => ?_
      refine Lim.letIn rfl fun n5 => ?_
      refine Lim.call o_fixed_Clamp (lim_fixed_Clamp 0 b2) rfl rfl fun y6 => ?_
      refine Lim.call o_fixed_quotient (lim_fixed_quotient 0 n5 y6) rfl rfl fun y7 => ?_
      refine Lim.letIn rfl fun n8 => ?_
      exact Lim.leaf rfl
    )) h

/-! armplan/fixed.DivDown -/
abbrev o_fixed_DivDown (v : Int × Bool) : VtsT outs31 × MtsT mouts31 := ((v.1, v.2, ()), ())
abbrev encO_fixed_DivDown (v : Int × Bool) : R := (encR outs31 (o_fixed_DivDown v).1, encMts mouts31 (o_fixed_DivDown v).2)
theorem injO_fixed_DivDown : ∀ a b, encO_fixed_DivDown a = encO_fixed_DivDown b → a = b := by
  rintro ⟨a0, a1⟩ ⟨b0, b1⟩ h
  have h1 := encR_inj (Prod.mk.inj h).1
  have h2 := encMts_inj (Prod.mk.inj h).2
  simp [o_fixed_DivDown] at h1 h2
  simp [h1, h2]
noncomputable abbrev X_fixed_DivDown (a1 : Int) (b2 : Int) (n : Nat) : Option R := (lvl Try.prog HH n).2 31 [.s (.one (.v (.int .i64 a1))), .s (.one (.v (.int .i64 b2)))] []
noncomputable def F_fixed_DivDown (a1 : Int) (b2 : Int) : Option (Int × Bool) := den encO_fixed_DivDown (X_fixed_DivDown a1 b2)
theorem lim_fixed_DivDown (k : Nat) (a1 : Int) (b2 : Int) : Lim (fun v => (encR outs31 (o_fixed_DivDown v).1, encMts mouts31 (o_fixed_DivDown v).2)) (fun n => (lvl Try.prog HH (n + k)).2 31 [.s (.one (.v (.int .i64 a1))), .s (.one (.v (.int .i64 b2)))] []) (F_fixed_DivDown a1 b2) := Lim.den (x := (X_fixed_DivDown a1 b2)) k
theorem F_fixed_DivDown_of (a1 : Int) (b2 : Int) : ∀ r, ((
    bif b2 == 0 then (
      some (0, false))
    else
    (F_fixed_Clamp a1).bind fun y3 =>
    letIn (IntKind.wrap .i64 (y3 * 65536) : Int) fun n4 =>
    (F_fixed_Clamp b2).bind fun y5 =>
    (F_fixed_quotient n4 y5).bind fun y6 =>
    some (y6, true)) : Option (Int × Bool)) = some r →
    F_fixed_DivDown a1 b2 = some r := fun r h =>
  den_of (x := (X_fixed_DivDown a1 b2)) injO_fixed_DivDown 1 (Lim.cong (fun n => fn31 n a1 b2) (by
      refine Lim.bif rfl ?_ ?_
      · exact Lim.leaf rfl
      refine Lim.call o_fixed_Clamp (lim_fixed_Clamp 0 a1) rfl rfl fun y3 => ?_
      refine Lim.letIn rfl fun n4 => ?_
      refine Lim.call o_fixed_Clamp (lim_fixed_Clamp 0 b2) rfl rfl fun y5 => ?_
      refine Lim.call o_fixed_quotient (lim_fixed_quotient 0 n4 y5) rfl rfl fun y6 => ?_
      exact Lim.leaf rfl
    )) h

/-! armplan/fixed.ShiftUp -/
abbrev o_fixed_ShiftUp (v : Int) : VtsT outs17 × MtsT mouts17 := ((v, ()), ())
abbrev encO_fixed_ShiftUp (v : Int) : R := (encR outs17 (o_fixed_ShiftUp v).1, encMts mouts17 (o_fixed_ShiftUp v).2)
theorem injO_fixed_ShiftUp : ∀ a b, encO_fixed_ShiftUp a = encO_fixed_ShiftUp b → a = b := by
  rintro a0 b0 h
  have h1 := encR_inj (Prod.mk.inj h).1
  have h2 := encMts_inj (Prod.mk.inj h).2
  simp [o_fixed_ShiftUp] at h1 h2
  simp [h1, h2]
noncomputable abbrev X_fixed_ShiftUp (a1 : Int) (k2 : Int) (n : Nat) : Option R := (lvl Try.prog HH n).2 17 [.s (.one (.v (.int .i64 a1))), .s (.one (.v (.int .i64 k2)))] []
noncomputable def F_fixed_ShiftUp (a1 : Int) (k2 : Int) : Option Int := den encO_fixed_ShiftUp (X_fixed_ShiftUp a1 k2)
theorem lim_fixed_ShiftUp (k : Nat) (a1 : Int) (k2 : Int) : Lim (fun v => (encR outs17 (o_fixed_ShiftUp v).1, encMts mouts17 (o_fixed_ShiftUp v).2)) (fun n => (lvl Try.prog HH (n + k)).2 17 [.s (.one (.v (.int .i64 a1))), .s (.one (.v (.int .i64 k2)))] []) (F_fixed_ShiftUp a1 k2) := Lim.den (x := (X_fixed_ShiftUp a1 k2)) k
theorem F_fixed_ShiftUp_of (a1 : Int) (k2 : Int) : ∀ r, ((
    (F_fixed_ShiftDown a1 k2).bind fun y3 =>
    bif decide (k2 ≥ 0) then (
      bif decide (k2 < 0) then (
        none)
      else
      letIn (IntKind.wrap .i64 (y3 * (2 ^ min k2.toNat 64)) : Int) fun n4 =>
      bif n4 != a1 then (
        letIn (IntKind.wrap .i64 (y3 + 1) : Int) fun n5 =>
        some n5)
      else
      some y3)
    else
    some y3) : Option Int) = some r →
    F_fixed_ShiftUp a1 k2 = some r := fun r h =>
  den_of (x := (X_fixed_ShiftUp a1 k2)) injO_fixed_ShiftUp 1 (Lim.cong (fun n => fn17 n a1 k2) (by
      refine Lim.call o_fixed_ShiftDown (lim_fixed_ShiftDown 0 a1 k2) rfl rfl fun y3 => ?_
      refine Lim.bif rfl ?_ ?_
      · refine Lim.bif rfl Lim.none_ ?_
        refine Lim.letIn rfl fun n4 => ?_
        refine Lim.bif rfl ?_ ?_
        · refine Lim.letIn rfl fun n5 => ?_
          exact Lim.leaf rfl
        exact Lim.leaf rfl
      exact Lim.leaf rfl
    )) h

/-! armplan/fixed.MulUp -/
abbrev o_fixed_MulUp (v : Int) : VtsT outs23 × MtsT mouts23 := ((v, ()), ())
abbrev encO_fixed_MulUp (v : Int) : R := (encR outs23 (o_fixed_MulUp v).1, encMts mouts23 (o_fixed_MulUp v).2)
theorem injO_fixed_MulUp : ∀ a b, encO_fixed_MulUp a = encO_fixed_MulUp b → a = b := by
  rintro a0 b0 h
  have h1 := encR_inj (Prod.mk.inj h).1
  have h2 := encMts_inj (Prod.mk.inj h).2
  simp [o_fixed_MulUp] at h1 h2
  simp [h1, h2]
noncomputable abbrev X_fixed_MulUp (a1 : Int) (b2 : Int) (n : Nat) : Option R := (lvl Try.prog HH n).2 23 [.s (.one (.v (.int .i64 a1))), .s (.one (.v (.int .i64 b2)))] []
noncomputable def F_fixed_MulUp (a1 : Int) (b2 : Int) : Option Int := den encO_fixed_MulUp (X_fixed_MulUp a1 b2)
theorem lim_fixed_MulUp (k : Nat) (a1 : Int) (b2 : Int) : Lim (fun v => (encR outs23 (o_fixed_MulUp v).1, encMts mouts23 (o_fixed_MulUp v).2)) (fun n => (lvl Try.prog HH (n + k)).2 23 [.s (.one (.v (.int .i64 a1))), .s (.one (.v (.int .i64 b2)))] []) (F_fixed_MulUp a1 b2) := Lim.den (x := (X_fixed_MulUp a1 b2)) k
theorem F_fixed_MulUp_of (a1 : Int) (b2 : Int) : ∀ r, ((
    (F_fixed_product a1 b2).bind fun y3 =>
    (F_fixed_ShiftUp y3 16).bind fun y4 =>
    some y4) : Option Int) = some r →
    F_fixed_MulUp a1 b2 = some r := fun r h =>
  den_of (x := (X_fixed_MulUp a1 b2)) injO_fixed_MulUp 1 (Lim.cong (fun n => fn23 n a1 b2) (by
      refine Lim.call o_fixed_product (lim_fixed_product 0 a1 b2) rfl rfl fun y3 => ?_
      refine Lim.call o_fixed_ShiftUp (lim_fixed_ShiftUp 0 y3 16) rfl rfl fun y4 => ?_
      exact Lim.leaf rfl
    )) h

/-! armplan/armplanlaw1.FixedNegates -/
abbrev o_law1_FixedNegates (v : Bool) : VtsT outs11 × MtsT mouts11 := ((v, ()), ())
abbrev encO_law1_FixedNegates (v : Bool) : R := (encR outs11 (o_law1_FixedNegates v).1, encMts mouts11 (o_law1_FixedNegates v).2)
theorem injO_law1_FixedNegates : ∀ a b, encO_law1_FixedNegates a = encO_law1_FixedNegates b → a = b := by
  rintro a0 b0 h
  have h1 := encR_inj (Prod.mk.inj h).1
  have h2 := encMts_inj (Prod.mk.inj h).2
  simp [o_law1_FixedNegates] at h1 h2
  simp [h1, h2]
noncomputable abbrev X_law1_FixedNegates (a1 : Int) (b2 : Int) (shift3 : Int) (n : Nat) : Option R := (lvl Try.prog HH n).2 11 [.s (.one (.v (.int .i64 a1))), .s (.one (.v (.int .i64 b2))), .s (.one (.v (.int .u8 shift3)))] []
noncomputable def F_law1_FixedNegates (a1 : Int) (b2 : Int) (shift3 : Int) : Option Bool := den encO_law1_FixedNegates (X_law1_FixedNegates a1 b2 shift3)
theorem lim_law1_FixedNegates (k : Nat) (a1 : Int) (b2 : Int) (shift3 : Int) : Lim (fun v => (encR outs11 (o_law1_FixedNegates v).1, encMts mouts11 (o_law1_FixedNegates v).2)) (fun n => (lvl Try.prog HH (n + k)).2 11 [.s (.one (.v (.int .i64 a1))), .s (.one (.v (.int .i64 b2))), .s (.one (.v (.int .u8 shift3)))] []) (F_law1_FixedNegates a1 b2 shift3) := Lim.den (x := (X_law1_FixedNegates a1 b2 shift3)) k
theorem F_law1_FixedNegates_of (a1 : Int) (b2 : Int) (shift3 : Int) : ∀ r, ((
    letIn (Int.tmod shift3 64 : Int) fun n4 =>
    bif decide (n4 < 0) then (
      none)
    else
    letIn (Int.fdiv a1 (2 ^ min n4.toNat 64) : Int) fun n5 =>
    letIn (IntKind.wrap .u8 (Int.tdiv shift3 4) : Int) fun n6 =>
    letIn (Int.tmod n6 64 : Int) fun n7 =>
    bif decide (n7 < 0) then (
      none)
    else
    letIn (Int.fdiv b2 (2 ^ min n7.toNat 64) : Int) fun n8 =>
    bif n5 == (-9223372036854775808) then (
      (F_law1_awake).bind fun y9 =>
      some y9)
    else
    (F_fixed_DivUp n5 n8).bind fun y10 =>
    letIn (IntKind.wrap .i64 (0 - n5) : Int) fun n11 =>
    (F_fixed_DivDown n11 n8).bind fun y12 =>
    (F_law1_awake).bind fun y13 =>
    bif y13 then (
      (F_fixed_MulUp n5 n8).bind fun y14 =>
      letIn (IntKind.wrap .i64 (0 - n5) : Int) fun n15 =>
      (F_fixed_MulDown n15 n8).bind fun y16 =>
      letIn (IntKind.wrap .i64 (0 - y16) : Int) fun n17 =>
      bif y14 == n17 then (
        letIn (IntKind.wrap .i64 (0 - y12.1) : Int) fun n18 =>
        bif y10.1 == n18 then (
          bif y10.2 == y12.2 then (
            some (y10.2 == (n8 != 0)))
          else
          some false)
        else
        some false)
      else
      some false)
    else
    some false) : Option Bool) = some r →
    F_law1_FixedNegates a1 b2 shift3 = some r := fun r h =>
  den_of (x := (X_law1_FixedNegates a1 b2 shift3)) injO_law1_FixedNegates 1 (Lim.cong (fun n => fn11 n a1 b2 shift3) (by
      refine Lim.letIn rfl fun n4 => ?_
      refine Lim.bif rfl Lim.none_ ?_
      refine Lim.letIn rfl fun n5 => ?_
      refine Lim.letIn rfl fun n6 => ?_
      refine Lim.letIn rfl fun n7 => ?_
      refine Lim.bif rfl Lim.none_ ?_
      refine Lim.letIn rfl fun n8 => ?_
      refine Lim.bif rfl ?_ ?_
      · refine Lim.call o_law1_awake (lim_law1_awake 0 ) rfl rfl fun y9 => ?_
        exact Lim.leaf rfl
      refine Lim.call o_fixed_DivUp (lim_fixed_DivUp 0 n5 n8) rfl rfl fun y10 => ?_
      refine Lim.letIn rfl fun n11 => ?_
      refine Lim.call o_fixed_DivDown (lim_fixed_DivDown 0 n11 n8) rfl rfl fun y12 => ?_
      refine Lim.call o_law1_awake (lim_law1_awake 0 ) rfl rfl fun y13 => ?_
      refine Lim.bif rfl ?_ ?_
      · refine Lim.call o_fixed_MulUp (lim_fixed_MulUp 0 n5 n8) rfl rfl fun y14 => ?_
        refine Lim.letIn rfl fun n15 => ?_
        refine Lim.call o_fixed_MulDown (lim_fixed_MulDown 0 n15 n8) rfl rfl fun y16 => ?_
        refine Lim.letIn rfl fun n17 => ?_
        refine Lim.bif rfl ?_ ?_
        · refine Lim.letIn rfl fun n18 => ?_
          refine Lim.bif rfl ?_ ?_
          · refine Lim.bif rfl ?_ ?_
            · exact Lim.leaf rfl
            exact Lim.leaf rfl
          exact Lim.leaf rfl
        exact Lim.leaf rfl
      exact Lim.leaf rfl
    )) h
end Go.Proofs.Ytdeajnmheebghaa.Am
