/- PRINTED: the functions without levels. -/
import Derived.Test.YtfpdjpleplhcgaaE0
import Derived.Test.YtfpdjpleplhcgaaE1
import Derived.Test.YtfpdjpleplhcgaaE2
import Derived.Test.YtfpdjpleplhcgaaE3
import Derived.Test.YtfpdjpleplhcgaaV
set_option linter.unusedVariables false
set_option linter.unusedSimpArgs false
set_option maxRecDepth 100000
namespace Go.Proofs.Ytfpdjpleplhcgaa.Am
open Go Go.Proofs
/-! armplan/armplanmake.Round -/
abbrev o_make_Round (v : Int) : VtsT outs41 × MtsT mouts41 := ((v, ()), ())
abbrev encO_make_Round (v : Int) : R := (encR outs41 (o_make_Round v).1, encMts mouts41 (o_make_Round v).2)
theorem injO_make_Round : ∀ a b, encO_make_Round a = encO_make_Round b → a = b := by
  rintro a0 b0 h
  have h1 := encR_inj (Prod.mk.inj h).1
  have h2 := encMts_inj (Prod.mk.inj h).2
  simp [o_make_Round] at h1 h2
  simp [h1, h2]
noncomputable abbrev X_make_Round (n1 : Int) (k2 : Int) (n : Nat) : Option R := (lvl Try.prog HH n).2 41 [.s (.one (.v (.int .i64 n1))), .s (.one (.v (.int .i64 k2)))] []
noncomputable def F_make_Round (n1 : Int) (k2 : Int) : Option Int := den encO_make_Round (X_make_Round n1 k2)
theorem lim_make_Round (k : Nat) (n1 : Int) (k2 : Int) : Lim (fun v => (encR outs41 (o_make_Round v).1, encMts mouts41 (o_make_Round v).2)) (fun n => (lvl Try.prog HH (n + k)).2 41 [.s (.one (.v (.int .i64 n1))), .s (.one (.v (.int .i64 k2)))] []) (F_make_Round n1 k2) := Lim.den (x := (X_make_Round n1 k2)) k
theorem F_make_Round_of (n1 : Int) (k2 : Int) : ∀ r, ((
    bif k2 == 0 then (
      none)
    else
    letIn (Int.tmod n1 k2 : Int) fun n3 =>
    bif decide (n3 < 0) then (
      letIn (IntKind.wrap .i64 (n3 + k2) : Int) fun n4 =>
      some n4)
    else
    some n3) : Option Int) = some r →
    F_make_Round n1 k2 = some r := fun r h =>
  den_of (x := (X_make_Round n1 k2)) injO_make_Round 1 (Lim.cong (fun n => fn41 n n1 k2) (by
      refine Lim.bif rfl Lim.none_ ?_
      refine Lim.letIn rfl fun n3 => ?_
      refine Lim.bif rfl ?_ ?_
      · refine Lim.letIn rfl fun n4 => ?_
        exact Lim.leaf rfl
      exact Lim.leaf rfl
    )) h

/-! armplan/armplanref1.Clamp -/
abbrev o_ref1_Clamp (v : Int) : VtsT outs102 × MtsT mouts102 := ((v, ()), ())
abbrev encO_ref1_Clamp (v : Int) : R := (encR outs102 (o_ref1_Clamp v).1, encMts mouts102 (o_ref1_Clamp v).2)
theorem injO_ref1_Clamp : ∀ a b, encO_ref1_Clamp a = encO_ref1_Clamp b → a = b := by
  rintro a0 b0 h
  have h1 := encR_inj (Prod.mk.inj h).1
  have h2 := encMts_inj (Prod.mk.inj h).2
  simp [o_ref1_Clamp] at h1 h2
  simp [h1, h2]
noncomputable abbrev X_ref1_Clamp (a1 : Int) (n : Nat) : Option R := (lvl Try.prog HH n).2 102 [.s (.one (.v (.int .i64 a1)))] []
noncomputable def F_ref1_Clamp (a1 : Int) : Option Int := den encO_ref1_Clamp (X_ref1_Clamp a1)
theorem lim_ref1_Clamp (k : Nat) (a1 : Int) : Lim (fun v => (encR outs102 (o_ref1_Clamp v).1, encMts mouts102 (o_ref1_Clamp v).2)) (fun n => (lvl Try.prog HH (n + k)).2 102 [.s (.one (.v (.int .i64 a1)))] []) (F_ref1_Clamp a1) := Lim.den (x := (X_ref1_Clamp a1)) k
theorem F_ref1_Clamp_of (a1 : Int) : ∀ r, ((
    letIn (if 2147483648 < a1 then 2147483648 else a1 : Int) fun n2 =>
    letIn (if n2 > (-2147483648) then n2 else (-2147483648) : Int) fun n3 =>
    some n3) : Option Int) = some r →
    F_ref1_Clamp a1 = some r := fun r h =>
  den_of (x := (X_ref1_Clamp a1)) injO_ref1_Clamp 1 (Lim.cong (fun n => fn102 n a1) (by
      refine Lim.letIn rfl fun n2 => ?_
      refine Lim.letIn rfl fun n3 => ?_
      exact Lim.leaf rfl
    )) h
def G_ref1_Clamp (a1 : Int) : Int :=
  letIn (if 2147483648 < a1 then 2147483648 else a1 : Int) fun n2 =>
  letIn (if n2 > (-2147483648) then n2 else (-2147483648) : Int) fun n3 =>
  n3
theorem F_ref1_Clamp_eq (a1 : Int) : F_ref1_Clamp a1 = some (G_ref1_Clamp a1) := F_ref1_Clamp_of a1 _ (by
  unfold G_ref1_Clamp
  refine Tot.letIn fun n2 => ?_
  refine Tot.letIn fun n3 => ?_
  rfl)

/-! armplan/armplanmake.Interval -/
abbrev o_make_Interval (v : I2) : VtsT outs43 × MtsT mouts43 := (((v.c0, v.c1, ()), ()), ())
abbrev encO_make_Interval (v : I2) : R := (encR outs43 (o_make_Interval v).1, encMts mouts43 (o_make_Interval v).2)
theorem injO_make_Interval : ∀ a b, encO_make_Interval a = encO_make_Interval b → a = b := by
  rintro ⟨a0, a1⟩ ⟨b0, b1⟩ h
  have h1 := encR_inj (Prod.mk.inj h).1
  have h2 := encMts_inj (Prod.mk.inj h).2
  simp [o_make_Interval] at h1 h2
  simp [h1, h2]
noncomputable abbrev X_make_Interval (a1 : Int) (b2 : Int) (n : Nat) : Option R := (lvl Try.prog HH n).2 43 [.s (.one (.v (.int .i64 a1))), .s (.one (.v (.int .i64 b2)))] []
noncomputable def F_make_Interval (a1 : Int) (b2 : Int) : Option I2 := den encO_make_Interval (X_make_Interval a1 b2)
theorem lim_make_Interval (k : Nat) (a1 : Int) (b2 : Int) : Lim (fun v => (encR outs43 (o_make_Interval v).1, encMts mouts43 (o_make_Interval v).2)) (fun n => (lvl Try.prog HH (n + k)).2 43 [.s (.one (.v (.int .i64 a1))), .s (.one (.v (.int .i64 b2)))] []) (F_make_Interval a1 b2) := Lim.den (x := (X_make_Interval a1 b2)) k
theorem F_make_Interval_of (a1 : Int) (b2 : Int) : ∀ r, ((
    letIn (Int.fdiv a1 8 : Int) fun n3 =>
    (F_make_Round n3 27).bind fun y4 =>
    letIn (IntKind.wrap .i64 (4 + y4) : Int) fun n5 =>
    letIn (IntKind.wrap .u64 n5 : Int) fun n6 =>
    bif decide (n6 < 0) then (
      none)
    else
    letIn (IntKind.wrap .i64 (1 * (2 ^ min n6.toNat 64)) : Int) fun n7 =>
    letIn (IntKind.wrap .i64 (2 * n7) : Int) fun n8 =>
    letIn (IntKind.wrap .i64 (n8 + 1) : Int) fun n9 =>
    (F_make_Round a1 n9).bind fun y10 =>
    letIn (IntKind.wrap .i64 (y10 - n7) : Int) fun n11 =>
    letIn (IntKind.wrap .i64 (2 * n7) : Int) fun n12 =>
    letIn (IntKind.wrap .i64 (n12 + 1) : Int) fun n13 =>
    (F_make_Round b2 n13).bind fun y14 =>
    letIn (IntKind.wrap .i64 (y14 - n7) : Int) fun n15 =>
    letIn (IntKind.wrap .i64 ((BitVec.ofInt 64 b2 &&& BitVec.ofInt 64 1).toNat : Nat) : Int) fun n16 =>
    bif n16 == 0 then (
      letIn (Int.fdiv b2 2 : Int) fun n17 =>
      letIn (IntKind.wrap .i64 (Int.tdiv n7 8) : Int) fun n18 =>
      letIn (IntKind.wrap .i64 (1 + n18) : Int) fun n19 =>
      (F_make_Round n17 n19).bind fun y20 =>
      letIn (IntKind.wrap .i64 (n11 + y20) : Int) fun n21 =>
      (F_ref1_Clamp n11).bind fun y22 =>
      (F_ref1_Clamp n21).bind fun y23 =>
      letIn (if y23 < y22 then y23 else y22 : Int) fun n24 =>
      (F_ref1_Clamp n11).bind fun y25 =>
      (F_ref1_Clamp n21).bind fun y26 =>
      letIn (if y26 > y25 then y26 else y25 : Int) fun n27 =>
      some ((I2.mk n24 n27)))
    else
    (F_ref1_Clamp n11).bind fun y28 =>
    (F_ref1_Clamp n15).bind fun y29 =>
    letIn (if y29 < y28 then y29 else y28 : Int) fun n30 =>
    (F_ref1_Clamp n11).bind fun y31 =>
    (F_ref1_Clamp n15).bind fun y32 =>
    letIn (if y32 > y31 then y32 else y31 : Int) fun n33 =>
    some ((I2.mk n30 n33))) : Option I2) = some r →
    F_make_Interval a1 b2 = some r := fun r h =>
  den_of (x := (X_make_Interval a1 b2)) injO_make_Interval 1 (Lim.cong (fun n => fn43 n a1 b2) (by
      refine Lim.letIn rfl fun n3 => ?_
      refine Lim.call o_make_Round (lim_make_Round 0 n3 27) rfl rfl fun y4 => ?_
      refine Lim.letIn rfl fun n5 => ?_
      refine Lim.letIn rfl fun n6 => ?_
      refine Lim.bif rfl Lim.none_ ?_
      refine Lim.letIn rfl fun n7 => ?_
      refine Lim.letIn rfl fun n8 => ?_
      refine Lim.letIn rfl fun n9 => ?_
      refine Lim.call o_make_Round (lim_make_Round 0 a1 n9) rfl rfl fun y10 => ?_
      refine Lim.letIn rfl fun n11 => ?_
      refine Lim.letIn rfl fun n12 => ?_
      refine Lim.letIn rfl fun n13 => ?_
      refine Lim.call o_make_Round (lim_make_Round 0 b2 n13) rfl rfl fun y14 => ?_
      refine Lim.letIn rfl fun n15 => ?_
      refine Lim.letIn rfl fun n16 => ?_
      refine Lim.bif rfl ?_ ?_
      · refine Lim.letIn rfl fun n17 => ?_
        refine Lim.letIn rfl fun n18 => ?_
        refine Lim.letIn rfl fun n19 => ?_
        refine Lim.call o_make_Round (lim_make_Round 0 n17 n19) rfl rfl fun y20 => ?_
        refine Lim.letIn rfl fun n21 => ?_
        refine Lim.call o_ref1_Clamp (lim_ref1_Clamp 0 n11) rfl rfl fun y22 => ?_
        refine Lim.call o_ref1_Clamp (lim_ref1_Clamp 0 n21) rfl rfl fun y23 => ?_
        refine Lim.letIn rfl fun n24 => ?_
        refine Lim.call o_ref1_Clamp (lim_ref1_Clamp 0 n11) rfl rfl fun y25 => ?_
        refine Lim.call o_ref1_Clamp (lim_ref1_Clamp 0 n21) rfl rfl fun y26 => ?_
        refine Lim.letIn rfl fun n27 => ?_
        exact Lim.leaf rfl
      refine Lim.call o_ref1_Clamp (lim_ref1_Clamp 0 n11) rfl rfl fun y28 => ?_
      refine Lim.call o_ref1_Clamp (lim_ref1_Clamp 0 n15) rfl rfl fun y29 => ?_
      refine Lim.letIn rfl fun n30 => ?_
      refine Lim.call o_ref1_Clamp (lim_ref1_Clamp 0 n11) rfl rfl fun y31 => ?_
      refine Lim.call o_ref1_Clamp (lim_ref1_Clamp 0 n15) rfl rfl fun y32 => ?_
      refine Lim.letIn rfl fun n33 => ?_
      exact Lim.leaf rfl
    )) h

/-! armplan/interval.Valid -/
abbrev o_interval_Valid (v : Bool) : VtsT outs48 × MtsT mouts48 := ((v, ()), ())
abbrev encO_interval_Valid (v : Bool) : R := (encR outs48 (o_interval_Valid v).1, encMts mouts48 (o_interval_Valid v).2)
theorem injO_interval_Valid : ∀ a b, encO_interval_Valid a = encO_interval_Valid b → a = b := by
  rintro a0 b0 h
  have h1 := encR_inj (Prod.mk.inj h).1
  have h2 := encMts_inj (Prod.mk.inj h).2
  simp [o_interval_Valid] at h1 h2
  simp [h1, h2]
noncomputable abbrev X_interval_Valid (a1 : I2) (n : Nat) : Option R := (lvl Try.prog HH n).2 48 [.s (.agg true [.v (.int .i64 a1.c0), .v (.int .i64 a1.c1)])] []
noncomputable def F_interval_Valid (a1 : I2) : Option Bool := den encO_interval_Valid (X_interval_Valid a1)
theorem lim_interval_Valid (k : Nat) (a1 : I2) : Lim (fun v => (encR outs48 (o_interval_Valid v).1, encMts mouts48 (o_interval_Valid v).2)) (fun n => (lvl Try.prog HH (n + k)).2 48 [.s (.agg true [.v (.int .i64 a1.c0), .v (.int .i64 a1.c1)])] []) (F_interval_Valid a1) := Lim.den (x := (X_interval_Valid a1)) k
theorem F_interval_Valid_of (a1 : I2) : ∀ r, ((
    bif decide (a1.c0 ≥ (-2147483648)) then (
      bif decide (a1.c0 ≤ a1.c1) then (
        some (decide (a1.c1 ≤ 2147483648)))
      else
      some false)
    else
    some false) : Option Bool) = some r →
    F_interval_Valid a1 = some r := fun r h =>
  den_of (x := (X_interval_Valid a1)) injO_interval_Valid 1 (Lim.cong (fun n => fn48 n a1.c0 a1.c1) (by
      refine Lim.bif rfl ?_ ?_
      · refine Lim.bif rfl ?_ ?_
        · exact Lim.leaf rfl
        exact Lim.leaf rfl
      exact Lim.leaf rfl
    )) h
def G_interval_Valid (a1 : I2) : Bool :=
  bif decide (a1.c0 ≥ (-2147483648)) then (
    bif decide (a1.c0 ≤ a1.c1) then (
      (decide (a1.c1 ≤ 2147483648)))
    else
    false)
  else
  false
theorem F_interval_Valid_eq (a1 : I2) : F_interval_Valid a1 = some (G_interval_Valid a1) := F_interval_Valid_of a1 _ (by
  unfold G_interval_Valid
  refine Tot.bif ?_ ?_
  · refine Tot.bif ?_ ?_
    · rfl
    rfl
  rfl)

/-! armplan/interval.both -/
abbrev o_interval_both (v : Bool) : VtsT outs108 × MtsT mouts108 := ((v, ()), ())
abbrev encO_interval_both (v : Bool) : R := (encR outs108 (o_interval_both v).1, encMts mouts108 (o_interval_both v).2)
theorem injO_interval_both : ∀ a b, encO_interval_both a = encO_interval_both b → a = b := by
  rintro a0 b0 h
  have h1 := encR_inj (Prod.mk.inj h).1
  have h2 := encMts_inj (Prod.mk.inj h).2
  simp [o_interval_both] at h1 h2
  simp [h1, h2]
noncomputable abbrev X_interval_both (a1 : I2) (b2 : I2) (n : Nat) : Option R := (lvl Try.prog HH n).2 108 [.s (.agg true [.v (.int .i64 a1.c0), .v (.int .i64 a1.c1)]), .s (.agg true [.v (.int .i64 b2.c0), .v (.int .i64 b2.c1)])] []
noncomputable def F_interval_both (a1 : I2) (b2 : I2) : Option Bool := den encO_interval_both (X_interval_both a1 b2)
theorem lim_interval_both (k : Nat) (a1 : I2) (b2 : I2) : Lim (fun v => (encR outs108 (o_interval_both v).1, encMts mouts108 (o_interval_both v).2)) (fun n => (lvl Try.prog HH (n + k)).2 108 [.s (.agg true [.v (.int .i64 a1.c0), .v (.int .i64 a1.c1)]), .s (.agg true [.v (.int .i64 b2.c0), .v (.int .i64 b2.c1)])] []) (F_interval_both a1 b2) := Lim.den (x := (X_interval_both a1 b2)) k
theorem F_interval_both_of (a1 : I2) (b2 : I2) : ∀ r, ((
    (F_interval_Valid a1).bind fun y3 =>
    bif y3 then (
      (F_interval_Valid b2).bind fun y4 =>
      some y4)
    else
    some false) : Option Bool) = some r →
    F_interval_both a1 b2 = some r := fun r h =>
  den_of (x := (X_interval_both a1 b2)) injO_interval_both 1 (Lim.cong (fun n => fn108 n a1.c0 a1.c1 b2.c0 b2.c1) (by
      refine Lim.call o_interval_Valid (lim_interval_Valid 0 a1) rfl rfl fun y3 => ?_
      refine Lim.bif rfl ?_ ?_
      · refine Lim.call o_interval_Valid (lim_interval_Valid 0 b2) rfl rfl fun y4 => ?_
        exact Lim.leaf rfl
      exact Lim.leaf rfl
    )) h
def G_interval_both (a1 : I2) (b2 : I2) : Bool :=
  letIn (G_interval_Valid a1) fun y3 =>
  bif y3 then (
    letIn (G_interval_Valid b2) fun y4 =>
    y4)
  else
  false
theorem F_interval_both_eq (a1 : I2) (b2 : I2) : F_interval_both a1 b2 = some (G_interval_both a1 b2) := F_interval_both_of a1 b2 _ (by
  unfold G_interval_both
  refine Tot.bind (F_interval_Valid_eq a1) fun y3 => ?_
  refine Tot.bif ?_ ?_
  · refine Tot.bind (F_interval_Valid_eq b2) fun y4 => ?_
    rfl
  rfl)

/-! armplan/interval.Meet -/
abbrev o_interval_Meet (v : I2 × Bool) : VtsT outs49 × MtsT mouts49 := (((v.1.c0, v.1.c1, ()), v.2, ()), ())
abbrev encO_interval_Meet (v : I2 × Bool) : R := (encR outs49 (o_interval_Meet v).1, encMts mouts49 (o_interval_Meet v).2)
theorem injO_interval_Meet : ∀ a b, encO_interval_Meet a = encO_interval_Meet b → a = b := by
  rintro ⟨⟨a0, a1⟩, a2⟩ ⟨⟨b0, b1⟩, b2⟩ h
  have h1 := encR_inj (Prod.mk.inj h).1
  have h2 := encMts_inj (Prod.mk.inj h).2
  simp [o_interval_Meet] at h1 h2
  simp [h1, h2]
noncomputable abbrev X_interval_Meet (a1 : I2) (b2 : I2) (n : Nat) : Option R := (lvl Try.prog HH n).2 49 [.s (.agg true [.v (.int .i64 a1.c0), .v (.int .i64 a1.c1)]), .s (.agg true [.v (.int .i64 b2.c0), .v (.int .i64 b2.c1)])] []
noncomputable def F_interval_Meet (a1 : I2) (b2 : I2) : Option (I2 × Bool) := den encO_interval_Meet (X_interval_Meet a1 b2)
theorem lim_interval_Meet (k : Nat) (a1 : I2) (b2 : I2) : Lim (fun v => (encR outs49 (o_interval_Meet v).1, encMts mouts49 (o_interval_Meet v).2)) (fun n => (lvl Try.prog HH (n + k)).2 49 [.s (.agg true [.v (.int .i64 a1.c0), .v (.int .i64 a1.c1)]), .s (.agg true [.v (.int .i64 b2.c0), .v (.int .i64 b2.c1)])] []) (F_interval_Meet a1 b2) := Lim.den (x := (X_interval_Meet a1 b2)) k
theorem F_interval_Meet_of (a1 : I2) (b2 : I2) : ∀ r, ((
    letIn (if b2.c0 > a1.c0 then b2.c0 else a1.c0 : Int) fun n3 =>
    letIn (if b2.c1 < a1.c1 then b2.c1 else a1.c1 : Int) fun n4 =>
    (F_interval_both a1 b2).bind fun y5 =>
    bif !y5 then (
      some ((I2.mk 0 0), false))
    else
    bif decide (n3 > n4) then (
      some ((I2.mk 0 0), false))
    else
    some ((I2.mk n3 n4), true)) : Option (I2 × Bool)) = some r →
    F_interval_Meet a1 b2 = some r := fun r h =>
  den_of (x := (X_interval_Meet a1 b2)) injO_interval_Meet 1 (Lim.cong (fun n => fn49 n a1.c0 a1.c1 b2.c0 b2.c1) (by
      refine Lim.letIn rfl fun n3 => ?_
      refine Lim.letIn rfl fun n4 => ?_
      refine Lim.call o_interval_both (lim_interval_both 0 a1 b2) rfl rfl fun y5 => ?_
      refine Lim.bif rfl ?_ ?_
      · exact Lim.leaf rfl
      refine Lim.bif rfl ?_ ?_
      · exact Lim.leaf rfl
      exact Lim.leaf rfl
    )) h
def G_interval_Meet (a1 : I2) (b2 : I2) : I2 × Bool :=
  letIn (if b2.c0 > a1.c0 then b2.c0 else a1.c0 : Int) fun n3 =>
  letIn (if b2.c1 < a1.c1 then b2.c1 else a1.c1 : Int) fun n4 =>
  letIn (G_interval_both a1 b2) fun y5 =>
  bif !y5 then (
    ((I2.mk 0 0), false))
  else
  bif decide (n3 > n4) then (
    ((I2.mk 0 0), false))
  else
  ((I2.mk n3 n4), true)
theorem F_interval_Meet_eq (a1 : I2) (b2 : I2) : F_interval_Meet a1 b2 = some (G_interval_Meet a1 b2) := F_interval_Meet_of a1 b2 _ (by
  unfold G_interval_Meet
  refine Tot.letIn fun n3 => ?_
  refine Tot.letIn fun n4 => ?_
  refine Tot.bind (F_interval_both_eq a1 b2) fun y5 => ?_
  refine Tot.bif ?_ ?_
  · rfl
  refine Tot.bif ?_ ?_
  · rfl
  rfl)

/-! armplan/interval.Has -/
abbrev o_interval_Has (v : Bool) : VtsT outs50 × MtsT mouts50 := ((v, ()), ())
abbrev encO_interval_Has (v : Bool) : R := (encR outs50 (o_interval_Has v).1, encMts mouts50 (o_interval_Has v).2)
theorem injO_interval_Has : ∀ a b, encO_interval_Has a = encO_interval_Has b → a = b := by
  rintro a0 b0 h
  have h1 := encR_inj (Prod.mk.inj h).1
  have h2 := encMts_inj (Prod.mk.inj h).2
  simp [o_interval_Has] at h1 h2
  simp [h1, h2]
noncomputable abbrev X_interval_Has (a1 : I2) (x2 : Int) (n : Nat) : Option R := (lvl Try.prog HH n).2 50 [.s (.agg true [.v (.int .i64 a1.c0), .v (.int .i64 a1.c1)]), .s (.one (.v (.int .i64 x2)))] []
noncomputable def F_interval_Has (a1 : I2) (x2 : Int) : Option Bool := den encO_interval_Has (X_interval_Has a1 x2)
theorem lim_interval_Has (k : Nat) (a1 : I2) (x2 : Int) : Lim (fun v => (encR outs50 (o_interval_Has v).1, encMts mouts50 (o_interval_Has v).2)) (fun n => (lvl Try.prog HH (n + k)).2 50 [.s (.agg true [.v (.int .i64 a1.c0), .v (.int .i64 a1.c1)]), .s (.one (.v (.int .i64 x2)))] []) (F_interval_Has a1 x2) := Lim.den (x := (X_interval_Has a1 x2)) k
theorem F_interval_Has_of (a1 : I2) (x2 : Int) : ∀ r, ((
    (F_interval_Valid a1).bind fun y3 =>
    bif y3 then (
      bif decide (x2 ≥ a1.c0) then (
        some (decide (x2 ≤ a1.c1)))
      else
      some false)
    else
    some false) : Option Bool) = some r →
    F_interval_Has a1 x2 = some r := fun r h =>
  den_of (x := (X_interval_Has a1 x2)) injO_interval_Has 1 (Lim.cong (fun n => fn50 n a1.c0 a1.c1 x2) (by
      refine Lim.call o_interval_Valid (lim_interval_Valid 0 a1) rfl rfl fun y3 => ?_
      refine Lim.bif rfl ?_ ?_
      · refine Lim.bif rfl ?_ ?_
        · exact Lim.leaf rfl
        exact Lim.leaf rfl
      exact Lim.leaf rfl
    )) h
def G_interval_Has (a1 : I2) (x2 : Int) : Bool :=
  letIn (G_interval_Valid a1) fun y3 =>
  bif y3 then (
    bif decide (x2 ≥ a1.c0) then (
      (decide (x2 ≤ a1.c1)))
    else
    false)
  else
  false
theorem F_interval_Has_eq (a1 : I2) (x2 : Int) : F_interval_Has a1 x2 = some (G_interval_Has a1 x2) := F_interval_Has_of a1 x2 _ (by
  unfold G_interval_Has
  refine Tot.bind (F_interval_Valid_eq a1) fun y3 => ?_
  refine Tot.bif ?_ ?_
  · refine Tot.bif ?_ ?_
    · rfl
    rfl
  rfl)

/-! armplan/fixed.ShiftDown -/
abbrev o_fixed_ShiftDown (v : Int) : VtsT outs167 × MtsT mouts167 := ((v, ()), ())
abbrev encO_fixed_ShiftDown (v : Int) : R := (encR outs167 (o_fixed_ShiftDown v).1, encMts mouts167 (o_fixed_ShiftDown v).2)
theorem injO_fixed_ShiftDown : ∀ a b, encO_fixed_ShiftDown a = encO_fixed_ShiftDown b → a = b := by
  rintro a0 b0 h
  have h1 := encR_inj (Prod.mk.inj h).1
  have h2 := encMts_inj (Prod.mk.inj h).2
  simp [o_fixed_ShiftDown] at h1 h2
  simp [h1, h2]
noncomputable abbrev X_fixed_ShiftDown (a1 : Int) (k2 : Int) (n : Nat) : Option R := (lvl Try.prog HH n).2 167 [.s (.one (.v (.int .i64 a1))), .s (.one (.v (.int .i64 k2)))] []
noncomputable def F_fixed_ShiftDown (a1 : Int) (k2 : Int) : Option Int := den encO_fixed_ShiftDown (X_fixed_ShiftDown a1 k2)
theorem lim_fixed_ShiftDown (k : Nat) (a1 : Int) (k2 : Int) : Lim (fun v => (encR outs167 (o_fixed_ShiftDown v).1, encMts mouts167 (o_fixed_ShiftDown v).2)) (fun n => (lvl Try.prog HH (n + k)).2 167 [.s (.one (.v (.int .i64 a1))), .s (.one (.v (.int .i64 k2)))] []) (F_fixed_ShiftDown a1 k2) := Lim.den (x := (X_fixed_ShiftDown a1 k2)) k
theorem F_fixed_ShiftDown_of (a1 : Int) (k2 : Int) : ∀ r, ((
    bif decide (k2 < 0) then (
      some a1)
    else
    bif decide (k2 < 0) then (
      none)
    else
    letIn (Int.fdiv a1 (2 ^ min k2.toNat 64) : Int) fun n3 =>
    some n3) : Option Int) = some r →
    F_fixed_ShiftDown a1 k2 = some r := fun r h =>
  den_of (x := (X_fixed_ShiftDown a1 k2)) injO_fixed_ShiftDown 1 (Lim.cong (fun n => fn167 n a1 k2) (by
      refine Lim.bif rfl ?_ ?_
      · exact Lim.leaf rfl
      refine Lim.bif rfl Lim.none_ ?_
      refine Lim.letIn rfl fun n3 => ?_
      exact Lim.leaf rfl
    )) h

/-! armplan/fixed.ShiftUp -/
abbrev o_fixed_ShiftUp (v : Int) : VtsT outs168 × MtsT mouts168 := ((v, ()), ())
abbrev encO_fixed_ShiftUp (v : Int) : R := (encR outs168 (o_fixed_ShiftUp v).1, encMts mouts168 (o_fixed_ShiftUp v).2)
theorem injO_fixed_ShiftUp : ∀ a b, encO_fixed_ShiftUp a = encO_fixed_ShiftUp b → a = b := by
  rintro a0 b0 h
  have h1 := encR_inj (Prod.mk.inj h).1
  have h2 := encMts_inj (Prod.mk.inj h).2
  simp [o_fixed_ShiftUp] at h1 h2
  simp [h1, h2]
noncomputable abbrev X_fixed_ShiftUp (a1 : Int) (k2 : Int) (n : Nat) : Option R := (lvl Try.prog HH n).2 168 [.s (.one (.v (.int .i64 a1))), .s (.one (.v (.int .i64 k2)))] []
noncomputable def F_fixed_ShiftUp (a1 : Int) (k2 : Int) : Option Int := den encO_fixed_ShiftUp (X_fixed_ShiftUp a1 k2)
theorem lim_fixed_ShiftUp (k : Nat) (a1 : Int) (k2 : Int) : Lim (fun v => (encR outs168 (o_fixed_ShiftUp v).1, encMts mouts168 (o_fixed_ShiftUp v).2)) (fun n => (lvl Try.prog HH (n + k)).2 168 [.s (.one (.v (.int .i64 a1))), .s (.one (.v (.int .i64 k2)))] []) (F_fixed_ShiftUp a1 k2) := Lim.den (x := (X_fixed_ShiftUp a1 k2)) k
theorem F_fixed_ShiftUp_of (a1 : Int) (k2 : Int) : ∀ r, ((
    (F_fixed_ShiftDown a1 k2).bind fun y3 =>
    bif decide (k2 ≥ 0) then (
      bif decide (k2 < 0) then (
        none)
      else
      letIn (IntKind.wrap .i64 (y3 * (2 ^ min k2.toNat 64)) : Int) fun n4 =>
      bif n4 != a1 then (
        letIn (IntKind.wrap .i64 (y3 + 1) : Int) fun n5 =>
        some n5)
      else
      some y3)
    else
    some y3) : Option Int) = some r →
    F_fixed_ShiftUp a1 k2 = some r := fun r h =>
  den_of (x := (X_fixed_ShiftUp a1 k2)) injO_fixed_ShiftUp 1 (Lim.cong (fun n => fn168 n a1 k2) (by
      refine Lim.call o_fixed_ShiftDown (lim_fixed_ShiftDown 0 a1 k2) rfl rfl fun y3 => ?_
      refine Lim.bif rfl ?_ ?_
      · refine Lim.bif rfl Lim.none_ ?_
        refine Lim.letIn rfl fun n4 => ?_
        refine Lim.bif rfl ?_ ?_
        · refine Lim.letIn rfl fun n5 => ?_
          exact Lim.leaf rfl
        exact Lim.leaf rfl
      exact Lim.leaf rfl
    )) h

/-! armplan/fixed.Clamp -/
abbrev o_fixed_Clamp (v : Int) : VtsT outs129 × MtsT mouts129 := ((v, ()), ())
abbrev encO_fixed_Clamp (v : Int) : R := (encR outs129 (o_fixed_Clamp v).1, encMts mouts129 (o_fixed_Clamp v).2)
theorem injO_fixed_Clamp : ∀ a b, encO_fixed_Clamp a = encO_fixed_Clamp b → a = b := by
  rintro a0 b0 h
  have h1 := encR_inj (Prod.mk.inj h).1
  have h2 := encMts_inj (Prod.mk.inj h).2
  simp [o_fixed_Clamp] at h1 h2
  simp [h1, h2]
noncomputable abbrev X_fixed_Clamp (a1 : Int) (n : Nat) : Option R := (lvl Try.prog HH n).2 129 [.s (.one (.v (.int .i64 a1)))] []
noncomputable def F_fixed_Clamp (a1 : Int) : Option Int := den encO_fixed_Clamp (X_fixed_Clamp a1)
theorem lim_fixed_Clamp (k : Nat) (a1 : Int) : Lim (fun v => (encR outs129 (o_fixed_Clamp v).1, encMts mouts129 (o_fixed_Clamp v).2)) (fun n => (lvl Try.prog HH (n + k)).2 129 [.s (.one (.v (.int .i64 a1)))] []) (F_fixed_Clamp a1) := Lim.den (x := (X_fixed_Clamp a1)) k
theorem F_fixed_Clamp_of (a1 : Int) : ∀ r, ((
    letIn (if (-2147483648) > a1 then (-2147483648) else a1 : Int) fun n2 =>
    letIn (if 2147483648 < n2 then 2147483648 else n2 : Int) fun n3 =>
    some n3) : Option Int) = some r →
    F_fixed_Clamp a1 = some r := fun r h =>
  den_of (x := (X_fixed_Clamp a1)) injO_fixed_Clamp 1 (Lim.cong (fun n => fn129 n a1) (by
      refine Lim.letIn rfl fun n2 => ?_
      refine Lim.letIn rfl fun n3 => ?_
      exact Lim.leaf rfl
    )) h
def G_fixed_Clamp (a1 : Int) : Int :=
  letIn (if (-2147483648) > a1 then (-2147483648) else a1 : Int) fun n2 =>
  letIn (if 2147483648 < n2 then 2147483648 else n2 : Int) fun n3 =>
  n3
theorem F_fixed_Clamp_eq (a1 : Int) : F_fixed_Clamp a1 = some (G_fixed_Clamp a1) := F_fixed_Clamp_of a1 _ (by
  unfold G_fixed_Clamp
  refine Tot.letIn fun n2 => ?_
  refine Tot.letIn fun n3 => ?_
  rfl)

/-! armplan/interval.limit -/
abbrev o_interval_limit (v : I2) : VtsT outs107 × MtsT mouts107 := (((v.c0, v.c1, ()), ()), ())
abbrev encO_interval_limit (v : I2) : R := (encR outs107 (o_interval_limit v).1, encMts mouts107 (o_interval_limit v).2)
theorem injO_interval_limit : ∀ a b, encO_interval_limit a = encO_interval_limit b → a = b := by
  rintro ⟨a0, a1⟩ ⟨b0, b1⟩ h
  have h1 := encR_inj (Prod.mk.inj h).1
  have h2 := encMts_inj (Prod.mk.inj h).2
  simp [o_interval_limit] at h1 h2
  simp [h1, h2]
noncomputable abbrev X_interval_limit (lo1 : Int) (hi2 : Int) (n : Nat) : Option R := (lvl Try.prog HH n).2 107 [.s (.one (.v (.int .i64 lo1))), .s (.one (.v (.int .i64 hi2)))] []
noncomputable def F_interval_limit (lo1 : Int) (hi2 : Int) : Option I2 := den encO_interval_limit (X_interval_limit lo1 hi2)
theorem lim_interval_limit (k : Nat) (lo1 : Int) (hi2 : Int) : Lim (fun v => (encR outs107 (o_interval_limit v).1, encMts mouts107 (o_interval_limit v).2)) (fun n => (lvl Try.prog HH (n + k)).2 107 [.s (.one (.v (.int .i64 lo1))), .s (.one (.v (.int .i64 hi2)))] []) (F_interval_limit lo1 hi2) := Lim.den (x := (X_interval_limit lo1 hi2)) k
theorem F_interval_limit_of (lo1 : Int) (hi2 : Int) : ∀ r, ((
    (F_fixed_Clamp lo1).bind fun y3 =>
    (F_fixed_Clamp hi2).bind fun y4 =>
    some ((I2.mk y3 y4))) : Option I2) = some r →
    F_interval_limit lo1 hi2 = some r := fun r h =>
  den_of (x := (X_interval_limit lo1 hi2)) injO_interval_limit 1 (Lim.cong (fun n => fn107 n lo1 hi2) (by
      refine Lim.call o_fixed_Clamp (lim_fixed_Clamp 0 lo1) rfl rfl fun y3 => ?_
      refine Lim.call o_fixed_Clamp (lim_fixed_Clamp 0 hi2) rfl rfl fun y4 => ?_
      exact Lim.leaf rfl
    )) h
def G_interval_limit (lo1 : Int) (hi2 : Int) : I2 :=
  letIn (G_fixed_Clamp lo1) fun y3 =>
  letIn (G_fixed_Clamp hi2) fun y4 =>
  ((I2.mk y3 y4))
theorem F_interval_limit_eq (lo1 : Int) (hi2 : Int) : F_interval_limit lo1 hi2 = some (G_interval_limit lo1 hi2) := F_interval_limit_of lo1 hi2 _ (by
  unfold G_interval_limit
  refine Tot.bind (F_fixed_Clamp_eq lo1) fun y3 => ?_
  refine Tot.bind (F_fixed_Clamp_eq hi2) fun y4 => ?_
  rfl)

/-! armplan/interval.outward -/
abbrev o_interval_outward (v : I2) : VtsT outs115 × MtsT mouts115 := (((v.c0, v.c1, ()), ()), ())
abbrev encO_interval_outward (v : I2) : R := (encR outs115 (o_interval_outward v).1, encMts mouts115 (o_interval_outward v).2)
theorem injO_interval_outward : ∀ a b, encO_interval_outward a = encO_interval_outward b → a = b := by
  rintro ⟨a0, a1⟩ ⟨b0, b1⟩ h
  have h1 := encR_inj (Prod.mk.inj h).1
  have h2 := encMts_inj (Prod.mk.inj h).2
  simp [o_interval_outward] at h1 h2
  simp [h1, h2]
noncomputable abbrev X_interval_outward (lo1 : Int) (hi2 : Int) (n : Nat) : Option R := (lvl Try.prog HH n).2 115 [.s (.one (.v (.int .i64 lo1))), .s (.one (.v (.int .i64 hi2)))] []
noncomputable def F_interval_outward (lo1 : Int) (hi2 : Int) : Option I2 := den encO_interval_outward (X_interval_outward lo1 hi2)
theorem lim_interval_outward (k : Nat) (lo1 : Int) (hi2 : Int) : Lim (fun v => (encR outs115 (o_interval_outward v).1, encMts mouts115 (o_interval_outward v).2)) (fun n => (lvl Try.prog HH (n + k)).2 115 [.s (.one (.v (.int .i64 lo1))), .s (.one (.v (.int .i64 hi2)))] []) (F_interval_outward lo1 hi2) := Lim.den (x := (X_interval_outward lo1 hi2)) k
theorem F_interval_outward_of (lo1 : Int) (hi2 : Int) : ∀ r, ((
    (F_fixed_ShiftDown lo1 16).bind fun y3 =>
    (F_fixed_ShiftUp hi2 16).bind fun y4 =>
    (F_interval_limit y3 y4).bind fun y5 =>
    some y5) : Option I2) = some r →
    F_interval_outward lo1 hi2 = some r := fun r h =>
  den_of (x := (X_interval_outward lo1 hi2)) injO_interval_outward 1 (Lim.cong (fun n => fn115 n lo1 hi2) (by
      refine Lim.call o_fixed_ShiftDown (lim_fixed_ShiftDown 0 lo1 16) rfl rfl fun y3 => ?_
      refine Lim.call o_fixed_ShiftUp (lim_fixed_ShiftUp 0 hi2 16) rfl rfl fun y4 => ?_
      refine Lim.call o_interval_limit (lim_interval_limit 0 y3 y4) rfl rfl fun y5 => ?_
      exact Lim.leaf rfl
    )) h

/-! armplan/interval.Mul -/
abbrev E_interval_Mul_0 : Type := (Int × Int × I2)
def enc_L_interval_Mul_0 (e : E_interval_Mul_0) : Ex × St := (.exit 0, encSt S69_0_e0 (((), e.1, e.2.1, ()), ((e.2.2.c0, e.2.2.c1, ()), ())))
theorem inj_L_interval_Mul_0 : ∀ a b, enc_L_interval_Mul_0 a = enc_L_interval_Mul_0 b → a = b := by
  rintro ⟨a0, a1, ⟨a2, a3⟩⟩ ⟨b0, b1, ⟨b2, b3⟩⟩ h
  first | (cases h; done) | (have h2 := encSt_inj rfl (Prod.mk.inj h).2; simp [] at h2; simp [h2]) | (have h2 := (Prod.mk.inj h).1; simp at h2) | rfl
abbrev o_interval_Mul (v : I2) : VtsT outs69 × MtsT mouts69 := (((v.c0, v.c1, ()), ()), ())
abbrev encO_interval_Mul (v : I2) : R := (encR outs69 (o_interval_Mul v).1, encMts mouts69 (o_interval_Mul v).2)
theorem injO_interval_Mul : ∀ a b, encO_interval_Mul a = encO_interval_Mul b → a = b := by
  rintro ⟨a0, a1⟩ ⟨b0, b1⟩ h
  have h1 := encR_inj (Prod.mk.inj h).1
  have h2 := encMts_inj (Prod.mk.inj h).2
  simp [o_interval_Mul] at h1 h2
  simp [h1, h2]
noncomputable abbrev X_interval_Mul (a1 : I2) (b2 : I2) (n : Nat) : Option R := (lvl Try.prog HH n).2 69 [.s (.agg true [.v (.int .i64 a1.c0), .v (.int .i64 a1.c1)]), .s (.agg true [.v (.int .i64 b2.c0), .v (.int .i64 b2.c1)])] []
noncomputable def F_interval_Mul (a1 : I2) (b2 : I2) : Option I2 := den encO_interval_Mul (X_interval_Mul a1 b2)
theorem lim_interval_Mul (k : Nat) (a1 : I2) (b2 : I2) : Lim (fun v => (encR outs69 (o_interval_Mul v).1, encMts mouts69 (o_interval_Mul v).2)) (fun n => (lvl Try.prog HH (n + k)).2 69 [.s (.agg true [.v (.int .i64 a1.c0), .v (.int .i64 a1.c1)]), .s (.agg true [.v (.int .i64 b2.c0), .v (.int .i64 b2.c1)])] []) (F_interval_Mul a1 b2) := Lim.den (x := (X_interval_Mul a1 b2)) k
theorem F_interval_Mul_of (a1 : I2) (b2 : I2) : ∀ r, ((
    (F_interval_both a1 b2).bind fun y3 =>
    bif !y3 then (
      some ((I2.mk 0 0)))
    else
    letIn (IntKind.wrap .i64 (a1.c0 * b2.c0) : Int) fun n4 =>
    letIn (IntKind.wrap .i64 (a1.c0 * b2.c1) : Int) fun n5 =>
    letIn (IntKind.wrap .i64 (a1.c1 * b2.c0) : Int) fun n6 =>
    letIn (IntKind.wrap .i64 (a1.c1 * b2.c1) : Int) fun n7 =>
    letIn (if n4 < n4 then n4 else n4 : Int) fun n8 =>
    letIn (if n4 > n4 then n4 else n4 : Int) fun n9 =>
    letIn (if n5 < n8 then n5 else n8 : Int) fun n10 =>
    letIn (if n5 > n9 then n5 else n9 : Int) fun n11 =>
    letIn (if n6 < n10 then n6 else n10 : Int) fun n12 =>
    letIn (if n6 > n11 then n6 else n11 : Int) fun n13 =>
    letIn (if n7 < n12 then n7 else n12 : Int) fun n14 =>
    letIn (if n7 > n13 then n7 else n13 : Int) fun n15 =>
    (F_interval_outward n14 n15).bind fun y16 =>
    some y16) : Option I2) = some r →
    F_interval_Mul a1 b2 = some r := fun r h =>
  den_of (x := (X_interval_Mul a1 b2)) injO_interval_Mul 6 (Lim.cong (fun n => fn69 n a1.c0 a1.c1 b2.c0 b2.c1) (by
      refine Lim.call o_interval_both (lim_interval_both 5 a1 b2) rfl rfl fun y3 => ?_
      refine Lim.bif rfl ?_ ?_
      · exact Lim.leaf rfl
      refine Lim.letIn rfl fun n4 => ?_
      refine Lim.letIn rfl fun n5 => ?_
      refine Lim.letIn rfl fun n6 => ?_
      refine Lim.letIn rfl fun n7 => ?_
      refine Lim.letIn rfl fun n8 => ?_
      refine Lim.letIn rfl fun n9 => ?_
      refine Lim.letIn rfl fun n10 => ?_
      refine Lim.letIn rfl fun n11 => ?_
      refine Lim.letIn rfl fun n12 => ?_
      refine Lim.letIn rfl fun n13 => ?_
      refine Lim.letIn rfl fun n14 => ?_
      refine Lim.letIn rfl fun n15 => ?_
      refine Lim.call o_interval_outward (lim_interval_outward 5 n14 n15) rfl rfl fun y16 => ?_
      exact Lim.leaf rfl
    )) h

/-! armplan/interval.Of -/
abbrev o_interval_Of (v : I2) : VtsT outs46 × MtsT mouts46 := (((v.c0, v.c1, ()), ()), ())
abbrev encO_interval_Of (v : I2) : R := (encR outs46 (o_interval_Of v).1, encMts mouts46 (o_interval_Of v).2)
theorem injO_interval_Of : ∀ a b, encO_interval_Of a = encO_interval_Of b → a = b := by
  rintro ⟨a0, a1⟩ ⟨b0, b1⟩ h
  have h1 := encR_inj (Prod.mk.inj h).1
  have h2 := encMts_inj (Prod.mk.inj h).2
  simp [o_interval_Of] at h1 h2
  simp [h1, h2]
noncomputable abbrev X_interval_Of (x1 : Int) (n : Nat) : Option R := (lvl Try.prog HH n).2 46 [.s (.one (.v (.int .i64 x1)))] []
noncomputable def F_interval_Of (x1 : Int) : Option I2 := den encO_interval_Of (X_interval_Of x1)
theorem lim_interval_Of (k : Nat) (x1 : Int) : Lim (fun v => (encR outs46 (o_interval_Of v).1, encMts mouts46 (o_interval_Of v).2)) (fun n => (lvl Try.prog HH (n + k)).2 46 [.s (.one (.v (.int .i64 x1)))] []) (F_interval_Of x1) := Lim.den (x := (X_interval_Of x1)) k
theorem F_interval_Of_of (x1 : Int) : ∀ r, ((
    (F_interval_limit x1 x1).bind fun y2 =>
    some y2) : Option I2) = some r →
    F_interval_Of x1 = some r := fun r h =>
  den_of (x := (X_interval_Of x1)) injO_interval_Of 1 (Lim.cong (fun n => fn46 n x1) (by
      refine Lim.call o_interval_limit (lim_interval_limit 0 x1 x1) rfl rfl fun y2 => ?_
      exact Lim.leaf rfl
    )) h
def G_interval_Of (x1 : Int) : I2 :=
  letIn (G_interval_limit x1 x1) fun y2 =>
  y2
theorem F_interval_Of_eq (x1 : Int) : F_interval_Of x1 = some (G_interval_Of x1) := F_interval_Of_of x1 _ (by
  unfold G_interval_Of
  refine Tot.bind (F_interval_limit_eq x1 x1) fun y2 => ?_
  rfl)

/-! armplan/interval.Add -/
abbrev o_interval_Add (v : I2) : VtsT outs67 × MtsT mouts67 := (((v.c0, v.c1, ()), ()), ())
abbrev encO_interval_Add (v : I2) : R := (encR outs67 (o_interval_Add v).1, encMts mouts67 (o_interval_Add v).2)
theorem injO_interval_Add : ∀ a b, encO_interval_Add a = encO_interval_Add b → a = b := by
  rintro ⟨a0, a1⟩ ⟨b0, b1⟩ h
  have h1 := encR_inj (Prod.mk.inj h).1
  have h2 := encMts_inj (Prod.mk.inj h).2
  simp [o_interval_Add] at h1 h2
  simp [h1, h2]
noncomputable abbrev X_interval_Add (a1 : I2) (b2 : I2) (n : Nat) : Option R := (lvl Try.prog HH n).2 67 [.s (.agg true [.v (.int .i64 a1.c0), .v (.int .i64 a1.c1)]), .s (.agg true [.v (.int .i64 b2.c0), .v (.int .i64 b2.c1)])] []
noncomputable def F_interval_Add (a1 : I2) (b2 : I2) : Option I2 := den encO_interval_Add (X_interval_Add a1 b2)
theorem lim_interval_Add (k : Nat) (a1 : I2) (b2 : I2) : Lim (fun v => (encR outs67 (o_interval_Add v).1, encMts mouts67 (o_interval_Add v).2)) (fun n => (lvl Try.prog HH (n + k)).2 67 [.s (.agg true [.v (.int .i64 a1.c0), .v (.int .i64 a1.c1)]), .s (.agg true [.v (.int .i64 b2.c0), .v (.int .i64 b2.c1)])] []) (F_interval_Add a1 b2) := Lim.den (x := (X_interval_Add a1 b2)) k
theorem F_interval_Add_of (a1 : I2) (b2 : I2) : ∀ r, ((
    (F_interval_both a1 b2).bind fun y3 =>
    bif !y3 then (
      some ((I2.mk 0 0)))
    else
    letIn (IntKind.wrap .i64 (a1.c0 + b2.c0) : Int) fun n4 =>
    letIn (IntKind.wrap .i64 (a1.c1 + b2.c1) : Int) fun n5 =>
    (F_interval_limit n4 n5).bind fun y6 =>
    some y6) : Option I2) = some r →
    F_interval_Add a1 b2 = some r := fun r h =>
  den_of (x := (X_interval_Add a1 b2)) injO_interval_Add 1 (Lim.cong (fun n => fn67 n a1.c0 a1.c1 b2.c0 b2.c1) (by
      refine Lim.call o_interval_both (lim_interval_both 0 a1 b2) rfl rfl fun y3 => ?_
      refine Lim.bif rfl ?_ ?_
      · exact Lim.leaf rfl
      refine Lim.letIn rfl fun n4 => ?_
      refine Lim.letIn rfl fun n5 => ?_
      refine Lim.call o_interval_limit (lim_interval_limit 0 n4 n5) rfl rfl fun y6 => ?_
      exact Lim.leaf rfl
    )) h
def G_interval_Add (a1 : I2) (b2 : I2) : I2 :=
  letIn (G_interval_both a1 b2) fun y3 =>
  bif !y3 then (
    ((I2.mk 0 0)))
  else
  letIn (IntKind.wrap .i64 (a1.c0 + b2.c0) : Int) fun n4 =>
  letIn (IntKind.wrap .i64 (a1.c1 + b2.c1) : Int) fun n5 =>
  letIn (G_interval_limit n4 n5) fun y6 =>
  y6
theorem F_interval_Add_eq (a1 : I2) (b2 : I2) : F_interval_Add a1 b2 = some (G_interval_Add a1 b2) := F_interval_Add_of a1 b2 _ (by
  unfold G_interval_Add
  refine Tot.bind (F_interval_both_eq a1 b2) fun y3 => ?_
  refine Tot.bif ?_ ?_
  · rfl
  refine Tot.letIn fun n4 => ?_
  refine Tot.letIn fun n5 => ?_
  refine Tot.bind (F_interval_limit_eq n4 n5) fun y6 => ?_
  rfl)

/-! armplan/armplanlaw2.awake -/
abbrev o_law2_awake (v : Bool) : VtsT outs44 × MtsT mouts44 := ((v, ()), ())
abbrev encO_law2_awake (v : Bool) : R := (encR outs44 (o_law2_awake v).1, encMts mouts44 (o_law2_awake v).2)
theorem injO_law2_awake : ∀ a b, encO_law2_awake a = encO_law2_awake b → a = b := by
  rintro a0 b0 h
  have h1 := encR_inj (Prod.mk.inj h).1
  have h2 := encMts_inj (Prod.mk.inj h).2
  simp [o_law2_awake] at h1 h2
  simp [h1, h2]
noncomputable abbrev X_law2_awake  (n : Nat) : Option R := (lvl Try.prog HH n).2 44 [] []
noncomputable def F_law2_awake  : Option Bool := den encO_law2_awake X_law2_awake
theorem lim_law2_awake (k : Nat)  : Lim (fun v => (encR outs44 (o_law2_awake v).1, encMts mouts44 (o_law2_awake v).2)) (fun n => (lvl Try.prog HH (n + k)).2 44 [] []) (F_law2_awake) := Lim.den (x := X_law2_awake) k
theorem F_law2_awake_of  : ∀ r, ((
    (F_interval_Mul ((I2.mk ((-3)) 5)) ((I2.mk 65536 131072))).bind fun y1 =>
    letIn ((y1.c0 == (-6)) && ((y1.c1 == 10) && true) : Bool) fun b2 =>
    bif b2 then (
      (F_interval_Of 2).bind fun y3 =>
      (F_interval_Of 3).bind fun y4 =>
      (F_interval_Add y3 y4).bind fun y5 =>
      (F_interval_Of 5).bind fun y6 =>
      letIn ((y5.c0 == y6.c0) && ((y5.c1 == y6.c1) && true) : Bool) fun b7 =>
      some b7)
    else
    some false) : Option Bool) = some r →
    F_law2_awake = some r := fun r h =>
  den_of (x := X_law2_awake) injO_law2_awake 1 (Lim.cong (fun n => fn44 n ) (by
      refine Lim.call o_interval_Mul (lim_interval_Mul 0 ((I2.mk ((-3)) 5)) ((I2.mk 65536 131072))) rfl rfl fun y1 => ?_
      refine Lim.letIn rfl fun b2 => ?_
      refine Lim.bif rfl ?_ ?_
      · refine Lim.call o_interval_Of (lim_interval_Of 0 2) rfl rfl fun y3 => ?_
        refine Lim.call o_interval_Of (lim_interval_Of 0 3) rfl rfl fun y4 => ?_
        refine Lim.call o_interval_Add (lim_interval_Add 0 y3 y4) rfl rfl fun y5 => ?_
        refine Lim.call o_interval_Of (lim_interval_Of 0 5) rfl rfl fun y6 => ?_
        refine Lim.letIn rfl fun b7 => ?_
        exact Lim.leaf rfl
      exact Lim.leaf rfl
    )) h

/-! armplan/interval.Hull -/
abbrev o_interval_Hull (v : I2) : VtsT outs52 × MtsT mouts52 := (((v.c0, v.c1, ()), ()), ())
abbrev encO_interval_Hull (v : I2) : R := (encR outs52 (o_interval_Hull v).1, encMts mouts52 (o_interval_Hull v).2)
theorem injO_interval_Hull : ∀ a b, encO_interval_Hull a = encO_interval_Hull b → a = b := by
  rintro ⟨a0, a1⟩ ⟨b0, b1⟩ h
  have h1 := encR_inj (Prod.mk.inj h).1
  have h2 := encMts_inj (Prod.mk.inj h).2
  simp [o_interval_Hull] at h1 h2
  simp [h1, h2]
noncomputable abbrev X_interval_Hull (a1 : I2) (b2 : I2) (n : Nat) : Option R := (lvl Try.prog HH n).2 52 [.s (.agg true [.v (.int .i64 a1.c0), .v (.int .i64 a1.c1)]), .s (.agg true [.v (.int .i64 b2.c0), .v (.int .i64 b2.c1)])] []
noncomputable def F_interval_Hull (a1 : I2) (b2 : I2) : Option I2 := den encO_interval_Hull (X_interval_Hull a1 b2)
theorem lim_interval_Hull (k : Nat) (a1 : I2) (b2 : I2) : Lim (fun v => (encR outs52 (o_interval_Hull v).1, encMts mouts52 (o_interval_Hull v).2)) (fun n => (lvl Try.prog HH (n + k)).2 52 [.s (.agg true [.v (.int .i64 a1.c0), .v (.int .i64 a1.c1)]), .s (.agg true [.v (.int .i64 b2.c0), .v (.int .i64 b2.c1)])] []) (F_interval_Hull a1 b2) := Lim.den (x := (X_interval_Hull a1 b2)) k
theorem F_interval_Hull_of (a1 : I2) (b2 : I2) : ∀ r, ((
    (F_interval_both a1 b2).bind fun y3 =>
    bif !y3 then (
      some ((I2.mk 0 0)))
    else
    letIn (if b2.c0 < a1.c0 then b2.c0 else a1.c0 : Int) fun n4 =>
    letIn (if b2.c1 > a1.c1 then b2.c1 else a1.c1 : Int) fun n5 =>
    some ((I2.mk n4 n5))) : Option I2) = some r →
    F_interval_Hull a1 b2 = some r := fun r h =>
  den_of (x := (X_interval_Hull a1 b2)) injO_interval_Hull 1 (Lim.cong (fun n => fn52 n a1.c0 a1.c1 b2.c0 b2.c1) (by
      refine Lim.call o_interval_both (lim_interval_both 0 a1 b2) rfl rfl fun y3 => ?_
      refine Lim.bif rfl ?_ ?_
      · exact Lim.leaf rfl
      refine Lim.letIn rfl fun n4 => ?_
      refine Lim.letIn rfl fun n5 => ?_
      exact Lim.leaf rfl
    )) h
def G_interval_Hull (a1 : I2) (b2 : I2) : I2 :=
  letIn (G_interval_both a1 b2) fun y3 =>
  bif !y3 then (
    ((I2.mk 0 0)))
  else
  letIn (if b2.c0 < a1.c0 then b2.c0 else a1.c0 : Int) fun n4 =>
  letIn (if b2.c1 > a1.c1 then b2.c1 else a1.c1 : Int) fun n5 =>
  ((I2.mk n4 n5))
theorem F_interval_Hull_eq (a1 : I2) (b2 : I2) : F_interval_Hull a1 b2 = some (G_interval_Hull a1 b2) := F_interval_Hull_of a1 b2 _ (by
  unfold G_interval_Hull
  refine Tot.bind (F_interval_both_eq a1 b2) fun y3 => ?_
  refine Tot.bif ?_ ?_
  · rfl
  refine Tot.letIn fun n4 => ?_
  refine Tot.letIn fun n5 => ?_
  rfl)

/-! armplan/interval.Within -/
abbrev o_interval_Within (v : Bool) : VtsT outs51 × MtsT mouts51 := ((v, ()), ())
abbrev encO_interval_Within (v : Bool) : R := (encR outs51 (o_interval_Within v).1, encMts mouts51 (o_interval_Within v).2)
theorem injO_interval_Within : ∀ a b, encO_interval_Within a = encO_interval_Within b → a = b := by
  rintro a0 b0 h
  have h1 := encR_inj (Prod.mk.inj h).1
  have h2 := encMts_inj (Prod.mk.inj h).2
  simp [o_interval_Within] at h1 h2
  simp [h1, h2]
noncomputable abbrev X_interval_Within (a1 : I2) (b2 : I2) (n : Nat) : Option R := (lvl Try.prog HH n).2 51 [.s (.agg true [.v (.int .i64 a1.c0), .v (.int .i64 a1.c1)]), .s (.agg true [.v (.int .i64 b2.c0), .v (.int .i64 b2.c1)])] []
noncomputable def F_interval_Within (a1 : I2) (b2 : I2) : Option Bool := den encO_interval_Within (X_interval_Within a1 b2)
theorem lim_interval_Within (k : Nat) (a1 : I2) (b2 : I2) : Lim (fun v => (encR outs51 (o_interval_Within v).1, encMts mouts51 (o_interval_Within v).2)) (fun n => (lvl Try.prog HH (n + k)).2 51 [.s (.agg true [.v (.int .i64 a1.c0), .v (.int .i64 a1.c1)]), .s (.agg true [.v (.int .i64 b2.c0), .v (.int .i64 b2.c1)])] []) (F_interval_Within a1 b2) := Lim.den (x := (X_interval_Within a1 b2)) k
theorem F_interval_Within_of (a1 : I2) (b2 : I2) : ∀ r, ((
    (F_interval_both a1 b2).bind fun y3 =>
    bif y3 then (
      bif decide (b2.c0 ≤ a1.c0) then (
        some (decide (a1.c1 ≤ b2.c1)))
      else
      some false)
    else
    some false) : Option Bool) = some r →
    F_interval_Within a1 b2 = some r := fun r h =>
  den_of (x := (X_interval_Within a1 b2)) injO_interval_Within 1 (Lim.cong (fun n => fn51 n a1.c0 a1.c1 b2.c0 b2.c1) (by
      refine Lim.call o_interval_both (lim_interval_both 0 a1 b2) rfl rfl fun y3 => ?_
      refine Lim.bif rfl ?_ ?_
      · refine Lim.bif rfl ?_ ?_
        · exact Lim.leaf rfl
        exact Lim.leaf rfl
      exact Lim.leaf rfl
    )) h
def G_interval_Within (a1 : I2) (b2 : I2) : Bool :=
  letIn (G_interval_both a1 b2) fun y3 =>
  bif y3 then (
    bif decide (b2.c0 ≤ a1.c0) then (
      (decide (a1.c1 ≤ b2.c1)))
    else
    false)
  else
  false
theorem F_interval_Within_eq (a1 : I2) (b2 : I2) : F_interval_Within a1 b2 = some (G_interval_Within a1 b2) := F_interval_Within_of a1 b2 _ (by
  unfold G_interval_Within
  refine Tot.bind (F_interval_both_eq a1 b2) fun y3 => ?_
  refine Tot.bif ?_ ?_
  · refine Tot.bif ?_ ?_
    · rfl
    rfl
  rfl)

/-! armplan/armplanlaw2.IntervalMeets -/
abbrev o_law2_IntervalMeets (v : Bool) : VtsT outs8 × MtsT mouts8 := ((v, ()), ())
abbrev encO_law2_IntervalMeets (v : Bool) : R := (encR outs8 (o_law2_IntervalMeets v).1, encMts mouts8 (o_law2_IntervalMeets v).2)
theorem injO_law2_IntervalMeets : ∀ a b, encO_law2_IntervalMeets a = encO_law2_IntervalMeets b → a = b := by
  rintro a0 b0 h
  have h1 := encR_inj (Prod.mk.inj h).1
  have h2 := encMts_inj (Prod.mk.inj h).2
  simp [o_law2_IntervalMeets] at h1 h2
  simp [h1, h2]
noncomputable abbrev X_law2_IntervalMeets (k1 : Int) (l2 : Int) (m3 : Int) (n4 : Int) (x5 : Int) (n : Nat) : Option R := (lvl Try.prog HH n).2 8 [.s (.one (.v (.int .i64 k1))), .s (.one (.v (.int .i64 l2))), .s (.one (.v (.int .i64 m3))), .s (.one (.v (.int .i64 n4))), .s (.one (.v (.int .i64 x5)))] []
noncomputable def F_law2_IntervalMeets (k1 : Int) (l2 : Int) (m3 : Int) (n4 : Int) (x5 : Int) : Option Bool := den encO_law2_IntervalMeets (X_law2_IntervalMeets k1 l2 m3 n4 x5)
theorem lim_law2_IntervalMeets (k : Nat) (k1 : Int) (l2 : Int) (m3 : Int) (n4 : Int) (x5 : Int) : Lim (fun v => (encR outs8 (o_law2_IntervalMeets v).1, encMts mouts8 (o_law2_IntervalMeets v).2)) (fun n => (lvl Try.prog HH (n + k)).2 8 [.s (.one (.v (.int .i64 k1))), .s (.one (.v (.int .i64 l2))), .s (.one (.v (.int .i64 m3))), .s (.one (.v (.int .i64 n4))), .s (.one (.v (.int .i64 x5)))] []) (F_law2_IntervalMeets k1 l2 m3 n4 x5) := Lim.den (x := (X_law2_IntervalMeets k1 l2 m3 n4 x5)) k
theorem F_law2_IntervalMeets_of (k1 : Int) (l2 : Int) (m3 : Int) (n4 : Int) (x5 : Int) : ∀ r, ((
    (F_make_Interval k1 l2).bind fun y6 =>
    (F_make_Interval m3 n4).bind fun y7 =>
    letIn (IntKind.wrap .i64 ((BitVec.ofInt 64 x5 &&& BitVec.ofInt 64 1).toNat : Nat) : Int) fun n8 =>
    bif n8 == 1 then (
      letIn (if y7.c1 > y6.c0 then y7.c1 else y6.c0 : Int) fun n9 =>
      (F_interval_Meet y6 ((I2.mk y6.c0 n9))).bind fun y10 =>
      letIn (IntKind.wrap .i64 (y6.c1 - y6.c0) : Int) fun n11 =>
      letIn (IntKind.wrap .i64 (n11 + 3) : Int) fun n12 =>
      (F_make_Round x5 n12).bind fun y13 =>
      letIn (IntKind.wrap .i64 (y6.c0 + y13) : Int) fun n14 =>
      letIn (IntKind.wrap .i64 (n14 - 1) : Int) fun n15 =>
      (F_interval_Has y6 n15).bind fun y16 =>
      bif y16 then (
        (F_interval_Has ((I2.mk y6.c0 n9)) n15).bind fun y17 =>
        (F_law2_awake).bind fun y18 =>
        bif y18 then (
          bif y10.2 then (
            (F_interval_Has y10.1 n15).bind fun y19 =>
            bif y19 == y17 then (
              (F_interval_Hull y6 ((I2.mk y6.c0 n9))).bind fun y20 =>
              (F_interval_Within y6 y20).bind fun y21 =>
              bif y21 then (
                (F_interval_Hull ((I2.mk y6.c0 n9)) y6).bind fun y22 =>
                (F_interval_Within ((I2.mk y6.c0 n9)) y22).bind fun y23 =>
                bif y23 then (
                  bif !y10.2 then (
                    some true)
                  else
                  (F_interval_Within y10.1 y6).bind fun y24 =>
                  bif y24 then (
                    (F_interval_Within y10.1 ((I2.mk y6.c0 n9))).bind fun y25 =>
                    some y25)
                  else
                  some false)
                else
                some false)
              else
              some false)
            else
            some false)
          else
          bif false == y17 then (
            (F_interval_Hull y6 ((I2.mk y6.c0 n9))).bind fun y26 =>
            (F_interval_Within y6 y26).bind fun y27 =>
            bif y27 then (
              (F_interval_Hull ((I2.mk y6.c0 n9)) y6).bind fun y28 =>
              (F_interval_Within ((I2.mk y6.c0 n9)) y28).bind fun y29 =>
              bif y29 then (
                bif !y10.2 then (
                  some true)
                else
                (F_interval_Within y10.1 y6).bind fun y30 =>
                bif y30 then (
                  (F_interval_Within y10.1 ((I2.mk y6.c0 n9))).bind fun y31 =>
                  some y31)
                else
                some false)
              else
              some false)
            else
            some false)
          else
          some false)
        else
        some false)
      else
      (F_law2_awake).bind fun y32 =>
      bif y32 then (
        bif y10.2 then (
          (F_interval_Has y10.1 n15).bind fun y33 =>
          bif y33 == false then (
            (F_interval_Hull y6 ((I2.mk y6.c0 n9))).bind fun y34 =>
            (F_interval_Within y6 y34).bind fun y35 =>
            bif y35 then (
              (F_interval_Hull ((I2.mk y6.c0 n9)) y6).bind fun y36 =>
              (F_interval_Within ((I2.mk y6.c0 n9)) y36).bind fun y37 =>
              bif y37 then (
                bif !y10.2 then (
                  some true)
                else
                (F_interval_Within y10.1 y6).bind fun y38 =>
                bif y38 then (
                  (F_interval_Within y10.1 ((I2.mk y6.c0 n9))).bind fun y39 =>
                  some y39)
                else
                some false)
              else
              some false)
            else
            some false)
          else
          some false)
        else
        (F_interval_Hull y6 ((I2.mk y6.c0 n9))).bind fun y40 =>
        (F_interval_Within y6 y40).bind fun y41 =>
        bif y41 then (
          (F_interval_Hull ((I2.mk y6.c0 n9)) y6).bind fun y42 =>
          (F_interval_Within ((I2.mk y6.c0 n9)) y42).bind fun y43 =>
          bif y43 then (
            bif !y10.2 then (
              some true)
            else
            (F_interval_Within y10.1 y6).bind fun y44 =>
            bif y44 then (
              (F_interval_Within y10.1 ((I2.mk y6.c0 n9))).bind fun y45 =>
              some y45)
            else
            some false)
          else
          some false)
        else
        some false)
      else
      some false)
    else
    (F_interval_Meet y6 y7).bind fun y46 =>
    letIn (IntKind.wrap .i64 (y6.c1 - y6.c0) : Int) fun n47 =>
    letIn (IntKind.wrap .i64 (n47 + 3) : Int) fun n48 =>
    (F_make_Round x5 n48).bind fun y49 =>
    letIn (IntKind.wrap .i64 (y6.c0 + y49) : Int) fun n50 =>
    letIn (IntKind.wrap .i64 (n50 - 1) : Int) fun n51 =>
    (F_interval_Has y6 n51).bind fun y52 =>
    bif y52 then (
      (F_interval_Has y7 n51).bind fun y53 =>
      (F_law2_awake).bind fun y54 =>
      bif y54 then (
        bif y46.2 then (
          (F_interval_Has y46.1 n51).bind fun y55 =>
          bif y55 == y53 then (
            (F_interval_Hull y6 y7).bind fun y56 =>
            (F_interval_Within y6 y56).bind fun y57 =>
            bif y57 then (
              (F_interval_Hull y7 y6).bind fun y58 =>
              (F_interval_Within y7 y58).bind fun y59 =>
              bif y59 then (
                bif !y46.2 then (
                  some true)
                else
                (F_interval_Within y46.1 y6).bind fun y60 =>
                bif y60 then (
                  (F_interval_Within y46.1 y7).bind fun y61 =>
                  some y61)
                else
                some false)
              else
              some false)
            else
            some false)
          else
          some false)
        else
        bif false == y53 then (
          (F_interval_Hull y6 y7).bind fun y62 =>
          (F_interval_Within y6 y62).bind fun y63 =>
          bif y63 then (
            (F_interval_Hull y7 y6).bind fun y64 =>
            (F_interval_Within y7 y64).bind fun y65 =>
            bif y65 then (
              bif !y46.2 then (
                some true)
              else
              (F_interval_Within y46.1 y6).bind fun y66 =>
              bif y66 then (
                (F_interval_Within y46.1 y7).bind fun y67 =>
                some y67)
              else
              some false)
            else
            some false)
          else
          some false)
        else
        some false)
      else
      some false)
    else
    (F_law2_awake).bind fun y68 =>
    bif y68 then (
      bif y46.2 then (
        (F_interval_Has y46.1 n51).bind fun y69 =>
        bif y69 == false then (
          (F_interval_Hull y6 y7).bind fun y70 =>
          (F_interval_Within y6 y70).bind fun y71 =>
          bif y71 then (
            (F_interval_Hull y7 y6).bind fun y72 =>
            (F_interval_Within y7 y72).bind fun y73 =>
            bif y73 then (
              bif !y46.2 then (
                some true)
              else
              (F_interval_Within y46.1 y6).bind fun y74 =>
              bif y74 then (
                (F_interval_Within y46.1 y7).bind fun y75 =>
                some y75)
              else
              some false)
            else
            some false)
          else
          some false)
        else
        some false)
      else
      (F_interval_Hull y6 y7).bind fun y76 =>
      (F_interval_Within y6 y76).bind fun y77 =>
      bif y77 then (
        (F_interval_Hull y7 y6).bind fun y78 =>
        (F_interval_Within y7 y78).bind fun y79 =>
        bif y79 then (
          bif !y46.2 then (
            some true)
          else
          (F_interval_Within y46.1 y6).bind fun y80 =>
          bif y80 then (
            (F_interval_Within y46.1 y7).bind fun y81 =>
            some y81)
          else
          some false)
        else
        some false)
      else
      some false)
    else
    some false) : Option Bool) = some r →
    F_law2_IntervalMeets k1 l2 m3 n4 x5 = some r := fun r h =>
  den_of (x := (X_law2_IntervalMeets k1 l2 m3 n4 x5)) injO_law2_IntervalMeets 1 (Lim.cong (fun n => fn8 n k1 l2 m3 n4 x5) (by
      refine Lim.call o_make_Interval (lim_make_Interval 0 k1 l2) rfl rfl fun y6 => ?_
      refine Lim.call o_make_Interval (lim_make_Interval 0 m3 n4) rfl rfl fun y7 => ?_
      refine Lim.letIn rfl fun n8 => ?_
      refine Lim.bif rfl ?_ ?_
      · refine Lim.letIn rfl fun n9 => ?_
        refine Lim.call o_interval_Meet (lim_interval_Meet 0 y6 ((I2.mk y6.c0 n9))) rfl rfl fun y10 => ?_
        refine Lim.letIn rfl fun n11 => ?_
        refine Lim.letIn rfl fun n12 => ?_
        refine Lim.call o_make_Round (lim_make_Round 0 x5 n12) rfl rfl fun y13 => ?_
        refine Lim.letIn rfl fun n14 => ?_
        refine Lim.letIn rfl fun n15 => ?_
        refine Lim.call o_interval_Has (lim_interval_Has 0 y6 n15) rfl rfl fun y16 => ?_
        refine Lim.bif rfl ?_ ?_
        · refine Lim.call o_interval_Has (lim_interval_Has 0 ((I2.mk y6.c0 n9)) n15) rfl rfl fun y17 => ?_
          refine Lim.call o_law2_awake (lim_law2_awake 0 ) rfl rfl fun y18 => ?_
          refine Lim.bif rfl ?_ ?_
          · refine Lim.bif rfl ?_ ?_
            · refine Lim.call o_interval_Has (lim_interval_Has 0 y10.1 n15) rfl rfl fun y19 => ?_
              refine Lim.bif rfl ?_ ?_
              · refine Lim.call o_interval_Hull (lim_interval_Hull 0 y6 ((I2.mk y6.c0 n9))) rfl rfl fun y20 => ?_
                refine Lim.call o_interval_Within (lim_interval_Within 0 y6 y20) rfl rfl fun y21 => ?_
                refine Lim.bif rfl ?_ ?_
                · refine Lim.call o_interval_Hull (lim_interval_Hull 0 ((I2.mk y6.c0 n9)) y6) rfl rfl fun y22 => ?_
                  refine Lim.call o_interval_Within (lim_interval_Within 0 ((I2.mk y6.c0 n9)) y22) rfl rfl fun y23 => ?_
                  refine Lim.bif rfl ?_ ?_
                  · refine Lim.bif rfl ?_ ?_
                    · exact Lim.leaf rfl
                    refine Lim.call o_interval_Within (lim_interval_Within 0 y10.1 y6) rfl rfl fun y24 => ?_
                    refine Lim.bif rfl ?_ ?_
                    · refine Lim.call o_interval_Within (lim_interval_Within 0 y10.1 ((I2.mk y6.c0 n9))) rfl rfl fun y25 => ?_
                      exact Lim.leaf rfl
                    exact Lim.leaf rfl
                  exact Lim.leaf rfl
                exact Lim.leaf rfl
              exact Lim.leaf rfl
            refine Lim.bif rfl ?_ ?_
            · refine Lim.call o_interval_Hull (lim_interval_Hull 0 y6 ((I2.mk y6.c0 n9))) rfl rfl fun y26 => ?_
              refine Lim.call o_interval_Within (lim_interval_Within 0 y6 y26) rfl rfl fun y27 => ?_
              refine Lim.bif rfl ?_ ?_
              · refine Lim.call o_interval_Hull (lim_interval_Hull 0 ((I2.mk y6.c0 n9)) y6) rfl rfl fun y28 => ?_
                refine Lim.call o_interval_Within (lim_interval_Within 0 ((I2.mk y6.c0 n9)) y28) rfl rfl fun y29 => ?_
                refine Lim.bif rfl ?_ ?_
                · refine Lim.bif rfl ?_ ?_
                  · exact Lim.leaf rfl
                  refine Lim.call o_interval_Within (lim_interval_Within 0 y10.1 y6) rfl rfl fun y30 => ?_
                  refine Lim.bif rfl ?_ ?_
                  · refine Lim.call o_interval_Within (lim_interval_Within 0 y10.1 ((I2.mk y6.c0 n9))) rfl rfl fun y31 => ?_
                    exact Lim.leaf rfl
                  exact Lim.leaf rfl
                exact Lim.leaf rfl
              exact Lim.leaf rfl
            exact Lim.leaf rfl
          exact Lim.leaf rfl
        refine Lim.call o_law2_awake (lim_law2_awake 0 ) rfl rfl fun y32 => ?_
        refine Lim.bif rfl ?_ ?_
        · refine Lim.bif rfl ?_ ?_
          · refine Lim.call o_interval_Has (lim_interval_Has 0 y10.1 n15) rfl rfl fun y33 => ?_
            refine Lim.bif rfl ?_ ?_
            · refine Lim.call o_interval_Hull (lim_interval_Hull 0 y6 ((I2.mk y6.c0 n9))) rfl rfl fun y34 => ?_
              refine Lim.call o_interval_Within (lim_interval_Within 0 y6 y34) rfl rfl fun y35 => ?_
              refine Lim.bif rfl ?_ ?_
              · refine Lim.call o_interval_Hull (lim_interval_Hull 0 ((I2.mk y6.c0 n9)) y6) rfl rfl fun y36 => ?_
                refine Lim.call o_interval_Within (lim_interval_Within 0 ((I2.mk y6.c0 n9)) y36) rfl rfl fun y37 => ?_
                refine Lim.bif rfl ?_ ?_
                · refine Lim.bif rfl ?_ ?_
                  · exact Lim.leaf rfl
                  refine Lim.call o_interval_Within (lim_interval_Within 0 y10.1 y6) rfl rfl fun y38 => ?_
                  refine Lim.bif rfl ?_ ?_
                  · refine Lim.call o_interval_Within (lim_interval_Within 0 y10.1 ((I2.mk y6.c0 n9))) rfl rfl fun y39 => ?_
                    exact Lim.leaf rfl
                  exact Lim.leaf rfl
                exact Lim.leaf rfl
              exact Lim.leaf rfl
            exact Lim.leaf rfl
          refine Lim.call o_interval_Hull (lim_interval_Hull 0 y6 ((I2.mk y6.c0 n9))) rfl rfl fun y40 => ?_
          refine Lim.call o_interval_Within (lim_interval_Within 0 y6 y40) rfl rfl fun y41 => ?_
          refine Lim.bif rfl ?_ ?_
          · refine Lim.call o_interval_Hull (lim_interval_Hull 0 ((I2.mk y6.c0 n9)) y6) rfl rfl fun y42 => ?_
            refine Lim.call o_interval_Within (lim_interval_Within 0 ((I2.mk y6.c0 n9)) y42) rfl rfl fun y43 => ?_
            refine Lim.bif rfl ?_ ?_
            · refine Lim.bif rfl ?_ ?_
              · exact Lim.leaf rfl
              refine Lim.call o_interval_Within (lim_interval_Within 0 y10.1 y6) rfl rfl fun y44 => ?_
              refine Lim.bif rfl ?_ ?_
              · refine Lim.call o_interval_Within (lim_interval_Within 0 y10.1 ((I2.mk y6.c0 n9))) rfl rfl fun y45 => ?_
                exact Lim.leaf rfl
              exact Lim.leaf rfl
            exact Lim.leaf rfl
          exact Lim.leaf rfl
        exact Lim.leaf rfl
      refine Lim.call o_interval_Meet (lim_interval_Meet 0 y6 y7) rfl rfl fun y46 => ?_
      refine Lim.letIn rfl fun n47 => ?_
      refine Lim.letIn rfl fun n48 => ?_
      refine Lim.call o_make_Round (lim_make_Round 0 x5 n48) rfl rfl fun y49 => ?_
      refine Lim.letIn rfl fun n50 => ?_
      refine Lim.letIn rfl fun n51 => ?_
      refine Lim.call o_interval_Has (lim_interval_Has 0 y6 n51) rfl rfl fun y52 => ?_
      refine Lim.bif rfl ?_ ?_
      · refine Lim.call o_interval_Has (lim_interval_Has 0 y7 n51) rfl rfl fun y53 => ?_
        refine Lim.call o_law2_awake (lim_law2_awake 0 ) rfl rfl fun y54 => ?_
        refine Lim.bif rfl ?_ ?_
        · refine Lim.bif rfl ?_ ?_
          · refine Lim.call o_interval_Has (lim_interval_Has 0 y46.1 n51) rfl rfl fun y55 => ?_
            refine Lim.bif rfl ?_ ?_
            · refine Lim.call o_interval_Hull (lim_interval_Hull 0 y6 y7) rfl rfl fun y56 => ?_
              refine Lim.call o_interval_Within (lim_interval_Within 0 y6 y56) rfl rfl fun y57 => ?_
              refine Lim.bif rfl ?_ ?_
              · refine Lim.call o_interval_Hull (lim_interval_Hull 0 y7 y6) rfl rfl fun y58 => ?_
                refine Lim.call o_interval_Within (lim_interval_Within 0 y7 y58) rfl rfl fun y59 => ?_
                refine Lim.bif rfl ?_ ?_
                · refine Lim.bif rfl ?_ ?_
                  · exact Lim.leaf rfl
                  refine Lim.call o_interval_Within (lim_interval_Within 0 y46.1 y6) rfl rfl fun y60 => ?_
                  refine Lim.bif rfl ?_ ?_
                  · refine Lim.call o_interval_Within (lim_interval_Within 0 y46.1 y7) rfl rfl fun y61 => ?_
                    exact Lim.leaf rfl
                  exact Lim.leaf rfl
                exact Lim.leaf rfl
              exact Lim.leaf rfl
            exact Lim.leaf rfl
          refine Lim.bif rfl ?_ ?_
          · refine Lim.call o_interval_Hull (lim_interval_Hull 0 y6 y7) rfl rfl fun y62 => ?_
            refine Lim.call o_interval_Within (lim_interval_Within 0 y6 y62) rfl rfl fun y63 => ?_
            refine Lim.bif rfl ?_ ?_
            · refine Lim.call o_interval_Hull (lim_interval_Hull 0 y7 y6) rfl rfl fun y64 => ?_
              refine Lim.call o_interval_Within (lim_interval_Within 0 y7 y64) rfl rfl fun y65 => ?_
              refine Lim.bif rfl ?_ ?_
              · refine Lim.bif rfl ?_ ?_
                · exact Lim.leaf rfl
                refine Lim.call o_interval_Within (lim_interval_Within 0 y46.1 y6) rfl rfl fun y66 => ?_
                refine Lim.bif rfl ?_ ?_
                · refine Lim.call o_interval_Within (lim_interval_Within 0 y46.1 y7) rfl rfl fun y67 => ?_
                  exact Lim.leaf rfl
                exact Lim.leaf rfl
              exact Lim.leaf rfl
            exact Lim.leaf rfl
          exact Lim.leaf rfl
        exact Lim.leaf rfl
      refine Lim.call o_law2_awake (lim_law2_awake 0 ) rfl rfl fun y68 => ?_
      refine Lim.bif rfl ?_ ?_
      · refine Lim.bif rfl ?_ ?_
        · refine Lim.call o_interval_Has (lim_interval_Has 0 y46.1 n51) rfl rfl fun y69 => ?_
          refine Lim.bif rfl ?_ ?_
          · refine Lim.call o_interval_Hull (lim_interval_Hull 0 y6 y7) rfl rfl fun y70 => ?_
            refine Lim.call o_interval_Within (lim_interval_Within 0 y6 y70) rfl rfl fun y71 => ?_
            refine Lim.bif rfl ?_ ?_
            · refine Lim.call o_interval_Hull (lim_interval_Hull 0 y7 y6) rfl rfl fun y72 => ?_
              refine Lim.call o_interval_Within (lim_interval_Within 0 y7 y72) rfl rfl fun y73 => ?_
              refine Lim.bif rfl ?_ ?_
              · refine Lim.bif rfl ?_ ?_
                · exact Lim.leaf rfl
                refine Lim.call o_interval_Within (lim_interval_Within 0 y46.1 y6) rfl rfl fun y74 => ?_
                refine Lim.bif rfl ?_ ?_
                · refine Lim.call o_interval_Within (lim_interval_Within 0 y46.1 y7) rfl rfl fun y75 => ?_
                  exact Lim.leaf rfl
                exact Lim.leaf rfl
              exact Lim.leaf rfl
            exact Lim.leaf rfl
          exact Lim.leaf rfl
        refine Lim.call o_interval_Hull (lim_interval_Hull 0 y6 y7) rfl rfl fun y76 => ?_
        refine Lim.call o_interval_Within (lim_interval_Within 0 y6 y76) rfl rfl fun y77 => ?_
        refine Lim.bif rfl ?_ ?_
        · refine Lim.call o_interval_Hull (lim_interval_Hull 0 y7 y6) rfl rfl fun y78 => ?_
          refine Lim.call o_interval_Within (lim_interval_Within 0 y7 y78) rfl rfl fun y79 => ?_
          refine Lim.bif rfl ?_ ?_
          · refine Lim.bif rfl ?_ ?_
            · exact Lim.leaf rfl
            refine Lim.call o_interval_Within (lim_interval_Within 0 y46.1 y6) rfl rfl fun y80 => ?_
            refine Lim.bif rfl ?_ ?_
            · refine Lim.call o_interval_Within (lim_interval_Within 0 y46.1 y7) rfl rfl fun y81 => ?_
              exact Lim.leaf rfl
            exact Lim.leaf rfl
          exact Lim.leaf rfl
        exact Lim.leaf rfl
      exact Lim.leaf rfl
    )) h
end Go.Proofs.Ytfpdjpleplhcgaa.Am
