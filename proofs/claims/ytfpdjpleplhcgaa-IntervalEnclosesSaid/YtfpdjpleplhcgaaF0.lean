/- PRINTED: the functions without levels. -/
import Derived.Test.YtfpdjpleplhcgaaE0
import Derived.Test.YtfpdjpleplhcgaaE1
import Derived.Test.YtfpdjpleplhcgaaE2
import Derived.Test.YtfpdjpleplhcgaaE3
import Derived.Test.YtfpdjpleplhcgaaV
set_option linter.unusedVariables false
set_option linter.unusedSimpArgs false
set_option maxRecDepth 100000
namespace Go.Proofs.Ytfpdjpleplhcgaa.Am
open Go Go.Proofs
/-! armplan/armplanmake.Round -/
abbrev o_make_Round (v : Int) : VtsT outs41 × MtsT mouts41 := ((v, ()), ())
abbrev encO_make_Round (v : Int) : R := (encR outs41 (o_make_Round v).1, encMts mouts41 (o_make_Round v).2)
theorem injO_make_Round : ∀ a b, encO_make_Round a = encO_make_Round b → a = b := by
  rintro a0 b0 h
  have h1 := encR_inj (Prod.mk.inj h).1
  have h2 := encMts_inj (Prod.mk.inj h).2
  simp [o_make_Round] at h1 h2
  simp [h1, h2]
noncomputable abbrev X_make_Round (n1 : Int) (k2 : Int) (n : Nat) : Option R := (lvl Try.prog HH n).2 41 [.s (.one (.v (.int .i64 n1))), .s (.one (.v (.int .i64 k2)))] []
noncomputable def F_make_Round (n1 : Int) (k2 : Int) : Option Int := den encO_make_Round (X_make_Round n1 k2)
theorem lim_make_Round (k : Nat) (n1 : Int) (k2 : Int) : Lim (fun v => (encR outs41 (o_make_Round v).1, encMts mouts41 (o_make_Round v).2)) (fun n => (lvl Try.prog HH (n + k)).2 41 [.s (.one (.v (.int .i64 n1))), .s (.one (.v (.int .i64 k2)))] []) (F_make_Round n1 k2) := Lim.den (x := (X_make_Round n1 k2)) k
theorem F_make_Round_of (n1 : Int) (k2 : Int) : ∀ r, ((
    bif k2 == 0 then (
      none)
    else
    letIn (Int.tmod n1 k2 : Int) fun n3 =>
    bif decide (n3 < 0) then (
      letIn (IntKind.wrap .i64 (n3 + k2) : Int) fun n4 =>
      some n4)
    else
    some n3) : Option Int) = some r →
    F_make_Round n1 k2 = some r := fun r h =>
  den_of (x := (X_make_Round n1 k2)) injO_make_Round 1 (Lim.cong (fun n => fn41 n n1 k2) (by
      refine Lim.bif rfl Lim.none_ ?_
      refine Lim.letIn rfl fun n3 => ?_
      refine Lim.bif rfl ?_ ?_
      · refine Lim.letIn rfl fun n4 => ?_
        exact Lim.leaf rfl
      exact Lim.leaf rfl
    )) h

/-! armplan/armplanref1.Clamp -/
abbrev o_ref1_Clamp (v : Int) : VtsT outs102 × MtsT mouts102 := ((v, ()), ())
abbrev encO_ref1_Clamp (v : Int) : R := (encR outs102 (o_ref1_Clamp v).1, encMts mouts102 (o_ref1_Clamp v).2)
theorem injO_ref1_Clamp : ∀ a b, encO_ref1_Clamp a = encO_ref1_Clamp b → a = b := by
  rintro a0 b0 h
  have h1 := encR_inj (Prod.mk.inj h).1
  have h2 := encMts_inj (Prod.mk.inj h).2
  simp [o_ref1_Clamp] at h1 h2
  simp [h1, h2]
noncomputable abbrev X_ref1_Clamp (a1 : Int) (n : Nat) : Option R := (lvl Try.prog HH n).2 102 [.s (.one (.v (.int .i64 a1)))] []
noncomputable def F_ref1_Clamp (a1 : Int) : Option Int := den encO_ref1_Clamp (X_ref1_Clamp a1)
theorem lim_ref1_Clamp (k : Nat) (a1 : Int) : Lim (fun v => (encR outs102 (o_ref1_Clamp v).1, encMts mouts102 (o_ref1_Clamp v).2)) (fun n => (lvl Try.prog HH (n + k)).2 102 [.s (.one (.v (.int .i64 a1)))] []) (F_ref1_Clamp a1) := Lim.den (x := (X_ref1_Clamp a1)) k
theorem F_ref1_Clamp_of (a1 : Int) : ∀ r, ((
    letIn (if 2147483648 < a1 then 2147483648 else a1 : Int) fun n2 =>
    letIn (if n2 > (-2147483648) then n2 else (-2147483648) : Int) fun n3 =>
    some n3) : Option Int) = some r →
    F_ref1_Clamp a1 = some r := fun r h =>
  den_of (x := (X_ref1_Clamp a1)) injO_ref1_Clamp 1 (Lim.cong (fun n => fn102 n a1) (by
      refine Lim.letIn rfl fun n2 => ?_
      refine Lim.letIn rfl fun n3 => ?_
      exact Lim.leaf rfl
    )) h
def G_ref1_Clamp (a1 : Int) : Int :=
  letIn (if 2147483648 < a1 then 2147483648 else a1 : Int) fun n2 =>
  letIn (if n2 > (-2147483648) then n2 else (-2147483648) : Int) fun n3 =>
  n3
theorem F_ref1_Clamp_eq (a1 : Int) : F_ref1_Clamp a1 = some (G_ref1_Clamp a1) := F_ref1_Clamp_of a1 _ (by
  unfold G_ref1_Clamp
  refine Tot.letIn fun n2 => ?_
  refine Tot.letIn fun n3 => ?_
  rfl)

/-! armplan/armplanmake.Interval -/
abbrev o_make_Interval (v : I2) : VtsT outs43 × MtsT mouts43 := (((v.c0, v.c1, ()), ()), ())
abbrev encO_make_Interval (v : I2) : R := (encR outs43 (o_make_Interval v).1, encMts mouts43 (o_make_Interval v).2)
theorem injO_make_Interval : ∀ a b, encO_make_Interval a = encO_make_Interval b → a = b := by
  rintro ⟨a0, a1⟩ ⟨b0, b1⟩ h
  have h1 := encR_inj (Prod.mk.inj h).1
  have h2 := encMts_inj (Prod.mk.inj h).2
  simp [o_make_Interval] at h1 h2
  simp [h1, h2]
noncomputable abbrev X_make_Interval (a1 : Int) (b2 : Int) (n : Nat) : Option R := (lvl Try.prog HH n).2 43 [.s (.one (.v (.int .i64 a1))), .s (.one (.v (.int .i64 b2)))] []
noncomputable def F_make_Interval (a1 : Int) (b2 : Int) : Option I2 := den encO_make_Interval (X_make_Interval a1 b2)
theorem lim_make_Interval (k : Nat) (a1 : Int) (b2 : Int) : Lim (fun v => (encR outs43 (o_make_Interval v).1, encMts mouts43 (o_make_Interval v).2)) (fun n => (lvl Try.prog HH (n + k)).2 43 [.s (.one (.v (.int .i64 a1))), .s (.one (.v (.int .i64 b2)))] []) (F_make_Interval a1 b2) := Lim.den (x := (X_make_Interval a1 b2)) k
theorem F_make_Interval_of (a1 : Int) (b2 : Int) : ∀ r, ((
    letIn (Int.fdiv a1 8 : Int) fun n3 =>
    (F_make_Round n3 27).bind fun y4 =>
    letIn (IntKind.wrap .i64 (4 + y4) : Int) fun n5 =>
    letIn (IntKind.wrap .u64 n5 : Int) fun n6 =>
    bif decide (n6 < 0) then (
      none)
    else
    letIn (IntKind.wrap .i64 (1 * (2 ^ min n6.toNat 64)) : Int) fun n7 =>
    letIn (IntKind.wrap .i64 (2 * n7) : Int) fun n8 =>
    letIn (IntKind.wrap .i64 (n8 + 1) : Int) fun n9 =>
    (F_make_Round a1 n9).bind fun y10 =>
    letIn (IntKind.wrap .i64 (y10 - n7) : Int) fun n11 =>
    letIn (IntKind.wrap .i64 (2 * n7) : Int) fun n12 =>
    letIn (IntKind.wrap .i64 (n12 + 1) : Int) fun n13 =>
    (F_make_Round b2 n13).bind fun y14 =>
    letIn (IntKind.wrap .i64 (y14 - n7) : Int) fun n15 =>
    letIn (IntKind.wrap .i64 ((BitVec.ofInt 64 b2 &&& BitVec.ofInt 64 1).toNat : Nat) : Int) fun n16 =>
    bif n16 == 0 then (
      letIn (Int.fdiv b2 2 : Int) fun n17 =>
      letIn (IntKind.wrap .i64 (Int.tdiv n7 8) : Int) fun n18 =>
      letIn (IntKind.wrap .i64 (1 + n18) : Int) fun n19 =>
      (F_make_Round n17 n19).bind fun y20 =>
      letIn (IntKind.wrap .i64 (n11 + y20) : Int) fun n21 =>
      (F_ref1_Clamp n11).bind fun y22 =>
      (F_ref1_Clamp n21).bind fun y23 =>
      letIn (if y23 < y22 then y23 else y22 : Int) fun n24 =>
      (F_ref1_Clamp n11).bind fun y25 =>
      (F_ref1_Clamp n21).bind fun y26 =>
      letIn (if y26 > y25 then y26 else y25 : Int) fun n27 =>
      some ((I2.mk n24 n27)))
    else
    (F_ref1_Clamp n11).bind fun y28 =>
    (F_ref1_Clamp n15).bind fun y29 =>
    letIn (if y29 < y28 then y29 else y28 : Int) fun n30 =>
    (F_ref1_Clamp n11).bind fun y31 =>
    (F_ref1_Clamp n15).bind fun y32 =>
    letIn (if y32 > y31 then y32 else y31 : Int) fun n33 =>
    some ((I2.mk n30 n33))) : Option I2) = some r →
    F_make_Interval a1 b2 = some r := fun r h =>
  den_of (x := (X_make_Interval a1 b2)) injO_make_Interval 1 (Lim.cong (fun n => fn43 n a1 b2) (by
      refine Lim.letIn rfl fun n3 => ?_
      refine Lim.call o_make_Round (lim_make_Round 0 n3 27) rfl rfl fun y4 => ?_
      refine Lim.letIn rfl fun n5 => ?_
      refine Lim.letIn rfl fun n6 => ?_
      refine Lim.bif rfl Lim.none_ ?_
      refine Lim.letIn rfl fun n7 => ?_
      refine Lim.letIn rfl fun n8 => ?_
      refine Lim.letIn rfl fun n9 => ?_
      refine Lim.call o_make_Round (lim_make_Round 0 a1 n9) rfl rfl fun y10 => ?_
      refine Lim.letIn rfl fun n11 => ?_
      refine Lim.letIn rfl fun n12 => ?_
      refine Lim.letIn rfl fun n13 => ?_
      refine Lim.call o_make_Round (lim_make_Round 0 b2 n13) rfl rfl fun y14 => ?_
      refine Lim.letIn rfl fun n15 => ?_
      refine Lim.letIn rfl fun n16 => ?_
      refine Lim.bif rfl ?_ ?_
      · refine Lim.letIn rfl fun n17 => ?_
        refine Lim.letIn rfl fun n18 => ?_
        refine Lim.letIn rfl fun n19 => ?_
        refine Lim.call o_make_Round (lim_make_Round 0 n17 n19) rfl rfl fun y20 => ?_
        refine Lim.letIn rfl fun n21 => ?_
        refine Lim.call o_ref1_Clamp (lim_ref1_Clamp 0 n11) rfl rfl fun y22 => ?_
        refine Lim.call o_ref1_Clamp (lim_ref1_Clamp 0 n21) rfl rfl fun y23 => ?_
        refine Lim.letIn rfl fun n24 => ?_
        refine Lim.call o_ref1_Clamp (lim_ref1_Clamp 0 n11) rfl rfl fun y25 => ?_
        refine Lim.call o_ref1_Clamp (lim_ref1_Clamp 0 n21) rfl rfl fun y26 => ?_
        refine Lim.letIn rfl fun n27 => ?_
        exact Lim.leaf rfl
      refine Lim.call o_ref1_Clamp (lim_ref1_Clamp 0 n11) rfl rfl fun y28 => ?_
      refine Lim.call o_ref1_Clamp (lim_ref1_Clamp 0 n15) rfl rfl fun y29 => ?_
      refine Lim.letIn rfl fun n30 => ?_
      refine Lim.call o_ref1_Clamp (lim_ref1_Clamp 0 n11) rfl rfl fun y31 => ?_
      refine Lim.call o_ref1_Clamp (lim_ref1_Clamp 0 n15) rfl rfl fun y32 => ?_
      refine Lim.letIn rfl fun n33 => ?_
      exact Lim.leaf rfl
    )) h

/-! armplan/armplanmake.Part -/
abbrev o_make_Part (v : I2) : VtsT outs65 × MtsT mouts65 := (((v.c0, v.c1, ()), ()), ())
abbrev encO_make_Part (v : I2) : R := (encR outs65 (o_make_Part v).1, encMts mouts65 (o_make_Part v).2)
theorem injO_make_Part : ∀ a b, encO_make_Part a = encO_make_Part b → a = b := by
  rintro ⟨a0, a1⟩ ⟨b0, b1⟩ h
  have h1 := encR_inj (Prod.mk.inj h).1
  have h2 := encMts_inj (Prod.mk.inj h).2
  simp [o_make_Part] at h1 h2
  simp [h1, h2]
noncomputable abbrev X_make_Part (a1 : I2) (m2 : Int) (n3 : Int) (n : Nat) : Option R := (lvl Try.prog HH n).2 65 [.s (.agg true [.v (.int .i64 a1.c0), .v (.int .i64 a1.c1)]), .s (.one (.v (.int .i64 m2))), .s (.one (.v (.int .i64 n3)))] []
noncomputable def F_make_Part (a1 : I2) (m2 : Int) (n3 : Int) : Option I2 := den encO_make_Part (X_make_Part a1 m2 n3)
theorem lim_make_Part (k : Nat) (a1 : I2) (m2 : Int) (n3 : Int) : Lim (fun v => (encR outs65 (o_make_Part v).1, encMts mouts65 (o_make_Part v).2)) (fun n => (lvl Try.prog HH (n + k)).2 65 [.s (.agg true [.v (.int .i64 a1.c0), .v (.int .i64 a1.c1)]), .s (.one (.v (.int .i64 m2))), .s (.one (.v (.int .i64 n3)))] []) (F_make_Part a1 m2 n3) := Lim.den (x := (X_make_Part a1 m2 n3)) k
theorem F_make_Part_of (a1 : I2) (m2 : Int) (n3 : Int) : ∀ r, ((
    letIn (IntKind.wrap .i64 (a1.c1 - a1.c0) : Int) fun n4 =>
    letIn (IntKind.wrap .i64 (n4 + 1) : Int) fun n5 =>
    (F_make_Round m2 n5).bind fun y6 =>
    letIn (IntKind.wrap .i64 (a1.c0 + y6) : Int) fun n7 =>
    letIn (IntKind.wrap .i64 ((BitVec.ofInt 64 n3 &&& BitVec.ofInt 64 1).toNat : Nat) : Int) fun n8 =>
    bif n8 == 0 then (
      some ((I2.mk n7 n7)))
    else
    letIn (Int.fdiv n3 2 : Int) fun n9 =>
    (F_make_Round n9 n5).bind fun y10 =>
    letIn (IntKind.wrap .i64 (a1.c0 + y10) : Int) fun n11 =>
    letIn (if n11 < n7 then n11 else n7 : Int) fun n12 =>
    letIn (if n11 > n7 then n11 else n7 : Int) fun n13 =>
    some ((I2.mk n12 n13))) : Option I2) = some r →
    F_make_Part a1 m2 n3 = some r := fun r h =>
  den_of (x := (X_make_Part a1 m2 n3)) injO_make_Part 1 (Lim.cong (fun n => fn65 n a1.c0 a1.c1 m2 n3) (by
      refine Lim.letIn rfl fun n4 => ?_
      refine Lim.letIn rfl fun n5 => ?_
      refine Lim.call o_make_Round (lim_make_Round 0 m2 n5) rfl rfl fun y6 => ?_
      refine Lim.letIn rfl fun n7 => ?_
      refine Lim.letIn rfl fun n8 => ?_
      refine Lim.bif rfl ?_ ?_
      · exact Lim.leaf rfl
      refine Lim.letIn rfl fun n9 => ?_
      refine Lim.call o_make_Round (lim_make_Round 0 n9 n5) rfl rfl fun y10 => ?_
      refine Lim.letIn rfl fun n11 => ?_
      refine Lim.letIn rfl fun n12 => ?_
      refine Lim.letIn rfl fun n13 => ?_
      exact Lim.leaf rfl
    )) h

/-! armplan/interval.Valid -/
abbrev o_interval_Valid (v : Bool) : VtsT outs48 × MtsT mouts48 := ((v, ()), ())
abbrev encO_interval_Valid (v : Bool) : R := (encR outs48 (o_interval_Valid v).1, encMts mouts48 (o_interval_Valid v).2)
theorem injO_interval_Valid : ∀ a b, encO_interval_Valid a = encO_interval_Valid b → a = b := by
  rintro a0 b0 h
  have h1 := encR_inj (Prod.mk.inj h).1
  have h2 := encMts_inj (Prod.mk.inj h).2
  simp [o_interval_Valid] at h1 h2
  simp [h1, h2]
noncomputable abbrev X_interval_Valid (a1 : I2) (n : Nat) : Option R := (lvl Try.prog HH n).2 48 [.s (.agg true [.v (.int .i64 a1.c0), .v (.int .i64 a1.c1)])] []
noncomputable def F_interval_Valid (a1 : I2) : Option Bool := den encO_interval_Valid (X_interval_Valid a1)
theorem lim_interval_Valid (k : Nat) (a1 : I2) : Lim (fun v => (encR outs48 (o_interval_Valid v).1, encMts mouts48 (o_interval_Valid v).2)) (fun n => (lvl Try.prog HH (n + k)).2 48 [.s (.agg true [.v (.int .i64 a1.c0), .v (.int .i64 a1.c1)])] []) (F_interval_Valid a1) := Lim.den (x := (X_interval_Valid a1)) k
theorem F_interval_Valid_of (a1 : I2) : ∀ r, ((
    bif decide (a1.c0 ≥ (-2147483648)) then (
      bif decide (a1.c0 ≤ a1.c1) then (
        some (decide (a1.c1 ≤ 2147483648)))
      else
      some false)
    else
    some false) : Option Bool) = some r →
    F_interval_Valid a1 = some r := fun r h =>
  den_of (x := (X_interval_Valid a1)) injO_interval_Valid 1 (Lim.cong (fun n => fn48 n a1.c0 a1.c1) (by
      refine Lim.bif rfl ?_ ?_
      · refine Lim.bif rfl ?_ ?_
        · exact Lim.leaf rfl
        exact Lim.leaf rfl
      exact Lim.leaf rfl
    )) h
def G_interval_Valid (a1 : I2) : Bool :=
  bif decide (a1.c0 ≥ (-2147483648)) then (
    bif decide (a1.c0 ≤ a1.c1) then (
      (decide (a1.c1 ≤ 2147483648)))
    else
    false)
  else
  false
theorem F_interval_Valid_eq (a1 : I2) : F_interval_Valid a1 = some (G_interval_Valid a1) := F_interval_Valid_of a1 _ (by
  unfold G_interval_Valid
  refine Tot.bif ?_ ?_
  · refine Tot.bif ?_ ?_
    · rfl
    rfl
  rfl)

/-! armplan/interval.both -/
abbrev o_interval_both (v : Bool) : VtsT outs108 × MtsT mouts108 := ((v, ()), ())
abbrev encO_interval_both (v : Bool) : R := (encR outs108 (o_interval_both v).1, encMts mouts108 (o_interval_both v).2)
theorem injO_interval_both : ∀ a b, encO_interval_both a = encO_interval_both b → a = b := by
  rintro a0 b0 h
  have h1 := encR_inj (Prod.mk.inj h).1
  have h2 := encMts_inj (Prod.mk.inj h).2
  simp [o_interval_both] at h1 h2
  simp [h1, h2]
noncomputable abbrev X_interval_both (a1 : I2) (b2 : I2) (n : Nat) : Option R := (lvl Try.prog HH n).2 108 [.s (.agg true [.v (.int .i64 a1.c0), .v (.int .i64 a1.c1)]), .s (.agg true [.v (.int .i64 b2.c0), .v (.int .i64 b2.c1)])] []
noncomputable def F_interval_both (a1 : I2) (b2 : I2) : Option Bool := den encO_interval_both (X_interval_both a1 b2)
theorem lim_interval_both (k : Nat) (a1 : I2) (b2 : I2) : Lim (fun v => (encR outs108 (o_interval_both v).1, encMts mouts108 (o_interval_both v).2)) (fun n => (lvl Try.prog HH (n + k)).2 108 [.s (.agg true [.v (.int .i64 a1.c0), .v (.int .i64 a1.c1)]), .s (.agg true [.v (.int .i64 b2.c0), .v (.int .i64 b2.c1)])] []) (F_interval_both a1 b2) := Lim.den (x := (X_interval_both a1 b2)) k
theorem F_interval_both_of (a1 : I2) (b2 : I2) : ∀ r, ((
    (F_interval_Valid a1).bind fun y3 =>
    bif y3 then (
      (F_interval_Valid b2).bind fun y4 =>
      some y4)
    else
    some false) : Option Bool) = some r →
    F_interval_both a1 b2 = some r := fun r h =>
  den_of (x := (X_interval_both a1 b2)) injO_interval_both 1 (Lim.cong (fun n => fn108 n a1.c0 a1.c1 b2.c0 b2.c1) (by
      refine Lim.call o_interval_Valid (lim_interval_Valid 0 a1) rfl rfl fun y3 => ?_
      refine Lim.bif rfl ?_ ?_
      · refine Lim.call o_interval_Valid (lim_interval_Valid 0 b2) rfl rfl fun y4 => ?_
        exact Lim.leaf rfl
      exact Lim.leaf rfl
    )) h
def G_interval_both (a1 : I2) (b2 : I2) : Bool :=
  letIn (G_interval_Valid a1) fun y3 =>
  bif y3 then (
    letIn (G_interval_Valid b2) fun y4 =>
    y4)
  else
  false
theorem F_interval_both_eq (a1 : I2) (b2 : I2) : F_interval_both a1 b2 = some (G_interval_both a1 b2) := F_interval_both_of a1 b2 _ (by
  unfold G_interval_both
  refine Tot.bind (F_interval_Valid_eq a1) fun y3 => ?_
  refine Tot.bif ?_ ?_
  · refine Tot.bind (F_interval_Valid_eq b2) fun y4 => ?_
    rfl
  rfl)

/-! armplan/fixed.ShiftDown -/
abbrev o_fixed_ShiftDown (v : Int) : VtsT outs167 × MtsT mouts167 := ((v, ()), ())
abbrev encO_fixed_ShiftDown (v : Int) : R := (encR outs167 (o_fixed_ShiftDown v).1, encMts mouts167 (o_fixed_ShiftDown v).2)
theorem injO_fixed_ShiftDown : ∀ a b, encO_fixed_ShiftDown a = encO_fixed_ShiftDown b → a = b := by
  rintro a0 b0 h
  have h1 := encR_inj (Prod.mk.inj h).1
  have h2 := encMts_inj (Prod.mk.inj h).2
  simp [o_fixed_ShiftDown] at h1 h2
  simp [h1, h2]
noncomputable abbrev X_fixed_ShiftDown (a1 : Int) (k2 : Int) (n : Nat) : Option R := (lvl Try.prog HH n).2 167 [.s (.one (.v (.int .i64 a1))), .s (.one (.v (.int .i64 k2)))] []
noncomputable def F_fixed_ShiftDown (a1 : Int) (k2 : Int) : Option Int := den encO_fixed_ShiftDown (X_fixed_ShiftDown a1 k2)
theorem lim_fixed_ShiftDown (k : Nat) (a1 : Int) (k2 : Int) : Lim (fun v => (encR outs167 (o_fixed_ShiftDown v).1, encMts mouts167 (o_fixed_ShiftDown v).2)) (fun n => (lvl Try.prog HH (n + k)).2 167 [.s (.one (.v (.int .i64 a1))), .s (.one (.v (.int .i64 k2)))] []) (F_fixed_ShiftDown a1 k2) := Lim.den (x := (X_fixed_ShiftDown a1 k2)) k
theorem F_fixed_ShiftDown_of (a1 : Int) (k2 : Int) : ∀ r, ((
    bif decide (k2 < 0) then (
      some a1)
    else
    bif decide (k2 < 0) then (
      none)
    else
    letIn (Int.fdiv a1 (2 ^ min k2.toNat 64) : Int) fun n3 =>
    some n3) : Option Int) = some r →
    F_fixed_ShiftDown a1 k2 = some r := fun r h =>
  den_of (x := (X_fixed_ShiftDown a1 k2)) injO_fixed_ShiftDown 1 (Lim.cong (fun n => fn167 n a1 k2) (by
      refine Lim.bif rfl ?_ ?_
      · exact Lim.leaf rfl
      refine Lim.bif rfl Lim.none_ ?_
      refine Lim.letIn rfl fun n3 => ?_
      exact Lim.leaf rfl
    )) h

/-! armplan/fixed.ShiftUp -/
abbrev o_fixed_ShiftUp (v : Int) : VtsT outs168 × MtsT mouts168 := ((v, ()), ())
abbrev encO_fixed_ShiftUp (v : Int) : R := (encR outs168 (o_fixed_ShiftUp v).1, encMts mouts168 (o_fixed_ShiftUp v).2)
theorem injO_fixed_ShiftUp : ∀ a b, encO_fixed_ShiftUp a = encO_fixed_ShiftUp b → a = b := by
  rintro a0 b0 h
  have h1 := encR_inj (Prod.mk.inj h).1
  have h2 := encMts_inj (Prod.mk.inj h).2
  simp [o_fixed_ShiftUp] at h1 h2
  simp [h1, h2]
noncomputable abbrev X_fixed_ShiftUp (a1 : Int) (k2 : Int) (n : Nat) : Option R := (lvl Try.prog HH n).2 168 [.s (.one (.v (.int .i64 a1))), .s (.one (.v (.int .i64 k2)))] []
noncomputable def F_fixed_ShiftUp (a1 : Int) (k2 : Int) : Option Int := den encO_fixed_ShiftUp (X_fixed_ShiftUp a1 k2)
theorem lim_fixed_ShiftUp (k : Nat) (a1 : Int) (k2 : Int) : Lim (fun v => (encR outs168 (o_fixed_ShiftUp v).1, encMts mouts168 (o_fixed_ShiftUp v).2)) (fun n => (lvl Try.prog HH (n + k)).2 168 [.s (.one (.v (.int .i64 a1))), .s (.one (.v (.int .i64 k2)))] []) (F_fixed_ShiftUp a1 k2) := Lim.den (x := (X_fixed_ShiftUp a1 k2)) k
theorem F_fixed_ShiftUp_of (a1 : Int) (k2 : Int) : ∀ r, ((
    (F_fixed_ShiftDown a1 k2).bind fun y3 =>
    bif decide (k2 ≥ 0) then (
      bif decide (k2 < 0) then (
        none)
      else
      letIn (IntKind.wrap .i64 (y3 * (2 ^ min k2.toNat 64)) : Int) fun n4 =>
      bif n4 != a1 then (
        letIn (IntKind.wrap .i64 (y3 + 1) : Int) fun n5 =>
        some n5)
      else
      some y3)
    else
    some y3) : Option Int) = some r →
    F_fixed_ShiftUp a1 k2 = some r := fun r h =>
  den_of (x := (X_fixed_ShiftUp a1 k2)) injO_fixed_ShiftUp 1 (Lim.cong (fun n => fn168 n a1 k2) (by
      refine Lim.call o_fixed_ShiftDown (lim_fixed_ShiftDown 0 a1 k2) rfl rfl fun y3 => ?_
      refine Lim.bif rfl ?_ ?_
      · refine Lim.bif rfl Lim.none_ ?_
        refine Lim.letIn rfl fun n4 => ?_
        refine Lim.bif rfl ?_ ?_
        · refine Lim.letIn rfl fun n5 => ?_
          exact Lim.leaf rfl
        exact Lim.leaf rfl
      exact Lim.leaf rfl
    )) h

/-! armplan/fixed.Clamp -/
abbrev o_fixed_Clamp (v : Int) : VtsT outs129 × MtsT mouts129 := ((v, ()), ())
abbrev encO_fixed_Clamp (v : Int) : R := (encR outs129 (o_fixed_Clamp v).1, encMts mouts129 (o_fixed_Clamp v).2)
theorem injO_fixed_Clamp : ∀ a b, encO_fixed_Clamp a = encO_fixed_Clamp b → a = b := by
  rintro a0 b0 h
  have h1 := encR_inj (Prod.mk.inj h).1
  have h2 := encMts_inj (Prod.mk.inj h).2
  simp [o_fixed_Clamp] at h1 h2
  simp [h1, h2]
noncomputable abbrev X_fixed_Clamp (a1 : Int) (n : Nat) : Option R := (lvl Try.prog HH n).2 129 [.s (.one (.v (.int .i64 a1)))] []
noncomputable def F_fixed_Clamp (a1 : Int) : Option Int := den encO_fixed_Clamp (X_fixed_Clamp a1)
theorem lim_fixed_Clamp (k : Nat) (a1 : Int) : Lim (fun v => (encR outs129 (o_fixed_Clamp v).1, encMts mouts129 (o_fixed_Clamp v).2)) (fun n => (lvl Try.prog HH (n + k)).2 129 [.s (.one (.v (.int .i64 a1)))] []) (F_fixed_Clamp a1) := Lim.den (x := (X_fixed_Clamp a1)) k
theorem F_fixed_Clamp_of (a1 : Int) : ∀ r, ((
    letIn (if (-2147483648) > a1 then (-2147483648) else a1 : Int) fun n2 =>
    letIn (if 2147483648 < n2 then 2147483648 else n2 : Int) fun n3 =>
    some n3) : Option Int) = some r →
    F_fixed_Clamp a1 = some r := fun r h =>
  den_of (x := (X_fixed_Clamp a1)) injO_fixed_Clamp 1 (Lim.cong (fun n => fn129 n a1) (by
      refine Lim.letIn rfl fun n2 => ?_
      refine Lim.letIn rfl fun n3 => ?_
      exact Lim.leaf rfl
    )) h
def G_fixed_Clamp (a1 : Int) : Int :=
  letIn (if (-2147483648) > a1 then (-2147483648) else a1 : Int) fun n2 =>
  letIn (if 2147483648 < n2 then 2147483648 else n2 : Int) fun n3 =>
  n3
theorem F_fixed_Clamp_eq (a1 : Int) : F_fixed_Clamp a1 = some (G_fixed_Clamp a1) := F_fixed_Clamp_of a1 _ (by
  unfold G_fixed_Clamp
  refine Tot.letIn fun n2 => ?_
  refine Tot.letIn fun n3 => ?_
  rfl)

/-! armplan/interval.limit -/
abbrev o_interval_limit (v : I2) : VtsT outs107 × MtsT mouts107 := (((v.c0, v.c1, ()), ()), ())
abbrev encO_interval_limit (v : I2) : R := (encR outs107 (o_interval_limit v).1, encMts mouts107 (o_interval_limit v).2)
theorem injO_interval_limit : ∀ a b, encO_interval_limit a = encO_interval_limit b → a = b := by
  rintro ⟨a0, a1⟩ ⟨b0, b1⟩ h
  have h1 := encR_inj (Prod.mk.inj h).1
  have h2 := encMts_inj (Prod.mk.inj h).2
  simp [o_interval_limit] at h1 h2
  simp [h1, h2]
noncomputable abbrev X_interval_limit (lo1 : Int) (hi2 : Int) (n : Nat) : Option R := (lvl Try.prog HH n).2 107 [.s (.one (.v (.int .i64 lo1))), .s (.one (.v (.int .i64 hi2)))] []
noncomputable def F_interval_limit (lo1 : Int) (hi2 : Int) : Option I2 := den encO_interval_limit (X_interval_limit lo1 hi2)
theorem lim_interval_limit (k : Nat) (lo1 : Int) (hi2 : Int) : Lim (fun v => (encR outs107 (o_interval_limit v).1, encMts mouts107 (o_interval_limit v).2)) (fun n => (lvl Try.prog HH (n + k)).2 107 [.s (.one (.v (.int .i64 lo1))), .s (.one (.v (.int .i64 hi2)))] []) (F_interval_limit lo1 hi2) := Lim.den (x := (X_interval_limit lo1 hi2)) k
theorem F_interval_limit_of (lo1 : Int) (hi2 : Int) : ∀ r, ((
    (F_fixed_Clamp lo1).bind fun y3 =>
    (F_fixed_Clamp hi2).bind fun y4 =>
    some ((I2.mk y3 y4))) : Option I2) = some r →
    F_interval_limit lo1 hi2 = some r := fun r h =>
  den_of (x := (X_interval_limit lo1 hi2)) injO_interval_limit 1 (Lim.cong (fun n => fn107 n lo1 hi2) (by
      refine Lim.call o_fixed_Clamp (lim_fixed_Clamp 0 lo1) rfl rfl fun y3 => ?_
      refine Lim.call o_fixed_Clamp (lim_fixed_Clamp 0 hi2) rfl rfl fun y4 => ?_
      exact Lim.leaf rfl
    )) h
def G_interval_limit (lo1 : Int) (hi2 : Int) : I2 :=
  letIn (G_fixed_Clamp lo1) fun y3 =>
  letIn (G_fixed_Clamp hi2) fun y4 =>
  ((I2.mk y3 y4))
theorem F_interval_limit_eq (lo1 : Int) (hi2 : Int) : F_interval_limit lo1 hi2 = some (G_interval_limit lo1 hi2) := F_interval_limit_of lo1 hi2 _ (by
  unfold G_interval_limit
  refine Tot.bind (F_fixed_Clamp_eq lo1) fun y3 => ?_
  refine Tot.bind (F_fixed_Clamp_eq hi2) fun y4 => ?_
  rfl)

/-! armplan/interval.outward -/
abbrev o_interval_outward (v : I2) : VtsT outs115 × MtsT mouts115 := (((v.c0, v.c1, ()), ()), ())
abbrev encO_interval_outward (v : I2) : R := (encR outs115 (o_interval_outward v).1, encMts mouts115 (o_interval_outward v).2)
theorem injO_interval_outward : ∀ a b, encO_interval_outward a = encO_interval_outward b → a = b := by
  rintro ⟨a0, a1⟩ ⟨b0, b1⟩ h
  have h1 := encR_inj (Prod.mk.inj h).1
  have h2 := encMts_inj (Prod.mk.inj h).2
  simp [o_interval_outward] at h1 h2
  simp [h1, h2]
noncomputable abbrev X_interval_outward (lo1 : Int) (hi2 : Int) (n : Nat) : Option R := (lvl Try.prog HH n).2 115 [.s (.one (.v (.int .i64 lo1))), .s (.one (.v (.int .i64 hi2)))] []
noncomputable def F_interval_outward (lo1 : Int) (hi2 : Int) : Option I2 := den encO_interval_outward (X_interval_outward lo1 hi2)
theorem lim_interval_outward (k : Nat) (lo1 : Int) (hi2 : Int) : Lim (fun v => (encR outs115 (o_interval_outward v).1, encMts mouts115 (o_interval_outward v).2)) (fun n => (lvl Try.prog HH (n + k)).2 115 [.s (.one (.v (.int .i64 lo1))), .s (.one (.v (.int .i64 hi2)))] []) (F_interval_outward lo1 hi2) := Lim.den (x := (X_interval_outward lo1 hi2)) k
theorem F_interval_outward_of (lo1 : Int) (hi2 : Int) : ∀ r, ((
    (F_fixed_ShiftDown lo1 16).bind fun y3 =>
    (F_fixed_ShiftUp hi2 16).bind fun y4 =>
    (F_interval_limit y3 y4).bind fun y5 =>
    some y5) : Option I2) = some r →
    F_interval_outward lo1 hi2 = some r := fun r h =>
  den_of (x := (X_interval_outward lo1 hi2)) injO_interval_outward 1 (Lim.cong (fun n => fn115 n lo1 hi2) (by
      refine Lim.call o_fixed_ShiftDown (lim_fixed_ShiftDown 0 lo1 16) rfl rfl fun y3 => ?_
      refine Lim.call o_fixed_ShiftUp (lim_fixed_ShiftUp 0 hi2 16) rfl rfl fun y4 => ?_
      refine Lim.call o_interval_limit (lim_interval_limit 0 y3 y4) rfl rfl fun y5 => ?_
      exact Lim.leaf rfl
    )) h

/-! armplan/interval.Mul -/
abbrev E_interval_Mul_0 : Type := (Int × Int × I2)
def enc_L_interval_Mul_0 (e : E_interval_Mul_0) : Ex × St := (.exit 0, encSt S69_0_e0 (((), e.1, e.2.1, ()), ((e.2.2.c0, e.2.2.c1, ()), ())))
theorem inj_L_interval_Mul_0 : ∀ a b, enc_L_interval_Mul_0 a = enc_L_interval_Mul_0 b → a = b := by
  rintro ⟨a0, a1, ⟨a2, a3⟩⟩ ⟨b0, b1, ⟨b2, b3⟩⟩ h
  first | (cases h; done) | (have h2 := encSt_inj rfl (Prod.mk.inj h).2; simp [] at h2; simp [h2]) | (have h2 := (Prod.mk.inj h).1; simp at h2) | rfl
abbrev o_interval_Mul (v : I2) : VtsT outs69 × MtsT mouts69 := (((v.c0, v.c1, ()), ()), ())
abbrev encO_interval_Mul (v : I2) : R := (encR outs69 (o_interval_Mul v).1, encMts mouts69 (o_interval_Mul v).2)
theorem injO_interval_Mul : ∀ a b, encO_interval_Mul a = encO_interval_Mul b → a = b := by
  rintro ⟨a0, a1⟩ ⟨b0, b1⟩ h
  have h1 := encR_inj (Prod.mk.inj h).1
  have h2 := encMts_inj (Prod.mk.inj h).2
  simp [o_interval_Mul] at h1 h2
  simp [h1, h2]
noncomputable abbrev X_interval_Mul (a1 : I2) (b2 : I2) (n : Nat) : Option R := (lvl Try.prog HH n).2 69 [.s (.agg true [.v (.int .i64 a1.c0), .v (.int .i64 a1.c1)]), .s (.agg true [.v (.int .i64 b2.c0), .v (.int .i64 b2.c1)])] []
noncomputable def F_interval_Mul (a1 : I2) (b2 : I2) : Option I2 := den encO_interval_Mul (X_interval_Mul a1 b2)
theorem lim_interval_Mul (k : Nat) (a1 : I2) (b2 : I2) : Lim (fun v => (encR outs69 (o_interval_Mul v).1, encMts mouts69 (o_interval_Mul v).2)) (fun n => (lvl Try.prog HH (n + k)).2 69 [.s (.agg true [.v (.int .i64 a1.c0), .v (.int .i64 a1.c1)]), .s (.agg true [.v (.int .i64 b2.c0), .v (.int .i64 b2.c1)])] []) (F_interval_Mul a1 b2) := Lim.den (x := (X_interval_Mul a1 b2)) k
theorem F_interval_Mul_of (a1 : I2) (b2 : I2) : ∀ r, ((
    (F_interval_both a1 b2).bind fun y3 =>
    bif !y3 then (
      some ((I2.mk 0 0)))
    else
    letIn (IntKind.wrap .i64 (a1.c0 * b2.c0) : Int) fun n4 =>
    letIn (IntKind.wrap .i64 (a1.c0 * b2.c1) : Int) fun n5 =>
    letIn (IntKind.wrap .i64 (a1.c1 * b2.c0) : Int) fun n6 =>
    letIn (IntKind.wrap .i64 (a1.c1 * b2.c1) : Int) fun n7 =>
    letIn (if n4 < n4 then n4 else n4 : Int) fun n8 =>
    letIn (if n4 > n4 then n4 else n4 : Int) fun n9 =>
    letIn (if n5 < n8 then n5 else n8 : Int) fun n10 =>
    letIn (if n5 > n9 then n5 else n9 : Int) fun n11 =>
    letIn (if n6 < n10 then n6 else n10 : Int) fun n12 =>
    letIn (if n6 > n11 then n6 else n11 : Int) fun n13 =>
    letIn (if n7 < n12 then n7 else n12 : Int) fun n14 =>
    letIn (if n7 > n13 then n7 else n13 : Int) fun n15 =>
    (F_interval_outward n14 n15).bind fun y16 =>
    some y16) : Option I2) = some r →
    F_interval_Mul a1 b2 = some r := fun r h =>
  den_of (x := (X_interval_Mul a1 b2)) injO_interval_Mul 6 (Lim.cong (fun n => fn69 n a1.c0 a1.c1 b2.c0 b2.c1) (by
      refine Lim.call o_interval_both (lim_interval_both 5 a1 b2) rfl rfl fun y3 => ?_
      refine Lim.bif rfl ?_ ?_
      · exact Lim.leaf rfl
      refine Lim.letIn rfl fun n4 => ?_
      refine Lim.letIn rfl fun n5 => ?_
      refine Lim.letIn rfl fun n6 => ?_
      refine Lim.letIn rfl fun n7 => ?_
      refine Lim.letIn rfl fun n8 => ?_
      refine Lim.letIn rfl fun n9 => ?_
      refine Lim.letIn rfl fun n10 => ?_
      refine Lim.letIn rfl fun n11 => ?_
      refine Lim.letIn rfl fun n12 => ?_
      refine Lim.letIn rfl fun n13 => ?_
      refine Lim.letIn rfl fun n14 => ?_
      refine Lim.letIn rfl fun n15 => ?_
      refine Lim.call o_interval_outward (lim_interval_outward 5 n14 n15) rfl rfl fun y16 => ?_
      exact Lim.leaf rfl
    )) h

/-! armplan/interval.Of -/
abbrev o_interval_Of (v : I2) : VtsT outs46 × MtsT mouts46 := (((v.c0, v.c1, ()), ()), ())
abbrev encO_interval_Of (v : I2) : R := (encR outs46 (o_interval_Of v).1, encMts mouts46 (o_interval_Of v).2)
theorem injO_interval_Of : ∀ a b, encO_interval_Of a = encO_interval_Of b → a = b := by
  rintro ⟨a0, a1⟩ ⟨b0, b1⟩ h
  have h1 := encR_inj (Prod.mk.inj h).1
  have h2 := encMts_inj (Prod.mk.inj h).2
  simp [o_interval_Of] at h1 h2
  simp [h1, h2]
noncomputable abbrev X_interval_Of (x1 : Int) (n : Nat) : Option R := (lvl Try.prog HH n).2 46 [.s (.one (.v (.int .i64 x1)))] []
noncomputable def F_interval_Of (x1 : Int) : Option I2 := den encO_interval_Of (X_interval_Of x1)
theorem lim_interval_Of (k : Nat) (x1 : Int) : Lim (fun v => (encR outs46 (o_interval_Of v).1, encMts mouts46 (o_interval_Of v).2)) (fun n => (lvl Try.prog HH (n + k)).2 46 [.s (.one (.v (.int .i64 x1)))] []) (F_interval_Of x1) := Lim.den (x := (X_interval_Of x1)) k
theorem F_interval_Of_of (x1 : Int) : ∀ r, ((
    (F_interval_limit x1 x1).bind fun y2 =>
    some y2) : Option I2) = some r →
    F_interval_Of x1 = some r := fun r h =>
  den_of (x := (X_interval_Of x1)) injO_interval_Of 1 (Lim.cong (fun n => fn46 n x1) (by
      refine Lim.call o_interval_limit (lim_interval_limit 0 x1 x1) rfl rfl fun y2 => ?_
      exact Lim.leaf rfl
    )) h
def G_interval_Of (x1 : Int) : I2 :=
  letIn (G_interval_limit x1 x1) fun y2 =>
  y2
theorem F_interval_Of_eq (x1 : Int) : F_interval_Of x1 = some (G_interval_Of x1) := F_interval_Of_of x1 _ (by
  unfold G_interval_Of
  refine Tot.bind (F_interval_limit_eq x1 x1) fun y2 => ?_
  rfl)

/-! armplan/interval.Add -/
abbrev o_interval_Add (v : I2) : VtsT outs67 × MtsT mouts67 := (((v.c0, v.c1, ()), ()), ())
abbrev encO_interval_Add (v : I2) : R := (encR outs67 (o_interval_Add v).1, encMts mouts67 (o_interval_Add v).2)
theorem injO_interval_Add : ∀ a b, encO_interval_Add a = encO_interval_Add b → a = b := by
  rintro ⟨a0, a1⟩ ⟨b0, b1⟩ h
  have h1 := encR_inj (Prod.mk.inj h).1
  have h2 := encMts_inj (Prod.mk.inj h).2
  simp [o_interval_Add] at h1 h2
  simp [h1, h2]
noncomputable abbrev X_interval_Add (a1 : I2) (b2 : I2) (n : Nat) : Option R := (lvl Try.prog HH n).2 67 [.s (.agg true [.v (.int .i64 a1.c0), .v (.int .i64 a1.c1)]), .s (.agg true [.v (.int .i64 b2.c0), .v (.int .i64 b2.c1)])] []
noncomputable def F_interval_Add (a1 : I2) (b2 : I2) : Option I2 := den encO_interval_Add (X_interval_Add a1 b2)
theorem lim_interval_Add (k : Nat) (a1 : I2) (b2 : I2) : Lim (fun v => (encR outs67 (o_interval_Add v).1, encMts mouts67 (o_interval_Add v).2)) (fun n => (lvl Try.prog HH (n + k)).2 67 [.s (.agg true [.v (.int .i64 a1.c0), .v (.int .i64 a1.c1)]), .s (.agg true [.v (.int .i64 b2.c0), .v (.int .i64 b2.c1)])] []) (F_interval_Add a1 b2) := Lim.den (x := (X_interval_Add a1 b2)) k
theorem F_interval_Add_of (a1 : I2) (b2 : I2) : ∀ r, ((
    (F_interval_both a1 b2).bind fun y3 =>
    bif !y3 then (
      some ((I2.mk 0 0)))
    else
    letIn (IntKind.wrap .i64 (a1.c0 + b2.c0) : Int) fun n4 =>
    letIn (IntKind.wrap .i64 (a1.c1 + b2.c1) : Int) fun n5 =>
    (F_interval_limit n4 n5).bind fun y6 =>
    some y6) : Option I2) = some r →
    F_interval_Add a1 b2 = some r := fun r h =>
  den_of (x := (X_interval_Add a1 b2)) injO_interval_Add 1 (Lim.cong (fun n => fn67 n a1.c0 a1.c1 b2.c0 b2.c1) (by
      refine Lim.call o_interval_both (lim_interval_both 0 a1 b2) rfl rfl fun y3 => ?_
      refine Lim.bif rfl ?_ ?_
      · exact Lim.leaf rfl
      refine Lim.letIn rfl fun n4 => ?_
      refine Lim.letIn rfl fun n5 => ?_
      refine Lim.call o_interval_limit (lim_interval_limit 0 n4 n5) rfl rfl fun y6 => ?_
      exact Lim.leaf rfl
    )) h
def G_interval_Add (a1 : I2) (b2 : I2) : I2 :=
  letIn (G_interval_both a1 b2) fun y3 =>
  bif !y3 then (
    ((I2.mk 0 0)))
  else
  letIn (IntKind.wrap .i64 (a1.c0 + b2.c0) : Int) fun n4 =>
  letIn (IntKind.wrap .i64 (a1.c1 + b2.c1) : Int) fun n5 =>
  letIn (G_interval_limit n4 n5) fun y6 =>
  y6
theorem F_interval_Add_eq (a1 : I2) (b2 : I2) : F_interval_Add a1 b2 = some (G_interval_Add a1 b2) := F_interval_Add_of a1 b2 _ (by
  unfold G_interval_Add
  refine Tot.bind (F_interval_both_eq a1 b2) fun y3 => ?_
  refine Tot.bif ?_ ?_
  · rfl
  refine Tot.letIn fun n4 => ?_
  refine Tot.letIn fun n5 => ?_
  refine Tot.bind (F_interval_limit_eq n4 n5) fun y6 => ?_
  rfl)

/-! armplan/armplanlaw2.awake -/
abbrev o_law2_awake (v : Bool) : VtsT outs44 × MtsT mouts44 := ((v, ()), ())
abbrev encO_law2_awake (v : Bool) : R := (encR outs44 (o_law2_awake v).1, encMts mouts44 (o_law2_awake v).2)
theorem injO_law2_awake : ∀ a b, encO_law2_awake a = encO_law2_awake b → a = b := by
  rintro a0 b0 h
  have h1 := encR_inj (Prod.mk.inj h).1
  have h2 := encMts_inj (Prod.mk.inj h).2
  simp [o_law2_awake] at h1 h2
  simp [h1, h2]
noncomputable abbrev X_law2_awake  (n : Nat) : Option R := (lvl Try.prog HH n).2 44 [] []
noncomputable def F_law2_awake  : Option Bool := den encO_law2_awake X_law2_awake
theorem lim_law2_awake (k : Nat)  : Lim (fun v => (encR outs44 (o_law2_awake v).1, encMts mouts44 (o_law2_awake v).2)) (fun n => (lvl Try.prog HH (n + k)).2 44 [] []) (F_law2_awake) := Lim.den (x := X_law2_awake) k
theorem F_law2_awake_of  : ∀ r, ((
    (F_interval_Mul ((I2.mk ((-3)) 5)) ((I2.mk 65536 131072))).bind fun y1 =>
    letIn ((y1.c0 == (-6)) && ((y1.c1 == 10) && true) : Bool) fun b2 =>
    bif b2 then (
      (F_interval_Of 2).bind fun y3 =>
      (F_interval_Of 3).bind fun y4 =>
      (F_interval_Add y3 y4).bind fun y5 =>
      (F_interval_Of 5).bind fun y6 =>
      letIn ((y5.c0 == y6.c0) && ((y5.c1 == y6.c1) && true) : Bool) fun b7 =>
      some b7)
    else
    some false) : Option Bool) = some r →
    F_law2_awake = some r := fun r h =>
  den_of (x := X_law2_awake) injO_law2_awake 1 (Lim.cong (fun n => fn44 n ) (by
      refine Lim.call o_interval_Mul (lim_interval_Mul 0 ((I2.mk ((-3)) 5)) ((I2.mk 65536 131072))) rfl rfl fun y1 => ?_
      refine Lim.letIn rfl fun b2 => ?_
      refine Lim.bif rfl ?_ ?_
      · refine Lim.call o_interval_Of (lim_interval_Of 0 2) rfl rfl fun y3 => ?_
        refine Lim.call o_interval_Of (lim_interval_Of 0 3) rfl rfl fun y4 => ?_
        refine Lim.call o_interval_Add (lim_interval_Add 0 y3 y4) rfl rfl fun y5 => ?_
        refine Lim.call o_interval_Of (lim_interval_Of 0 5) rfl rfl fun y6 => ?_
        refine Lim.letIn rfl fun b7 => ?_
        exact Lim.leaf rfl
      exact Lim.leaf rfl
    )) h

/-! armplan/armplanlaw2.holds -/
abbrev o_law2_holds (v : Bool) : VtsT outs66 × MtsT mouts66 := ((v, ()), ())
abbrev encO_law2_holds (v : Bool) : R := (encR outs66 (o_law2_holds v).1, encMts mouts66 (o_law2_holds v).2)
theorem injO_law2_holds : ∀ a b, encO_law2_holds a = encO_law2_holds b → a = b := by
  rintro a0 b0 h
  have h1 := encR_inj (Prod.mk.inj h).1
  have h2 := encMts_inj (Prod.mk.inj h).2
  simp [o_law2_holds] at h1 h2
  simp [h1, h2]
noncomputable abbrev X_law2_holds (a1 : I2) (x2 : Int) (n : Nat) : Option R := (lvl Try.prog HH n).2 66 [.s (.agg true [.v (.int .i64 a1.c0), .v (.int .i64 a1.c1)]), .s (.one (.v (.int .i64 x2)))] []
noncomputable def F_law2_holds (a1 : I2) (x2 : Int) : Option Bool := den encO_law2_holds (X_law2_holds a1 x2)
theorem lim_law2_holds (k : Nat) (a1 : I2) (x2 : Int) : Lim (fun v => (encR outs66 (o_law2_holds v).1, encMts mouts66 (o_law2_holds v).2)) (fun n => (lvl Try.prog HH (n + k)).2 66 [.s (.agg true [.v (.int .i64 a1.c0), .v (.int .i64 a1.c1)]), .s (.one (.v (.int .i64 x2)))] []) (F_law2_holds a1 x2) := Lim.den (x := (X_law2_holds a1 x2)) k
theorem F_law2_holds_of (a1 : I2) (x2 : Int) : ∀ r, ((
    bif decide (x2 < (-2147483648)) then (
      some true)
    else
    bif decide (x2 > 2147483648) then (
      some true)
    else
    bif decide (a1.c0 ≤ x2) then (
      some (decide (x2 ≤ a1.c1)))
    else
    some false) : Option Bool) = some r →
    F_law2_holds a1 x2 = some r := fun r h =>
  den_of (x := (X_law2_holds a1 x2)) injO_law2_holds 1 (Lim.cong (fun n => fn66 n a1.c0 a1.c1 x2) (by
      refine Lim.bif rfl ?_ ?_
      · exact Lim.leaf rfl
      refine Lim.bif rfl ?_ ?_
      · exact Lim.leaf rfl
      refine Lim.bif rfl ?_ ?_
      · exact Lim.leaf rfl
      exact Lim.leaf rfl
    )) h
def G_law2_holds (a1 : I2) (x2 : Int) : Bool :=
  bif decide (x2 < (-2147483648)) then (
    true)
  else
  bif decide (x2 > 2147483648) then (
    true)
  else
  bif decide (a1.c0 ≤ x2) then (
    (decide (x2 ≤ a1.c1)))
  else
  false
theorem F_law2_holds_eq (a1 : I2) (x2 : Int) : F_law2_holds a1 x2 = some (G_law2_holds a1 x2) := F_law2_holds_of a1 x2 _ (by
  unfold G_law2_holds
  refine Tot.bif ?_ ?_
  · rfl
  refine Tot.bif ?_ ?_
  · rfl
  refine Tot.bif ?_ ?_
  · rfl
  rfl)

/-! armplan/interval.Sub -/
abbrev o_interval_Sub (v : I2) : VtsT outs68 × MtsT mouts68 := (((v.c0, v.c1, ()), ()), ())
abbrev encO_interval_Sub (v : I2) : R := (encR outs68 (o_interval_Sub v).1, encMts mouts68 (o_interval_Sub v).2)
theorem injO_interval_Sub : ∀ a b, encO_interval_Sub a = encO_interval_Sub b → a = b := by
  rintro ⟨a0, a1⟩ ⟨b0, b1⟩ h
  have h1 := encR_inj (Prod.mk.inj h).1
  have h2 := encMts_inj (Prod.mk.inj h).2
  simp [o_interval_Sub] at h1 h2
  simp [h1, h2]
noncomputable abbrev X_interval_Sub (a1 : I2) (b2 : I2) (n : Nat) : Option R := (lvl Try.prog HH n).2 68 [.s (.agg true [.v (.int .i64 a1.c0), .v (.int .i64 a1.c1)]), .s (.agg true [.v (.int .i64 b2.c0), .v (.int .i64 b2.c1)])] []
noncomputable def F_interval_Sub (a1 : I2) (b2 : I2) : Option I2 := den encO_interval_Sub (X_interval_Sub a1 b2)
theorem lim_interval_Sub (k : Nat) (a1 : I2) (b2 : I2) : Lim (fun v => (encR outs68 (o_interval_Sub v).1, encMts mouts68 (o_interval_Sub v).2)) (fun n => (lvl Try.prog HH (n + k)).2 68 [.s (.agg true [.v (.int .i64 a1.c0), .v (.int .i64 a1.c1)]), .s (.agg true [.v (.int .i64 b2.c0), .v (.int .i64 b2.c1)])] []) (F_interval_Sub a1 b2) := Lim.den (x := (X_interval_Sub a1 b2)) k
theorem F_interval_Sub_of (a1 : I2) (b2 : I2) : ∀ r, ((
    (F_interval_both a1 b2).bind fun y3 =>
    bif !y3 then (
      some ((I2.mk 0 0)))
    else
    letIn (IntKind.wrap .i64 (a1.c0 - b2.c1) : Int) fun n4 =>
    letIn (IntKind.wrap .i64 (a1.c1 - b2.c0) : Int) fun n5 =>
    (F_interval_limit n4 n5).bind fun y6 =>
    some y6) : Option I2) = some r →
    F_interval_Sub a1 b2 = some r := fun r h =>
  den_of (x := (X_interval_Sub a1 b2)) injO_interval_Sub 1 (Lim.cong (fun n => fn68 n a1.c0 a1.c1 b2.c0 b2.c1) (by
      refine Lim.call o_interval_both (lim_interval_both 0 a1 b2) rfl rfl fun y3 => ?_
      refine Lim.bif rfl ?_ ?_
      · exact Lim.leaf rfl
      refine Lim.letIn rfl fun n4 => ?_
      refine Lim.letIn rfl fun n5 => ?_
      refine Lim.call o_interval_limit (lim_interval_limit 0 n4 n5) rfl rfl fun y6 => ?_
      exact Lim.leaf rfl
    )) h
def G_interval_Sub (a1 : I2) (b2 : I2) : I2 :=
  letIn (G_interval_both a1 b2) fun y3 =>
  bif !y3 then (
    ((I2.mk 0 0)))
  else
  letIn (IntKind.wrap .i64 (a1.c0 - b2.c1) : Int) fun n4 =>
  letIn (IntKind.wrap .i64 (a1.c1 - b2.c0) : Int) fun n5 =>
  letIn (G_interval_limit n4 n5) fun y6 =>
  y6
theorem F_interval_Sub_eq (a1 : I2) (b2 : I2) : F_interval_Sub a1 b2 = some (G_interval_Sub a1 b2) := F_interval_Sub_of a1 b2 _ (by
  unfold G_interval_Sub
  refine Tot.bind (F_interval_both_eq a1 b2) fun y3 => ?_
  refine Tot.bif ?_ ?_
  · rfl
  refine Tot.letIn fun n4 => ?_
  refine Tot.letIn fun n5 => ?_
  refine Tot.bind (F_interval_limit_eq n4 n5) fun y6 => ?_
  rfl)

/-! armplan/armplanref1.Floor -/
abbrev o_ref1_Floor (v : Int) : VtsT outs116 × MtsT mouts116 := ((v, ()), ())
abbrev encO_ref1_Floor (v : Int) : R := (encR outs116 (o_ref1_Floor v).1, encMts mouts116 (o_ref1_Floor v).2)
theorem injO_ref1_Floor : ∀ a b, encO_ref1_Floor a = encO_ref1_Floor b → a = b := by
  rintro a0 b0 h
  have h1 := encR_inj (Prod.mk.inj h).1
  have h2 := encMts_inj (Prod.mk.inj h).2
  simp [o_ref1_Floor] at h1 h2
  simp [h1, h2]
noncomputable abbrev X_ref1_Floor (a1 : Int) (b2 : Int) (n : Nat) : Option R := (lvl Try.prog HH n).2 116 [.s (.one (.v (.int .i64 a1))), .s (.one (.v (.int .i64 b2)))] []
noncomputable def F_ref1_Floor (a1 : Int) (b2 : Int) : Option Int := den encO_ref1_Floor (X_ref1_Floor a1 b2)
theorem lim_ref1_Floor (k : Nat) (a1 : Int) (b2 : Int) : Lim (fun v => (encR outs116 (o_ref1_Floor v).1, encMts mouts116 (o_ref1_Floor v).2)) (fun n => (lvl Try.prog HH (n + k)).2 116 [.s (.one (.v (.int .i64 a1))), .s (.one (.v (.int .i64 b2)))] []) (F_ref1_Floor a1 b2) := Lim.den (x := (X_ref1_Floor a1 b2)) k
theorem F_ref1_Floor_of (a1 : Int) (b2 : Int) : ∀ r, ((
    bif b2 == 0 then (
      none)
    else
    letIn (IntKind.wrap .i64 (Int.tdiv a1 b2) : Int) fun n3 =>
    bif b2 == 0 then (
      none)
    else
    letIn (Int.tmod a1 b2 : Int) fun n4 =>
    bif decide (n4 < 0) then (
      letIn (IntKind.wrap .i64 (n3 - 1) : Int) fun n5 =>
      some n5)
    else
    some n3) : Option Int) = some r →
    F_ref1_Floor a1 b2 = some r := fun r h =>
  den_of (x := (X_ref1_Floor a1 b2)) injO_ref1_Floor 1 (Lim.cong (fun n => fn116 n a1 b2) (by
      refine Lim.bif rfl Lim.none_ ?_
      refine Lim.letIn rfl fun n3 => ?_
      refine Lim.bif rfl Lim.none_ ?_
      refine Lim.letIn rfl fun n4 => ?_
      refine Lim.bif rfl ?_ ?_
      · refine Lim.letIn rfl fun n5 => ?_
        exact Lim.leaf rfl
      exact Lim.leaf rfl
    )) h

/-! armplan/armplanref1.MulDown -/
abbrev o_ref1_MulDown (v : Int) : VtsT outs70 × MtsT mouts70 := ((v, ()), ())
abbrev encO_ref1_MulDown (v : Int) : R := (encR outs70 (o_ref1_MulDown v).1, encMts mouts70 (o_ref1_MulDown v).2)
theorem injO_ref1_MulDown : ∀ a b, encO_ref1_MulDown a = encO_ref1_MulDown b → a = b := by
  rintro a0 b0 h
  have h1 := encR_inj (Prod.mk.inj h).1
  have h2 := encMts_inj (Prod.mk.inj h).2
  simp [o_ref1_MulDown] at h1 h2
  simp [h1, h2]
noncomputable abbrev X_ref1_MulDown (a1 : Int) (b2 : Int) (n : Nat) : Option R := (lvl Try.prog HH n).2 70 [.s (.one (.v (.int .i64 a1))), .s (.one (.v (.int .i64 b2)))] []
noncomputable def F_ref1_MulDown (a1 : Int) (b2 : Int) : Option Int := den encO_ref1_MulDown (X_ref1_MulDown a1 b2)
theorem lim_ref1_MulDown (k : Nat) (a1 : Int) (b2 : Int) : Lim (fun v => (encR outs70 (o_ref1_MulDown v).1, encMts mouts70 (o_ref1_MulDown v).2)) (fun n => (lvl Try.prog HH (n + k)).2 70 [.s (.one (.v (.int .i64 a1))), .s (.one (.v (.int .i64 b2)))] []) (F_ref1_MulDown a1 b2) := Lim.den (x := (X_ref1_MulDown a1 b2)) k
theorem F_ref1_MulDown_of (a1 : Int) (b2 : Int) : ∀ r, ((
    (F_ref1_Clamp a1).bind fun y3 =>
    (F_ref1_Clamp b2).bind fun y4 =>
    letIn (IntKind.wrap .i64 (y3 * y4) : Int) fun n5 =>
    (F_ref1_Floor n5 65536).bind fun y6 =>
    some y6) : Option Int) = some r →
    F_ref1_MulDown a1 b2 = some r := fun r h =>
  den_of (x := (X_ref1_MulDown a1 b2)) injO_ref1_MulDown 1 (Lim.cong (fun n => fn70 n a1 b2) (by
      refine Lim.call o_ref1_Clamp (lim_ref1_Clamp 0 a1) rfl rfl fun y3 => ?_
      refine Lim.call o_ref1_Clamp (lim_ref1_Clamp 0 b2) rfl rfl fun y4 => ?_
      refine Lim.letIn rfl fun n5 => ?_
      refine Lim.call o_ref1_Floor (lim_ref1_Floor 0 n5 65536) rfl rfl fun y6 => ?_
      exact Lim.leaf rfl
    )) h

/-! armplan/armplanref1.Ceil -/
abbrev o_ref1_Ceil (v : Int) : VtsT outs64 × MtsT mouts64 := ((v, ()), ())
abbrev encO_ref1_Ceil (v : Int) : R := (encR outs64 (o_ref1_Ceil v).1, encMts mouts64 (o_ref1_Ceil v).2)
theorem injO_ref1_Ceil : ∀ a b, encO_ref1_Ceil a = encO_ref1_Ceil b → a = b := by
  rintro a0 b0 h
  have h1 := encR_inj (Prod.mk.inj h).1
  have h2 := encMts_inj (Prod.mk.inj h).2
  simp [o_ref1_Ceil] at h1 h2
  simp [h1, h2]
noncomputable abbrev X_ref1_Ceil (a1 : Int) (b2 : Int) (n : Nat) : Option R := (lvl Try.prog HH n).2 64 [.s (.one (.v (.int .i64 a1))), .s (.one (.v (.int .i64 b2)))] []
noncomputable def F_ref1_Ceil (a1 : Int) (b2 : Int) : Option Int := den encO_ref1_Ceil (X_ref1_Ceil a1 b2)
theorem lim_ref1_Ceil (k : Nat) (a1 : Int) (b2 : Int) : Lim (fun v => (encR outs64 (o_ref1_Ceil v).1, encMts mouts64 (o_ref1_Ceil v).2)) (fun n => (lvl Try.prog HH (n + k)).2 64 [.s (.one (.v (.int .i64 a1))), .s (.one (.v (.int .i64 b2)))] []) (F_ref1_Ceil a1 b2) := Lim.den (x := (X_ref1_Ceil a1 b2)) k
theorem F_ref1_Ceil_of (a1 : Int) (b2 : Int) : ∀ r, ((
    bif b2 == 0 then (
      none)
    else
    letIn (IntKind.wrap .i64 (Int.tdiv a1 b2) : Int) fun n3 =>
    bif b2 == 0 then (
      none)
    else
    letIn (Int.tmod a1 b2 : Int) fun n4 =>
    bif decide (n4 > 0) then (
      letIn (IntKind.wrap .i64 (n3 + 1) : Int) fun n5 =>
      some n5)
    else
    some n3) : Option Int) = some r →
    F_ref1_Ceil a1 b2 = some r := fun r h =>
  den_of (x := (X_ref1_Ceil a1 b2)) injO_ref1_Ceil 1 (Lim.cong (fun n => fn64 n a1 b2) (by
      refine Lim.bif rfl Lim.none_ ?_
      refine Lim.letIn rfl fun n3 => ?_
      refine Lim.bif rfl Lim.none_ ?_
      refine Lim.letIn rfl fun n4 => ?_
      refine Lim.bif rfl ?_ ?_
      · refine Lim.letIn rfl fun n5 => ?_
        exact Lim.leaf rfl
      exact Lim.leaf rfl
    )) h

/-! armplan/armplanref1.MulUp -/
abbrev o_ref1_MulUp (v : Int) : VtsT outs71 × MtsT mouts71 := ((v, ()), ())
abbrev encO_ref1_MulUp (v : Int) : R := (encR outs71 (o_ref1_MulUp v).1, encMts mouts71 (o_ref1_MulUp v).2)
theorem injO_ref1_MulUp : ∀ a b, encO_ref1_MulUp a = encO_ref1_MulUp b → a = b := by
  rintro a0 b0 h
  have h1 := encR_inj (Prod.mk.inj h).1
  have h2 := encMts_inj (Prod.mk.inj h).2
  simp [o_ref1_MulUp] at h1 h2
  simp [h1, h2]
noncomputable abbrev X_ref1_MulUp (a1 : Int) (b2 : Int) (n : Nat) : Option R := (lvl Try.prog HH n).2 71 [.s (.one (.v (.int .i64 a1))), .s (.one (.v (.int .i64 b2)))] []
noncomputable def F_ref1_MulUp (a1 : Int) (b2 : Int) : Option Int := den encO_ref1_MulUp (X_ref1_MulUp a1 b2)
theorem lim_ref1_MulUp (k : Nat) (a1 : Int) (b2 : Int) : Lim (fun v => (encR outs71 (o_ref1_MulUp v).1, encMts mouts71 (o_ref1_MulUp v).2)) (fun n => (lvl Try.prog HH (n + k)).2 71 [.s (.one (.v (.int .i64 a1))), .s (.one (.v (.int .i64 b2)))] []) (F_ref1_MulUp a1 b2) := Lim.den (x := (X_ref1_MulUp a1 b2)) k
theorem F_ref1_MulUp_of (a1 : Int) (b2 : Int) : ∀ r, ((
    (F_ref1_Clamp a1).bind fun y3 =>
    (F_ref1_Clamp b2).bind fun y4 =>
    letIn (IntKind.wrap .i64 (y3 * y4) : Int) fun n5 =>
    (F_ref1_Ceil n5 65536).bind fun y6 =>
    some y6) : Option Int) = some r →
    F_ref1_MulUp a1 b2 = some r := fun r h =>
  den_of (x := (X_ref1_MulUp a1 b2)) injO_ref1_MulUp 1 (Lim.cong (fun n => fn71 n a1 b2) (by
      refine Lim.call o_ref1_Clamp (lim_ref1_Clamp 0 a1) rfl rfl fun y3 => ?_
      refine Lim.call o_ref1_Clamp (lim_ref1_Clamp 0 b2) rfl rfl fun y4 => ?_
      refine Lim.letIn rfl fun n5 => ?_
      refine Lim.call o_ref1_Ceil (lim_ref1_Ceil 0 n5 65536) rfl rfl fun y6 => ?_
      exact Lim.leaf rfl
    )) h

/-! armplan/interval.Square -/
abbrev o_interval_Square (v : I2) : VtsT outs72 × MtsT mouts72 := (((v.c0, v.c1, ()), ()), ())
abbrev encO_interval_Square (v : I2) : R := (encR outs72 (o_interval_Square v).1, encMts mouts72 (o_interval_Square v).2)
theorem injO_interval_Square : ∀ a b, encO_interval_Square a = encO_interval_Square b → a = b := by
  rintro ⟨a0, a1⟩ ⟨b0, b1⟩ h
  have h1 := encR_inj (Prod.mk.inj h).1
  have h2 := encMts_inj (Prod.mk.inj h).2
  simp [o_interval_Square] at h1 h2
  simp [h1, h2]
noncomputable abbrev X_interval_Square (a1 : I2) (n : Nat) : Option R := (lvl Try.prog HH n).2 72 [.s (.agg true [.v (.int .i64 a1.c0), .v (.int .i64 a1.c1)])] []
noncomputable def F_interval_Square (a1 : I2) : Option I2 := den encO_interval_Square (X_interval_Square a1)
theorem lim_interval_Square (k : Nat) (a1 : I2) : Lim (fun v => (encR outs72 (o_interval_Square v).1, encMts mouts72 (o_interval_Square v).2)) (fun n => (lvl Try.prog HH (n + k)).2 72 [.s (.agg true [.v (.int .i64 a1.c0), .v (.int .i64 a1.c1)])] []) (F_interval_Square a1) := Lim.den (x := (X_interval_Square a1)) k
theorem F_interval_Square_of (a1 : I2) : ∀ r, ((
    (F_interval_Valid a1).bind fun y2 =>
    bif !y2 then (
      some ((I2.mk 0 0)))
    else
    letIn (IntKind.wrap .i64 (a1.c0 * a1.c0) : Int) fun n3 =>
    letIn (IntKind.wrap .i64 (a1.c1 * a1.c1) : Int) fun n4 =>
    bif decide (a1.c0 ≤ 0) then (
      bif decide (a1.c1 ≥ 0) then (
        letIn (if n4 > n3 then n4 else n3 : Int) fun n5 =>
        (F_interval_outward 0 n5).bind fun y6 =>
        some y6)
      else
      letIn (if n4 < n3 then n4 else n3 : Int) fun n7 =>
      letIn (if n4 > n3 then n4 else n3 : Int) fun n8 =>
      (F_interval_outward n7 n8).bind fun y9 =>
      some y9)
    else
    letIn (if n4 < n3 then n4 else n3 : Int) fun n10 =>
    letIn (if n4 > n3 then n4 else n3 : Int) fun n11 =>
    (F_interval_outward n10 n11).bind fun y12 =>
    some y12) : Option I2) = some r →
    F_interval_Square a1 = some r := fun r h =>
  den_of (x := (X_interval_Square a1)) injO_interval_Square 1 (Lim.cong (fun n => fn72 n a1.c0 a1.c1) (by
      refine Lim.call o_interval_Valid (lim_interval_Valid 0 a1) rfl rfl fun y2 => ?_
      refine Lim.bif rfl ?_ ?_
      · exact Lim.leaf rfl
      refine Lim.letIn rfl fun n3 => ?_
      refine Lim.letIn rfl fun n4 => ?_
      refine Lim.bif rfl ?_ ?_
      · refine Lim.bif rfl ?_ ?_
        · refine Lim.letIn rfl fun n5 => ?_
          refine Lim.call o_interval_outward (lim_interval_outward 0 0 n5) rfl rfl fun y6 => ?_
          exact Lim.leaf rfl
        refine Lim.letIn rfl fun n7 => ?_
        refine Lim.letIn rfl fun n8 => ?_
        refine Lim.call o_interval_outward (lim_interval_outward 0 n7 n8) rfl rfl fun y9 => ?_
        exact Lim.leaf rfl
      refine Lim.letIn rfl fun n10 => ?_
      refine Lim.letIn rfl fun n11 => ?_
      refine Lim.call o_interval_outward (lim_interval_outward 0 n10 n11) rfl rfl fun y12 => ?_
      exact Lim.leaf rfl
    )) h

/-! armplan/interval.Neg -/
abbrev o_interval_Neg (v : I2) : VtsT outs73 × MtsT mouts73 := (((v.c0, v.c1, ()), ()), ())
abbrev encO_interval_Neg (v : I2) : R := (encR outs73 (o_interval_Neg v).1, encMts mouts73 (o_interval_Neg v).2)
theorem injO_interval_Neg : ∀ a b, encO_interval_Neg a = encO_interval_Neg b → a = b := by
  rintro ⟨a0, a1⟩ ⟨b0, b1⟩ h
  have h1 := encR_inj (Prod.mk.inj h).1
  have h2 := encMts_inj (Prod.mk.inj h).2
  simp [o_interval_Neg] at h1 h2
  simp [h1, h2]
noncomputable abbrev X_interval_Neg (a1 : I2) (n : Nat) : Option R := (lvl Try.prog HH n).2 73 [.s (.agg true [.v (.int .i64 a1.c0), .v (.int .i64 a1.c1)])] []
noncomputable def F_interval_Neg (a1 : I2) : Option I2 := den encO_interval_Neg (X_interval_Neg a1)
theorem lim_interval_Neg (k : Nat) (a1 : I2) : Lim (fun v => (encR outs73 (o_interval_Neg v).1, encMts mouts73 (o_interval_Neg v).2)) (fun n => (lvl Try.prog HH (n + k)).2 73 [.s (.agg true [.v (.int .i64 a1.c0), .v (.int .i64 a1.c1)])] []) (F_interval_Neg a1) := Lim.den (x := (X_interval_Neg a1)) k
theorem F_interval_Neg_of (a1 : I2) : ∀ r, ((
    (F_interval_Valid a1).bind fun y2 =>
    bif !y2 then (
      some ((I2.mk 0 0)))
    else
    letIn (IntKind.wrap .i64 (0 - a1.c1) : Int) fun n3 =>
    letIn (IntKind.wrap .i64 (0 - a1.c0) : Int) fun n4 =>
    some ((I2.mk n3 n4))) : Option I2) = some r →
    F_interval_Neg a1 = some r := fun r h =>
  den_of (x := (X_interval_Neg a1)) injO_interval_Neg 1 (Lim.cong (fun n => fn73 n a1.c0 a1.c1) (by
      refine Lim.call o_interval_Valid (lim_interval_Valid 0 a1) rfl rfl fun y2 => ?_
      refine Lim.bif rfl ?_ ?_
      · exact Lim.leaf rfl
      refine Lim.letIn rfl fun n3 => ?_
      refine Lim.letIn rfl fun n4 => ?_
      exact Lim.leaf rfl
    )) h
def G_interval_Neg (a1 : I2) : I2 :=
  letIn (G_interval_Valid a1) fun y2 =>
  bif !y2 then (
    ((I2.mk 0 0)))
  else
  letIn (IntKind.wrap .i64 (0 - a1.c1) : Int) fun n3 =>
  letIn (IntKind.wrap .i64 (0 - a1.c0) : Int) fun n4 =>
  ((I2.mk n3 n4))
theorem F_interval_Neg_eq (a1 : I2) : F_interval_Neg a1 = some (G_interval_Neg a1) := F_interval_Neg_of a1 _ (by
  unfold G_interval_Neg
  refine Tot.bind (F_interval_Valid_eq a1) fun y2 => ?_
  refine Tot.bif ?_ ?_
  · rfl
  refine Tot.letIn fun n3 => ?_
  refine Tot.letIn fun n4 => ?_
  rfl)

/-! armplan/armplanlaw2.IntervalEncloses -/
abbrev o_law2_IntervalEncloses (v : Bool) : VtsT outs17 × MtsT mouts17 := ((v, ()), ())
abbrev encO_law2_IntervalEncloses (v : Bool) : R := (encR outs17 (o_law2_IntervalEncloses v).1, encMts mouts17 (o_law2_IntervalEncloses v).2)
theorem injO_law2_IntervalEncloses : ∀ a b, encO_law2_IntervalEncloses a = encO_law2_IntervalEncloses b → a = b := by
  rintro a0 b0 h
  have h1 := encR_inj (Prod.mk.inj h).1
  have h2 := encMts_inj (Prod.mk.inj h).2
  simp [o_law2_IntervalEncloses] at h1 h2
  simp [h1, h2]
noncomputable abbrev X_law2_IntervalEncloses (k1 : Int) (l2 : Int) (m3 : Int) (n4 : Int) (i5 : Int) (j6 : Int) (n : Nat) : Option R := (lvl Try.prog HH n).2 17 [.s (.one (.v (.int .i64 k1))), .s (.one (.v (.int .i64 l2))), .s (.one (.v (.int .i64 m3))), .s (.one (.v (.int .i64 n4))), .s (.one (.v (.int .i64 i5))), .s (.one (.v (.int .i64 j6)))] []
noncomputable def F_law2_IntervalEncloses (k1 : Int) (l2 : Int) (m3 : Int) (n4 : Int) (i5 : Int) (j6 : Int) : Option Bool := den encO_law2_IntervalEncloses (X_law2_IntervalEncloses k1 l2 m3 n4 i5 j6)
theorem lim_law2_IntervalEncloses (k : Nat) (k1 : Int) (l2 : Int) (m3 : Int) (n4 : Int) (i5 : Int) (j6 : Int) : Lim (fun v => (encR outs17 (o_law2_IntervalEncloses v).1, encMts mouts17 (o_law2_IntervalEncloses v).2)) (fun n => (lvl Try.prog HH (n + k)).2 17 [.s (.one (.v (.int .i64 k1))), .s (.one (.v (.int .i64 l2))), .s (.one (.v (.int .i64 m3))), .s (.one (.v (.int .i64 n4))), .s (.one (.v (.int .i64 i5))), .s (.one (.v (.int .i64 j6)))] []) (F_law2_IntervalEncloses k1 l2 m3 n4 i5 j6) := Lim.den (x := (X_law2_IntervalEncloses k1 l2 m3 n4 i5 j6)) k
theorem F_law2_IntervalEncloses_of (k1 : Int) (l2 : Int) (m3 : Int) (n4 : Int) (i5 : Int) (j6 : Int) : ∀ r, ((
    (F_make_Interval k1 l2).bind fun y7 =>
    (F_make_Interval m3 n4).bind fun y8 =>
    (F_make_Part y7 i5 0).bind fun y9 =>
    (F_make_Part y8 j6 0).bind fun y10 =>
    (F_law2_awake).bind fun y11 =>
    bif y11 then (
      (F_interval_Add y7 y8).bind fun y12 =>
      letIn (IntKind.wrap .i64 (y9.c0 + y10.c0) : Int) fun n13 =>
      (F_law2_holds y12 n13).bind fun y14 =>
      bif y14 then (
        (F_interval_Sub y7 y8).bind fun y15 =>
        letIn (IntKind.wrap .i64 (y9.c0 - y10.c0) : Int) fun n16 =>
        (F_law2_holds y15 n16).bind fun y17 =>
        bif y17 then (
          (F_interval_Mul y7 y8).bind fun y18 =>
          (F_ref1_MulDown y9.c0 y10.c0).bind fun y19 =>
          (F_law2_holds y18 y19).bind fun y20 =>
          bif y20 then (
            (F_interval_Mul y7 y8).bind fun y21 =>
            (F_ref1_MulUp y9.c0 y10.c0).bind fun y22 =>
            (F_law2_holds y21 y22).bind fun y23 =>
            bif y23 then (
              (F_interval_Square y7).bind fun y24 =>
              (F_ref1_MulDown y9.c0 y9.c0).bind fun y25 =>
              (F_law2_holds y24 y25).bind fun y26 =>
              bif y26 then (
                (F_interval_Neg y7).bind fun y27 =>
                letIn (IntKind.wrap .i64 (0 - y9.c0) : Int) fun n28 =>
                (F_law2_holds y27 n28).bind fun y29 =>
                some y29)
              else
              some false)
            else
            some false)
          else
          some false)
        else
        some false)
      else
      some false)
    else
    some false) : Option Bool) = some r →
    F_law2_IntervalEncloses k1 l2 m3 n4 i5 j6 = some r := fun r h =>
  den_of (x := (X_law2_IntervalEncloses k1 l2 m3 n4 i5 j6)) injO_law2_IntervalEncloses 1 (Lim.cong (fun n => fn17 n k1 l2 m3 n4 i5 j6) (by
      refine Lim.call o_make_Interval (lim_make_Interval 0 k1 l2) rfl rfl fun y7 => ?_
      refine Lim.call o_make_Interval (lim_make_Interval 0 m3 n4) rfl rfl fun y8 => ?_
      refine Lim.call o_make_Part (lim_make_Part 0 y7 i5 0) rfl rfl fun y9 => ?_
      refine Lim.call o_make_Part (lim_make_Part 0 y8 j6 0) rfl rfl fun y10 => ?_
      refine Lim.call o_law2_awake (lim_law2_awake 0 ) rfl rfl fun y11 => ?_
      refine Lim.bif rfl ?_ ?_
      · refine Lim.call o_interval_Add (lim_interval_Add 0 y7 y8) rfl rfl fun y12 => ?_
        refine Lim.letIn rfl fun n13 => ?_
        refine Lim.call o_law2_holds (lim_law2_holds 0 y12 n13) rfl rfl fun y14 => ?_
        refine Lim.bif rfl ?_ ?_
        · refine Lim.call o_interval_Sub (lim_interval_Sub 0 y7 y8) rfl rfl fun y15 => ?_
          refine Lim.letIn rfl fun n16 => ?_
          refine Lim.call o_law2_holds (lim_law2_holds 0 y15 n16) rfl rfl fun y17 => ?_
          refine Lim.bif rfl ?_ ?_
          · refine Lim.call o_interval_Mul (lim_interval_Mul 0 y7 y8) rfl rfl fun y18 => ?_
            refine Lim.call o_ref1_MulDown (lim_ref1_MulDown 0 y9.c0 y10.c0) rfl rfl fun y19 => ?_
            refine Lim.call o_law2_holds (lim_law2_holds 0 y18 y19) rfl rfl fun y20 => ?_
            refine Lim.bif rfl ?_ ?_
            · refine Lim.call o_interval_Mul (lim_interval_Mul 0 y7 y8) rfl rfl fun y21 => ?_
              refine Lim.call o_ref1_MulUp (lim_ref1_MulUp 0 y9.c0 y10.c0) rfl rfl fun y22 => ?_
              refine Lim.call o_law2_holds (lim_law2_holds 0 y21 y22) rfl rfl fun y23 => ?_
              refine Lim.bif rfl ?_ ?_
              · refine Lim.call o_interval_Square (lim_interval_Square 0 y7) rfl rfl fun y24 => ?_
                refine Lim.call o_ref1_MulDown (lim_ref1_MulDown 0 y9.c0 y9.c0) rfl rfl fun y25 => ?_
                refine Lim.call o_law2_holds (lim_law2_holds 0 y24 y25) rfl rfl fun y26 => ?_
                refine Lim.bif rfl ?_ ?_
                · refine Lim.call o_interval_Neg (lim_interval_Neg 0 y7) rfl rfl fun y27 => ?_
                  refine Lim.letIn rfl fun n28 => ?_
                  refine Lim.call o_law2_holds (lim_law2_holds 0 y27 n28) rfl rfl fun y29 => ?_
                  exact Lim.leaf rfl
                exact Lim.leaf rfl
              exact Lim.leaf rfl
            exact Lim.leaf rfl
          exact Lim.leaf rfl
        exact Lim.leaf rfl
      exact Lim.leaf rfl
    )) h
end Go.Proofs.Ytfpdjpleplhcgaa.Am
