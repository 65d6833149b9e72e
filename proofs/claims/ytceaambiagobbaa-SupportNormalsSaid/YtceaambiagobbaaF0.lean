/- PRINTED: the functions without levels. -/
import Derived.Test.YtceaambiagobbaaE0
import Derived.Test.YtceaambiagobbaaE1
import Derived.Test.YtceaambiagobbaaE2
import Derived.Test.YtceaambiagobbaaE3
import Derived.Test.YtceaambiagobbaaV
set_option linter.unusedVariables false
set_option linter.unusedSimpArgs false
set_option maxRecDepth 100000
namespace Go.Proofs.Ytceaambiagobbaa.Am
open Go Go.Proofs
/-! armplan/armplanmake.Round -/
abbrev o_make_Round (v : Int) : VtsT outs14 × MtsT mouts14 := ((v, ()), ())
abbrev encO_make_Round (v : Int) : R := (encR outs14 (o_make_Round v).1, encMts mouts14 (o_make_Round v).2)
theorem injO_make_Round : ∀ a b, encO_make_Round a = encO_make_Round b → a = b := by
  rintro a0 b0 h
  have h1 := encR_inj (Prod.mk.inj h).1
  have h2 := encMts_inj (Prod.mk.inj h).2
  simp [o_make_Round] at h1 h2
  simp [h1, h2]
noncomputable abbrev X_make_Round (n1 : Int) (k2 : Int) (n : Nat) : Option R := (lvl Try.prog HH n).2 14 [.s (.one (.v (.int .i64 n1))), .s (.one (.v (.int .i64 k2)))] []
noncomputable def F_make_Round (n1 : Int) (k2 : Int) : Option Int := den encO_make_Round (X_make_Round n1 k2)
theorem lim_make_Round (k : Nat) (n1 : Int) (k2 : Int) : Lim (fun v => (encR outs14 (o_make_Round v).1, encMts mouts14 (o_make_Round v).2)) (fun n => (lvl Try.prog HH (n + k)).2 14 [.s (.one (.v (.int .i64 n1))), .s (.one (.v (.int .i64 k2)))] []) (F_make_Round n1 k2) := Lim.den (x := (X_make_Round n1 k2)) k
theorem F_make_Round_of (n1 : Int) (k2 : Int) : ∀ r, ((
    bif k2 == 0 then (
      none)
    else
    letIn (Int.tmod n1 k2 : Int) fun n3 =>
    bif decide (n3 < 0) then (
      letIn (IntKind.wrap .i64 (n3 + k2) : Int) fun n4 =>
      some n4)
    else
    some n3) : Option Int) = some r →
    F_make_Round n1 k2 = some r := fun r h =>
  den_of (x := (X_make_Round n1 k2)) injO_make_Round 1 (Lim.cong (fun n => fn14 n n1 k2) (by
      refine Lim.bif rfl Lim.none_ ?_
      refine Lim.letIn rfl fun n3 => ?_
      refine Lim.bif rfl ?_ ?_
      · refine Lim.letIn rfl fun n4 => ?_
        exact Lim.leaf rfl
      exact Lim.leaf rfl
    )) h

/-! armplan/armplanref6.Near -/
abbrev E_ref6_Near_0 : Type := (Bool) ⊕ (Unit)
def enc_L_ref6_Near_0 : E_ref6_Near_0 → Ex × St
  | .inl e => (.ret, encSt S28_0_r ((e, ()), ()))
  | .inr e => (.exit 0, encSt S28_0_e0 ((), ()))
theorem inj_L_ref6_Near_0 : ∀ a b, enc_L_ref6_Near_0 a = enc_L_ref6_Near_0 b → a = b := by
  rintro (a0 | _) (b0 | _) h <;> (first | (cases h; done) | (have h2 := encSt_inj rfl (Prod.mk.inj h).2; simp [] at h2; simp [h2]) | (have h2 := (Prod.mk.inj h).1; simp at h2) | rfl)
abbrev o_ref6_Near (v : Bool) : VtsT outs28 × MtsT mouts28 := ((v, ()), ())
abbrev encO_ref6_Near (v : Bool) : R := (encR outs28 (o_ref6_Near v).1, encMts mouts28 (o_ref6_Near v).2)
theorem injO_ref6_Near : ∀ a b, encO_ref6_Near a = encO_ref6_Near b → a = b := by
  rintro a0 b0 h
  have h1 := encR_inj (Prod.mk.inj h).1
  have h2 := encMts_inj (Prod.mk.inj h).2
  simp [o_ref6_Near] at h1 h2
  simp [h1, h2]
noncomputable abbrev X_ref6_Near (v1 : I3) (most2 : Int) (n : Nat) : Option R := (lvl Try.prog HH n).2 28 [.s (.agg true [.v (.int .i64 v1.c0), .v (.int .i64 v1.c1), .v (.int .i64 v1.c2)]), .s (.one (.v (.int .i64 most2)))] []
noncomputable def F_ref6_Near (v1 : I3) (most2 : Int) : Option Bool := den encO_ref6_Near (X_ref6_Near v1 most2)
theorem lim_ref6_Near (k : Nat) (v1 : I3) (most2 : Int) : Lim (fun v => (encR outs28 (o_ref6_Near v).1, encMts mouts28 (o_ref6_Near v).2)) (fun n => (lvl Try.prog HH (n + k)).2 28 [.s (.agg true [.v (.int .i64 v1.c0), .v (.int .i64 v1.c1), .v (.int .i64 v1.c2)]), .s (.one (.v (.int .i64 most2)))] []) (F_ref6_Near v1 most2) := Lim.den (x := (X_ref6_Near v1 most2)) k
theorem F_ref6_Near_of (v1 : I3) (most2 : Int) : ∀ r, ((
    Option.bind (α := E_ref6_Near_0) (
      letIn (IntKind.wrap .i64 (0 - most2) : Int) fun n3 =>
      bif decide (v1.c0 < n3) then (
        some (.inl false))
      else
      bif decide (v1.c0 > most2) then (
        some (.inl false))
      else
      letIn (IntKind.wrap .i64 (0 - most2) : Int) fun n4 =>
      bif decide (v1.c1 < n4) then (
        some (.inl false))
      else
      bif decide (v1.c1 > most2) then (
        some (.inl false))
      else
      letIn (IntKind.wrap .i64 (0 - most2) : Int) fun n5 =>
      bif decide (v1.c2 < n5) then (
        some (.inl false))
      else
      bif decide (v1.c2 > most2) then (
        some (.inl false))
      else
      some (.inr (()))) fun p6 =>
    match p6 with
    | .inl e7 => (
      some e7)
    | .inr e8 => (
      some true)) : Option Bool) = some r →
    F_ref6_Near v1 most2 = some r := fun r h =>
  den_of (x := (X_ref6_Near v1 most2)) injO_ref6_Near 5 (Lim.cong (fun n => fn28 n v1.c0 v1.c1 v1.c2 most2) (by
      refine Lim.bind (e := enc_L_ref6_Near_0) ?_ fun p6 => ?_
      · refine Lim.letIn rfl fun n3 => ?_
        refine Lim.bif rfl ?_ ?_
        · exact Lim.leaf rfl
        refine Lim.bif rfl ?_ ?_
        · exact Lim.leaf rfl
        refine Lim.letIn rfl fun n4 => ?_
        refine Lim.bif rfl ?_ ?_
        · exact Lim.leaf rfl
        refine Lim.bif rfl ?_ ?_
        · exact Lim.leaf rfl
        refine Lim.letIn rfl fun n5 => ?_
        refine Lim.bif rfl ?_ ?_
        · exact Lim.leaf rfl
        refine Lim.bif rfl ?_ ?_
        · exact Lim.leaf rfl
        exact Lim.leaf rfl
      rcases p6 with e7 | e8
      · refine Lim.exit (.ret) S28_0_r ((e7, ()), ()) rfl rfl rfl ?_
        exact Lim.leaf rfl
      · refine Lim.bifF rfl ?_
        refine Lim.exit (.exit 0) S28_0_e0 ((), ()) rfl rfl rfl ?_
        exact Lim.leaf rfl
    )) h
def G_ref6_Near (v1 : I3) (most2 : Int) : Bool :=
  letIn (α := E_ref6_Near_0) (
    letIn (IntKind.wrap .i64 (0 - most2) : Int) fun n3 =>
    bif decide (v1.c0 < n3) then (
      (.inl false))
    else
    bif decide (v1.c0 > most2) then (
      (.inl false))
    else
    letIn (IntKind.wrap .i64 (0 - most2) : Int) fun n4 =>
    bif decide (v1.c1 < n4) then (
      (.inl false))
    else
    bif decide (v1.c1 > most2) then (
      (.inl false))
    else
    letIn (IntKind.wrap .i64 (0 - most2) : Int) fun n5 =>
    bif decide (v1.c2 < n5) then (
      (.inl false))
    else
    bif decide (v1.c2 > most2) then (
      (.inl false))
    else
    (.inr (()))) fun p6 =>
  match p6 with
  | .inl e7 => (
    e7)
  | .inr e8 => (
    true)
theorem F_ref6_Near_eq (v1 : I3) (most2 : Int) : F_ref6_Near v1 most2 = some (G_ref6_Near v1 most2) := F_ref6_Near_of v1 most2 _ (by
  unfold G_ref6_Near
  refine Tot.bind ?_ fun p6 => ?_
  · refine Tot.letIn fun n3 => ?_
    refine Tot.bif ?_ ?_
    · rfl
    refine Tot.bif ?_ ?_
    · rfl
    refine Tot.letIn fun n4 => ?_
    refine Tot.bif ?_ ?_
    · rfl
    refine Tot.bif ?_ ?_
    · rfl
    refine Tot.letIn fun n5 => ?_
    refine Tot.bif ?_ ?_
    · rfl
    refine Tot.bif ?_ ?_
    · rfl
    rfl
  rcases p6 with e7 | e8
  · rfl
  · rfl)

/-! armplan/armplanref10.Usable -/
abbrev o_ref10_Usable (v : Bool) : VtsT outs15 × MtsT mouts15 := ((v, ()), ())
abbrev encO_ref10_Usable (v : Bool) : R := (encR outs15 (o_ref10_Usable v).1, encMts mouts15 (o_ref10_Usable v).2)
theorem injO_ref10_Usable : ∀ a b, encO_ref10_Usable a = encO_ref10_Usable b → a = b := by
  rintro a0 b0 h
  have h1 := encR_inj (Prod.mk.inj h).1
  have h2 := encMts_inj (Prod.mk.inj h).2
  simp [o_ref10_Usable] at h1 h2
  simp [h1, h2]
noncomputable abbrev X_ref10_Usable (n1 : I3) (n : Nat) : Option R := (lvl Try.prog HH n).2 15 [.s (.agg true [.v (.int .i64 n1.c0), .v (.int .i64 n1.c1), .v (.int .i64 n1.c2)])] []
noncomputable def F_ref10_Usable (n1 : I3) : Option Bool := den encO_ref10_Usable (X_ref10_Usable n1)
theorem lim_ref10_Usable (k : Nat) (n1 : I3) : Lim (fun v => (encR outs15 (o_ref10_Usable v).1, encMts mouts15 (o_ref10_Usable v).2)) (fun n => (lvl Try.prog HH (n + k)).2 15 [.s (.agg true [.v (.int .i64 n1.c0), .v (.int .i64 n1.c1), .v (.int .i64 n1.c2)])] []) (F_ref10_Usable n1) := Lim.den (x := (X_ref10_Usable n1)) k
theorem F_ref10_Usable_of (n1 : I3) : ∀ r, ((
    letIn (!((n1.c0 == 0) && ((n1.c1 == 0) && ((n1.c2 == 0) && true))) : Bool) fun b2 =>
    bif b2 then (
      (F_ref6_Near n1 16384).bind fun y3 =>
      some y3)
    else
    some false) : Option Bool) = some r →
    F_ref10_Usable n1 = some r := fun r h =>
  den_of (x := (X_ref10_Usable n1)) injO_ref10_Usable 1 (Lim.cong (fun n => fn15 n n1.c0 n1.c1 n1.c2) (by
      refine Lim.letIn rfl fun b2 => ?_
      refine Lim.bif rfl ?_ ?_
      · refine Lim.call o_ref6_Near (lim_ref6_Near 0 n1 16384) rfl rfl fun y3 => ?_
        exact Lim.leaf rfl
      exact Lim.leaf rfl
    )) h
def G_ref10_Usable (n1 : I3) : Bool :=
  letIn (!((n1.c0 == 0) && ((n1.c1 == 0) && ((n1.c2 == 0) && true))) : Bool) fun b2 =>
  bif b2 then (
    letIn (G_ref6_Near n1 16384) fun y3 =>
    y3)
  else
  false
theorem F_ref10_Usable_eq (n1 : I3) : F_ref10_Usable n1 = some (G_ref10_Usable n1) := F_ref10_Usable_of n1 _ (by
  unfold G_ref10_Usable
  refine Tot.letIn fun b2 => ?_
  refine Tot.bif ?_ ?_
  · refine Tot.bind (F_ref6_Near_eq n1 16384) fun y3 => ?_
    rfl
  rfl)

/-! armplan/armplanmake.Normal -/
abbrev o_make_Normal (v : I3) : VtsT outs6 × MtsT mouts6 := (((v.c0, v.c1, v.c2, ()), ()), ())
abbrev encO_make_Normal (v : I3) : R := (encR outs6 (o_make_Normal v).1, encMts mouts6 (o_make_Normal v).2)
theorem injO_make_Normal : ∀ a b, encO_make_Normal a = encO_make_Normal b → a = b := by
  rintro ⟨a0, a1, a2⟩ ⟨b0, b1, b2⟩ h
  have h1 := encR_inj (Prod.mk.inj h).1
  have h2 := encMts_inj (Prod.mk.inj h).2
  simp [o_make_Normal] at h1 h2
  simp [h1, h2]
noncomputable abbrev X_make_Normal (a1 : Int) (b2 : Int) (c3 : Int) (n : Nat) : Option R := (lvl Try.prog HH n).2 6 [.s (.one (.v (.int .i64 a1))), .s (.one (.v (.int .i64 b2))), .s (.one (.v (.int .i64 c3)))] []
noncomputable def F_make_Normal (a1 : Int) (b2 : Int) (c3 : Int) : Option I3 := den encO_make_Normal (X_make_Normal a1 b2 c3)
theorem lim_make_Normal (k : Nat) (a1 : Int) (b2 : Int) (c3 : Int) : Lim (fun v => (encR outs6 (o_make_Normal v).1, encMts mouts6 (o_make_Normal v).2)) (fun n => (lvl Try.prog HH (n + k)).2 6 [.s (.one (.v (.int .i64 a1))), .s (.one (.v (.int .i64 b2))), .s (.one (.v (.int .i64 c3)))] []) (F_make_Normal a1 b2 c3) := Lim.den (x := (X_make_Normal a1 b2 c3)) k
theorem F_make_Normal_of (a1 : Int) (b2 : Int) (c3 : Int) : ∀ r, ((
    (F_make_Round a1 41).bind fun y4 =>
    letIn (IntKind.wrap .i64 (y4 - 20) : Int) fun n5 =>
    (F_make_Round b2 41).bind fun y6 =>
    letIn (IntKind.wrap .i64 (y6 - 20) : Int) fun n7 =>
    (F_make_Round c3 41).bind fun y8 =>
    letIn (IntKind.wrap .i64 (y8 - 20) : Int) fun n9 =>
    letIn (IntKind.wrap .i64 ((BitVec.ofInt 64 a1 &&& BitVec.ofInt 64 8).toNat : Nat) : Int) fun n10 =>
    bif n10 == 8 then (
      (F_make_Round a1 32769).bind fun y11 =>
      letIn (IntKind.wrap .i64 (y11 - 16384) : Int) fun n12 =>
      (F_make_Round b2 32769).bind fun y13 =>
      letIn (IntKind.wrap .i64 (y13 - 16384) : Int) fun n14 =>
      (F_make_Round c3 32769).bind fun y15 =>
      letIn (IntKind.wrap .i64 (y15 - 16384) : Int) fun n16 =>
      (F_ref10_Usable ((I3.mk n12 n14 n16))).bind fun y17 =>
      bif !y17 then (
        some ((I3.mk 1 0 0)))
      else
      some ((I3.mk n12 n14 n16)))
    else
    (F_ref10_Usable ((I3.mk n5 n7 n9))).bind fun y18 =>
    bif !y18 then (
      some ((I3.mk 1 0 0)))
    else
    some ((I3.mk n5 n7 n9))) : Option I3) = some r →
    F_make_Normal a1 b2 c3 = some r := fun r h =>
  den_of (x := (X_make_Normal a1 b2 c3)) injO_make_Normal 1 (Lim.cong (fun n => fn6 n a1 b2 c3) (by
      refine Lim.call o_make_Round (lim_make_Round 0 a1 41) rfl rfl fun y4 => ?_
      refine Lim.letIn rfl fun n5 => ?_
      refine Lim.call o_make_Round (lim_make_Round 0 b2 41) rfl rfl fun y6 => ?_
      refine Lim.letIn rfl fun n7 => ?_
      refine Lim.call o_make_Round (lim_make_Round 0 c3 41) rfl rfl fun y8 => ?_
      refine Lim.letIn rfl fun n9 => ?_
      refine Lim.letIn rfl fun n10 => ?_
      refine Lim.bif rfl ?_ ?_
      · refine Lim.call o_make_Round (lim_make_Round 0 a1 32769) rfl rfl fun y11 => ?_
        refine Lim.letIn rfl fun n12 => ?_
        refine Lim.call o_make_Round (lim_make_Round 0 b2 32769) rfl rfl fun y13 => ?_
        refine Lim.letIn rfl fun n14 => ?_
        refine Lim.call o_make_Round (lim_make_Round 0 c3 32769) rfl rfl fun y15 => ?_
        refine Lim.letIn rfl fun n16 => ?_
        refine Lim.call o_ref10_Usable (lim_ref10_Usable 0 ((I3.mk n12 n14 n16))) rfl rfl fun y17 => ?_
        refine Lim.bif rfl ?_ ?_
        · exact Lim.leaf rfl
        exact Lim.leaf rfl
      refine Lim.call o_ref10_Usable (lim_ref10_Usable 0 ((I3.mk n5 n7 n9))) rfl rfl fun y18 => ?_
      refine Lim.bif rfl ?_ ?_
      · exact Lim.leaf rfl
      exact Lim.leaf rfl
    )) h

/-! armplan/support.fits -/
abbrev E_support_fits_0 : Type := (Bool) ⊕ (Unit)
def enc_L_support_fits_0 : E_support_fits_0 → Ex × St
  | .inl e => (.ret, encSt S19_0_r ((e, ()), ()))
  | .inr e => (.exit 0, encSt S19_0_e0 ((), ()))
theorem inj_L_support_fits_0 : ∀ a b, enc_L_support_fits_0 a = enc_L_support_fits_0 b → a = b := by
  rintro (a0 | _) (b0 | _) h <;> (first | (cases h; done) | (have h2 := encSt_inj rfl (Prod.mk.inj h).2; simp [] at h2; simp [h2]) | (have h2 := (Prod.mk.inj h).1; simp at h2) | rfl)
abbrev o_support_fits (v : Bool) : VtsT outs19 × MtsT mouts19 := ((v, ()), ())
abbrev encO_support_fits (v : Bool) : R := (encR outs19 (o_support_fits v).1, encMts mouts19 (o_support_fits v).2)
theorem injO_support_fits : ∀ a b, encO_support_fits a = encO_support_fits b → a = b := by
  rintro a0 b0 h
  have h1 := encR_inj (Prod.mk.inj h).1
  have h2 := encMts_inj (Prod.mk.inj h).2
  simp [o_support_fits] at h1 h2
  simp [h1, h2]
noncomputable abbrev X_support_fits (v1 : I3) (n : Nat) : Option R := (lvl Try.prog HH n).2 19 [.s (.agg true [.v (.int .i64 v1.c0), .v (.int .i64 v1.c1), .v (.int .i64 v1.c2)])] []
noncomputable def F_support_fits (v1 : I3) : Option Bool := den encO_support_fits (X_support_fits v1)
theorem lim_support_fits (k : Nat) (v1 : I3) : Lim (fun v => (encR outs19 (o_support_fits v).1, encMts mouts19 (o_support_fits v).2)) (fun n => (lvl Try.prog HH (n + k)).2 19 [.s (.agg true [.v (.int .i64 v1.c0), .v (.int .i64 v1.c1), .v (.int .i64 v1.c2)])] []) (F_support_fits v1) := Lim.den (x := (X_support_fits v1)) k
theorem F_support_fits_of (v1 : I3) : ∀ r, ((
    Option.bind (α := E_support_fits_0) (
      bif decide (v1.c0 < (-16384)) then (
        some (.inl false))
      else
      bif decide (v1.c0 > 16384) then (
        some (.inl false))
      else
      bif decide (v1.c1 < (-16384)) then (
        some (.inl false))
      else
      bif decide (v1.c1 > 16384) then (
        some (.inl false))
      else
      bif decide (v1.c2 < (-16384)) then (
        some (.inl false))
      else
      bif decide (v1.c2 > 16384) then (
        some (.inl false))
      else
      some (.inr (()))) fun p2 =>
    match p2 with
    | .inl e3 => (
      some e3)
    | .inr e4 => (
      some true)) : Option Bool) = some r →
    F_support_fits v1 = some r := fun r h =>
  den_of (x := (X_support_fits v1)) injO_support_fits 5 (Lim.cong (fun n => fn19 n v1.c0 v1.c1 v1.c2) (by
      refine Lim.bind (e := enc_L_support_fits_0) ?_ fun p2 => ?_
      · refine Lim.bif rfl ?_ ?_
        · exact Lim.leaf rfl
        refine Lim.bif rfl ?_ ?_
        · exact Lim.leaf rfl
        refine Lim.bif rfl ?_ ?_
        · exact Lim.leaf rfl
        refine Lim.bif rfl ?_ ?_
        · exact Lim.leaf rfl
        refine Lim.bif rfl ?_ ?_
        · exact Lim.leaf rfl
        refine Lim.bif rfl ?_ ?_
        · exact Lim.leaf rfl
        exact Lim.leaf rfl
      rcases p2 with e3 | e4
      · refine Lim.exit (.ret) S19_0_r ((e3, ()), ()) rfl rfl rfl ?_
        exact Lim.leaf rfl
      · refine Lim.bifF rfl ?_
        refine Lim.exit (.exit 0) S19_0_e0 ((), ()) rfl rfl rfl ?_
        exact Lim.leaf rfl
    )) h
def G_support_fits (v1 : I3) : Bool :=
  letIn (α := E_support_fits_0) (
    bif decide (v1.c0 < (-16384)) then (
      (.inl false))
    else
    bif decide (v1.c0 > 16384) then (
      (.inl false))
    else
    bif decide (v1.c1 < (-16384)) then (
      (.inl false))
    else
    bif decide (v1.c1 > 16384) then (
      (.inl false))
    else
    bif decide (v1.c2 < (-16384)) then (
      (.inl false))
    else
    bif decide (v1.c2 > 16384) then (
      (.inl false))
    else
    (.inr (()))) fun p2 =>
  match p2 with
  | .inl e3 => (
    e3)
  | .inr e4 => (
    true)
theorem F_support_fits_eq (v1 : I3) : F_support_fits v1 = some (G_support_fits v1) := F_support_fits_of v1 _ (by
  unfold G_support_fits
  refine Tot.bind ?_ fun p2 => ?_
  · refine Tot.bif ?_ ?_
    · rfl
    refine Tot.bif ?_ ?_
    · rfl
    refine Tot.bif ?_ ?_
    · rfl
    refine Tot.bif ?_ ?_
    · rfl
    refine Tot.bif ?_ ?_
    · rfl
    refine Tot.bif ?_ ?_
    · rfl
    rfl
  rcases p2 with e3 | e4
  · rfl
  · rfl)

/-! armplan/support.Usable -/
abbrev o_support_Usable (v : Bool) : VtsT outs9 × MtsT mouts9 := ((v, ()), ())
abbrev encO_support_Usable (v : Bool) : R := (encR outs9 (o_support_Usable v).1, encMts mouts9 (o_support_Usable v).2)
theorem injO_support_Usable : ∀ a b, encO_support_Usable a = encO_support_Usable b → a = b := by
  rintro a0 b0 h
  have h1 := encR_inj (Prod.mk.inj h).1
  have h2 := encMts_inj (Prod.mk.inj h).2
  simp [o_support_Usable] at h1 h2
  simp [h1, h2]
noncomputable abbrev X_support_Usable (n1 : I3) (n : Nat) : Option R := (lvl Try.prog HH n).2 9 [.s (.agg true [.v (.int .i64 n1.c0), .v (.int .i64 n1.c1), .v (.int .i64 n1.c2)])] []
noncomputable def F_support_Usable (n1 : I3) : Option Bool := den encO_support_Usable (X_support_Usable n1)
theorem lim_support_Usable (k : Nat) (n1 : I3) : Lim (fun v => (encR outs9 (o_support_Usable v).1, encMts mouts9 (o_support_Usable v).2)) (fun n => (lvl Try.prog HH (n + k)).2 9 [.s (.agg true [.v (.int .i64 n1.c0), .v (.int .i64 n1.c1), .v (.int .i64 n1.c2)])] []) (F_support_Usable n1) := Lim.den (x := (X_support_Usable n1)) k
theorem F_support_Usable_of (n1 : I3) : ∀ r, ((
    (F_support_fits n1).bind fun y2 =>
    bif y2 then (
      letIn (!((n1.c0 == 0) && ((n1.c1 == 0) && ((n1.c2 == 0) && true))) : Bool) fun b3 =>
      some b3)
    else
    some false) : Option Bool) = some r →
    F_support_Usable n1 = some r := fun r h =>
  den_of (x := (X_support_Usable n1)) injO_support_Usable 1 (Lim.cong (fun n => fn9 n n1.c0 n1.c1 n1.c2) (by
      refine Lim.call o_support_fits (lim_support_fits 0 n1) rfl rfl fun y2 => ?_
      refine Lim.bif rfl ?_ ?_
      · refine Lim.letIn rfl fun b3 => ?_
        exact Lim.leaf rfl
      exact Lim.leaf rfl
    )) h
def G_support_Usable (n1 : I3) : Bool :=
  letIn (G_support_fits n1) fun y2 =>
  bif y2 then (
    letIn (!((n1.c0 == 0) && ((n1.c1 == 0) && ((n1.c2 == 0) && true))) : Bool) fun b3 =>
    b3)
  else
  false
theorem F_support_Usable_eq (n1 : I3) : F_support_Usable n1 = some (G_support_Usable n1) := F_support_Usable_of n1 _ (by
  unfold G_support_Usable
  refine Tot.bind (F_support_fits_eq n1) fun y2 => ?_
  refine Tot.bif ?_ ?_
  · refine Tot.letIn fun b3 => ?_
    rfl
  rfl)

/-! armplan/shape.reaches -/
abbrev o_shape_reaches (v : Bool) : VtsT outs40 × MtsT mouts40 := ((v, ()), ())
abbrev encO_shape_reaches (v : Bool) : R := (encR outs40 (o_shape_reaches v).1, encMts mouts40 (o_shape_reaches v).2)
theorem injO_shape_reaches : ∀ a b, encO_shape_reaches a = encO_shape_reaches b → a = b := by
  rintro a0 b0 h
  have h1 := encR_inj (Prod.mk.inj h).1
  have h2 := encMts_inj (Prod.mk.inj h).2
  simp [o_shape_reaches] at h1 h2
  simp [h1, h2]
noncomputable abbrev X_shape_reaches (a1 : I2) (n : Nat) : Option R := (lvl Try.prog HH n).2 40 [.s (.agg true [.v (.int .i64 a1.c0), .v (.int .i64 a1.c1)])] []
noncomputable def F_shape_reaches (a1 : I2) : Option Bool := den encO_shape_reaches (X_shape_reaches a1)
theorem lim_shape_reaches (k : Nat) (a1 : I2) : Lim (fun v => (encR outs40 (o_shape_reaches v).1, encMts mouts40 (o_shape_reaches v).2)) (fun n => (lvl Try.prog HH (n + k)).2 40 [.s (.agg true [.v (.int .i64 a1.c0), .v (.int .i64 a1.c1)])] []) (F_shape_reaches a1) := Lim.den (x := (X_shape_reaches a1)) k
theorem F_shape_reaches_of (a1 : I2) : ∀ r, ((
    bif decide (a1.c0 ≥ (-268435456)) then (
      bif decide (a1.c0 ≤ a1.c1) then (
        some (decide (a1.c1 ≤ 268435456)))
      else
      some false)
    else
    some false) : Option Bool) = some r →
    F_shape_reaches a1 = some r := fun r h =>
  den_of (x := (X_shape_reaches a1)) injO_shape_reaches 1 (Lim.cong (fun n => fn40 n a1.c0 a1.c1) (by
      refine Lim.bif rfl ?_ ?_
      · refine Lim.bif rfl ?_ ?_
        · exact Lim.leaf rfl
        exact Lim.leaf rfl
      exact Lim.leaf rfl
    )) h
def G_shape_reaches (a1 : I2) : Bool :=
  bif decide (a1.c0 ≥ (-268435456)) then (
    bif decide (a1.c0 ≤ a1.c1) then (
      (decide (a1.c1 ≤ 268435456)))
    else
    false)
  else
  false
theorem F_shape_reaches_eq (a1 : I2) : F_shape_reaches a1 = some (G_shape_reaches a1) := F_shape_reaches_of a1 _ (by
  unfold G_shape_reaches
  refine Tot.bif ?_ ?_
  · refine Tot.bif ?_ ?_
    · rfl
    rfl
  rfl)

/-! armplan/shape.Placed -/
abbrev E_shape_Placed_0 : Type := (Bool) ⊕ ((List I6))
def enc_L_shape_Placed_0 : E_shape_Placed_0 → Ex × St
  | .inl e => (.ret, encSt S29_0_r ((e, ()), ()))
  | .inr e => (.exit 0, encSt S29_0_e0 (((List.map encI6 e), ()), ()))
theorem inj_L_shape_Placed_0 : ∀ a b, enc_L_shape_Placed_0 a = enc_L_shape_Placed_0 b → a = b := by
  rintro (a0 | a0) (b0 | b0) h <;> (first | (cases h; done) | (have h2 := encSt_inj rfl (Prod.mk.inj h).2; simp [map_inj encI6_inj] at h2; simp [h2]) | (have h2 := (Prod.mk.inj h).1; simp at h2) | rfl)
noncomputable abbrev X_L_shape_Placed_0 (v2 : List I6) (v3 : List I6) (v4 : Int) (v5 : Int) (n : Nat) : Option (Ex × St) := (lvl Try.prog HH n).1 ⟨29, 0, true⟩ 0 (loopOf Try.f29 0) (encSt S29_0 (((List.map encI6 v2), (List.map encI6 v3), v4, v5, ()), ()))
noncomputable def L_shape_Placed_0 (v2 : List I6) (v3 : List I6) (v4 : Int) (v5 : Int) : Option E_shape_Placed_0 := den enc_L_shape_Placed_0 (X_L_shape_Placed_0 v2 v3 v4 v5)
theorem L_shape_Placed_0_of (v2 : List I6) (v3 : List I6) (v4 : Int) (v5 : Int) : ∀ r, ((
    bif decide (v5 < v4) then (
      bif decide (0 ≤ v5) then (
        (nth v3 v5.toNat).bind fun x6 =>
        (F_shape_reaches ((I2.mk x6.c0 x6.c1))).bind fun y7 =>
        bif !y7 then (
          some (.inl false))
        else
        (F_shape_reaches ((I2.mk x6.c2 x6.c3))).bind fun y8 =>
        bif !y8 then (
          some (.inl false))
        else
        (F_shape_reaches ((I2.mk x6.c4 x6.c5))).bind fun y9 =>
        bif !y9 then (
          some (.inl false))
        else
        letIn (IntKind.wrap .i64 (v5 + 1) : Int) fun n10 =>
        L_shape_Placed_0 v2 v3 v4 n10)
      else
      none)
    else
    some (.inr v2)) : Option E_shape_Placed_0) = some r →
    L_shape_Placed_0 v2 v3 v4 v5 = some r := fun r h =>
  den_of (x := (X_L_shape_Placed_0 v2 v3 v4 v5)) inj_L_shape_Placed_0 1 (Lim.cong (fun n => loop29_0 n ((List.map encI6 v2)) ((List.map encI6 v3)) v4 v5) (by
      refine Lim.bif rfl ?_ ?_
      · refine Lim.bif rfl ?_ Lim.none_
        refine Lim.nth encI6 rfl rfl fun x6 => ?_
        refine Lim.bifT rfl ?_
        refine Lim.decC (x6.c0, x6.c1, x6.c2, x6.c3, x6.c4, x6.c5, ()) rfl ?_
        refine Lim.call o_shape_reaches (lim_shape_reaches 0 ((I2.mk x6.c0 x6.c1))) rfl rfl fun y7 => ?_
        refine Lim.bif rfl ?_ ?_
        · exact Lim.leaf rfl
        refine Lim.call o_shape_reaches (lim_shape_reaches 0 ((I2.mk x6.c2 x6.c3))) rfl rfl fun y8 => ?_
        refine Lim.bif rfl ?_ ?_
        · exact Lim.leaf rfl
        refine Lim.call o_shape_reaches (lim_shape_reaches 0 ((I2.mk x6.c4 x6.c5))) rfl rfl fun y9 => ?_
        refine Lim.bif rfl ?_ ?_
        · exact Lim.leaf rfl
        refine Lim.letIn rfl fun n10 => ?_
        exact Lim.loop 0 rfl
      exact Lim.leaf rfl
    )) h
abbrev o_shape_Placed (v : Bool) : VtsT outs29 × MtsT mouts29 := ((v, ()), ())
abbrev encO_shape_Placed (v : Bool) : R := (encR outs29 (o_shape_Placed v).1, encMts mouts29 (o_shape_Placed v).2)
theorem injO_shape_Placed : ∀ a b, encO_shape_Placed a = encO_shape_Placed b → a = b := by
  rintro a0 b0 h
  have h1 := encR_inj (Prod.mk.inj h).1
  have h2 := encMts_inj (Prod.mk.inj h).2
  simp [o_shape_Placed] at h1 h2
  simp [h1, h2]
noncomputable abbrev X_shape_Placed (l1 : List I6) (n : Nat) : Option R := (lvl Try.prog HH n).2 29 [.s (.one (.fr 6 (List.map encI6 l1)))] []
noncomputable def F_shape_Placed (l1 : List I6) : Option Bool := den encO_shape_Placed (X_shape_Placed l1)
theorem lim_shape_Placed (k : Nat) (l1 : List I6) : Lim (fun v => (encR outs29 (o_shape_Placed v).1, encMts mouts29 (o_shape_Placed v).2)) (fun n => (lvl Try.prog HH (n + k)).2 29 [.s (.one (.fr 6 (List.map encI6 l1)))] []) (F_shape_Placed l1) := Lim.den (x := (X_shape_Placed l1)) k
theorem F_shape_Placed_of (l1 : List I6) : ∀ r, ((
    (L_shape_Placed_0 l1 l1 (((l1.length : Nat) : Int)) 0).bind fun p11 =>
    match p11 with
    | .inl e12 => (
      some e12)
    | .inr e13 => (
      bif decide ((((e13.length : Nat) : Int)) ≥ 1) then (
        some (decide ((((e13.length : Nat) : Int)) ≤ 8)))
      else
      some false)) : Option Bool) = some r →
    F_shape_Placed l1 = some r := fun r h =>
  den_of (x := (X_shape_Placed l1)) injO_shape_Placed 1 (Lim.cong (fun n => fn29 n ((List.map encI6 l1))) (by
      refine Lim.bind (show Lim enc_L_shape_Placed_0 _ (L_shape_Placed_0 l1 l1 (((l1.length : Nat) : Int)) 0) from Lim.loop 0 (by first | with_reducible rfl | (simp [map_upd] <;> rfl) | rfl)) fun p11 => ?_
      rcases p11 with e12 | e13
      · refine Lim.exit (.ret) S29_0_r ((e12, ()), ()) rfl rfl rfl ?_
        exact Lim.leaf rfl
      · refine Lim.bifF rfl ?_
        refine Lim.exit (.exit 0) S29_0_e0 (((List.map encI6 e13), ()), ()) rfl rfl rfl ?_
        refine Lim.bif (by first | with_reducible rfl | (simp [map_upd] <;> rfl) | rfl) ?_ ?_
        · exact Lim.leaf (by first | rfl | (simp [o_shape_Placed, map_upd] <;> first | rfl | exact ⟨rfl, rfl⟩))
        exact Lim.leaf rfl
    )) h

/-! armplan/support.dot -/
abbrev E_support_dot_0 : Type := (Int × Int)
def enc_L_support_dot_0 (e : E_support_dot_0) : Ex × St := (.exit 0, encSt S30_0_e0 ((e.1, e.2, ()), ()))
theorem inj_L_support_dot_0 : ∀ a b, enc_L_support_dot_0 a = enc_L_support_dot_0 b → a = b := by
  rintro ⟨a0, a1⟩ ⟨b0, b1⟩ h
  first | (cases h; done) | (have h2 := encSt_inj rfl (Prod.mk.inj h).2; simp [] at h2; simp [h2]) | (have h2 := (Prod.mk.inj h).1; simp at h2) | rfl
abbrev o_support_dot (v : Int × Int) : VtsT outs30 × MtsT mouts30 := ((v.1, v.2, ()), ())
abbrev encO_support_dot (v : Int × Int) : R := (encR outs30 (o_support_dot v).1, encMts mouts30 (o_support_dot v).2)
theorem injO_support_dot : ∀ a b, encO_support_dot a = encO_support_dot b → a = b := by
  rintro ⟨a0, a1⟩ ⟨b0, b1⟩ h
  have h1 := encR_inj (Prod.mk.inj h).1
  have h2 := encMts_inj (Prod.mk.inj h).2
  simp [o_support_dot] at h1 h2
  simp [h1, h2]
noncomputable abbrev X_support_dot (n1 : I3) (v2 : I6) (n : Nat) : Option R := (lvl Try.prog HH n).2 30 [.s (.agg true [.v (.int .i64 n1.c0), .v (.int .i64 n1.c1), .v (.int .i64 n1.c2)]), .s (.agg true [.v (.int .i64 v2.c0), .v (.int .i64 v2.c1), .v (.int .i64 v2.c2), .v (.int .i64 v2.c3), .v (.int .i64 v2.c4), .v (.int .i64 v2.c5)])] []
noncomputable def F_support_dot (n1 : I3) (v2 : I6) : Option (Int × Int) := den encO_support_dot (X_support_dot n1 v2)
theorem lim_support_dot (k : Nat) (n1 : I3) (v2 : I6) : Lim (fun v => (encR outs30 (o_support_dot v).1, encMts mouts30 (o_support_dot v).2)) (fun n => (lvl Try.prog HH (n + k)).2 30 [.s (.agg true [.v (.int .i64 n1.c0), .v (.int .i64 n1.c1), .v (.int .i64 n1.c2)]), .s (.agg true [.v (.int .i64 v2.c0), .v (.int .i64 v2.c1), .v (.int .i64 v2.c2), .v (.int .i64 v2.c3), .v (.int .i64 v2.c4), .v (.int .i64 v2.c5)])] []) (F_support_dot n1 v2) := Lim.den (x := (X_support_dot n1 v2)) k
theorem F_support_dot_of (n1 : I3) (v2 : I6) : ∀ r, ((
    letIn (IntKind.wrap .i64 (n1.c0 * v2.c0) : Int) fun n3 =>
    letIn (IntKind.wrap .i64 (n1.c0 * v2.c1) : Int) fun n4 =>
    letIn (if n4 < n3 then n4 else n3 : Int) fun n5 =>
    letIn (IntKind.wrap .i64 (0 + n5) : Int) fun n6 =>
    letIn (if n4 > n3 then n4 else n3 : Int) fun n7 =>
    letIn (IntKind.wrap .i64 (0 + n7) : Int) fun n8 =>
    letIn (IntKind.wrap .i64 (n1.c1 * v2.c2) : Int) fun n9 =>
    letIn (IntKind.wrap .i64 (n1.c1 * v2.c3) : Int) fun n10 =>
    letIn (if n10 < n9 then n10 else n9 : Int) fun n11 =>
    letIn (IntKind.wrap .i64 (n6 + n11) : Int) fun n12 =>
    letIn (if n10 > n9 then n10 else n9 : Int) fun n13 =>
    letIn (IntKind.wrap .i64 (n8 + n13) : Int) fun n14 =>
    letIn (IntKind.wrap .i64 (n1.c2 * v2.c4) : Int) fun n15 =>
    letIn (IntKind.wrap .i64 (n1.c2 * v2.c5) : Int) fun n16 =>
    letIn (if n16 < n15 then n16 else n15 : Int) fun n17 =>
    letIn (IntKind.wrap .i64 (n12 + n17) : Int) fun n18 =>
    letIn (if n16 > n15 then n16 else n15 : Int) fun n19 =>
    letIn (IntKind.wrap .i64 (n14 + n19) : Int) fun n20 =>
    some (n18, n20)) : Option (Int × Int)) = some r →
    F_support_dot n1 v2 = some r := fun r h =>
  den_of (x := (X_support_dot n1 v2)) injO_support_dot 5 (Lim.cong (fun n => fn30 n n1.c0 n1.c1 n1.c2 v2.c0 v2.c1 v2.c2 v2.c3 v2.c4 v2.c5) (by
      refine Lim.letIn rfl fun n3 => ?_
      refine Lim.letIn rfl fun n4 => ?_
      refine Lim.letIn rfl fun n5 => ?_
      refine Lim.letIn rfl fun n6 => ?_
      refine Lim.letIn rfl fun n7 => ?_
      refine Lim.letIn rfl fun n8 => ?_
      refine Lim.letIn rfl fun n9 => ?_
      refine Lim.letIn rfl fun n10 => ?_
      refine Lim.letIn rfl fun n11 => ?_
      refine Lim.letIn rfl fun n12 => ?_
      refine Lim.letIn rfl fun n13 => ?_
      refine Lim.letIn rfl fun n14 => ?_
      refine Lim.letIn rfl fun n15 => ?_
      refine Lim.letIn rfl fun n16 => ?_
      refine Lim.letIn rfl fun n17 => ?_
      refine Lim.letIn rfl fun n18 => ?_
      refine Lim.letIn rfl fun n19 => ?_
      refine Lim.letIn rfl fun n20 => ?_
      exact Lim.leaf rfl
    )) h
def G_support_dot (n1 : I3) (v2 : I6) : Int × Int :=
  letIn (IntKind.wrap .i64 (n1.c0 * v2.c0) : Int) fun n3 =>
  letIn (IntKind.wrap .i64 (n1.c0 * v2.c1) : Int) fun n4 =>
  letIn (if n4 < n3 then n4 else n3 : Int) fun n5 =>
  letIn (IntKind.wrap .i64 (0 + n5) : Int) fun n6 =>
  letIn (if n4 > n3 then n4 else n3 : Int) fun n7 =>
  letIn (IntKind.wrap .i64 (0 + n7) : Int) fun n8 =>
  letIn (IntKind.wrap .i64 (n1.c1 * v2.c2) : Int) fun n9 =>
  letIn (IntKind.wrap .i64 (n1.c1 * v2.c3) : Int) fun n10 =>
  letIn (if n10 < n9 then n10 else n9 : Int) fun n11 =>
  letIn (IntKind.wrap .i64 (n6 + n11) : Int) fun n12 =>
  letIn (if n10 > n9 then n10 else n9 : Int) fun n13 =>
  letIn (IntKind.wrap .i64 (n8 + n13) : Int) fun n14 =>
  letIn (IntKind.wrap .i64 (n1.c2 * v2.c4) : Int) fun n15 =>
  letIn (IntKind.wrap .i64 (n1.c2 * v2.c5) : Int) fun n16 =>
  letIn (if n16 < n15 then n16 else n15 : Int) fun n17 =>
  letIn (IntKind.wrap .i64 (n12 + n17) : Int) fun n18 =>
  letIn (if n16 > n15 then n16 else n15 : Int) fun n19 =>
  letIn (IntKind.wrap .i64 (n14 + n19) : Int) fun n20 =>
  (n18, n20)
theorem F_support_dot_eq (n1 : I3) (v2 : I6) : F_support_dot n1 v2 = some (G_support_dot n1 v2) := F_support_dot_of n1 v2 _ (by
  unfold G_support_dot
  refine Tot.letIn fun n3 => ?_
  refine Tot.letIn fun n4 => ?_
  refine Tot.letIn fun n5 => ?_
  refine Tot.letIn fun n6 => ?_
  refine Tot.letIn fun n7 => ?_
  refine Tot.letIn fun n8 => ?_
  refine Tot.letIn fun n9 => ?_
  refine Tot.letIn fun n10 => ?_
  refine Tot.letIn fun n11 => ?_
  refine Tot.letIn fun n12 => ?_
  refine Tot.letIn fun n13 => ?_
  refine Tot.letIn fun n14 => ?_
  refine Tot.letIn fun n15 => ?_
  refine Tot.letIn fun n16 => ?_
  refine Tot.letIn fun n17 => ?_
  refine Tot.letIn fun n18 => ?_
  refine Tot.letIn fun n19 => ?_
  refine Tot.letIn fun n20 => ?_
  rfl)

/-! armplan/support.Dot -/
abbrev o_support_Dot (v : Int × Int) : VtsT outs16 × MtsT mouts16 := ((v.1, v.2, ()), ())
abbrev encO_support_Dot (v : Int × Int) : R := (encR outs16 (o_support_Dot v).1, encMts mouts16 (o_support_Dot v).2)
theorem injO_support_Dot : ∀ a b, encO_support_Dot a = encO_support_Dot b → a = b := by
  rintro ⟨a0, a1⟩ ⟨b0, b1⟩ h
  have h1 := encR_inj (Prod.mk.inj h).1
  have h2 := encMts_inj (Prod.mk.inj h).2
  simp [o_support_Dot] at h1 h2
  simp [h1, h2]
noncomputable abbrev X_support_Dot (n1 : I3) (v2 : I6) (n : Nat) : Option R := (lvl Try.prog HH n).2 16 [.s (.agg true [.v (.int .i64 n1.c0), .v (.int .i64 n1.c1), .v (.int .i64 n1.c2)]), .s (.agg true [.v (.int .i64 v2.c0), .v (.int .i64 v2.c1), .v (.int .i64 v2.c2), .v (.int .i64 v2.c3), .v (.int .i64 v2.c4), .v (.int .i64 v2.c5)])] []
noncomputable def F_support_Dot (n1 : I3) (v2 : I6) : Option (Int × Int) := den encO_support_Dot (X_support_Dot n1 v2)
theorem lim_support_Dot (k : Nat) (n1 : I3) (v2 : I6) : Lim (fun v => (encR outs16 (o_support_Dot v).1, encMts mouts16 (o_support_Dot v).2)) (fun n => (lvl Try.prog HH (n + k)).2 16 [.s (.agg true [.v (.int .i64 n1.c0), .v (.int .i64 n1.c1), .v (.int .i64 n1.c2)]), .s (.agg true [.v (.int .i64 v2.c0), .v (.int .i64 v2.c1), .v (.int .i64 v2.c2), .v (.int .i64 v2.c3), .v (.int .i64 v2.c4), .v (.int .i64 v2.c5)])] []) (F_support_Dot n1 v2) := Lim.den (x := (X_support_Dot n1 v2)) k
theorem F_support_Dot_of (n1 : I3) (v2 : I6) : ∀ r, ((
    (F_support_Usable n1).bind fun y3 =>
    bif !y3 then (
      some (0, 0))
    else
    (F_shape_Placed [v2]).bind fun y4 =>
    bif !y4 then (
      some (0, 0))
    else
    (F_support_dot n1 v2).bind fun y5 =>
    some (y5.1, y5.2)) : Option (Int × Int)) = some r →
    F_support_Dot n1 v2 = some r := fun r h =>
  den_of (x := (X_support_Dot n1 v2)) injO_support_Dot 1 (Lim.cong (fun n => fn16 n n1.c0 n1.c1 n1.c2 v2.c0 v2.c1 v2.c2 v2.c3 v2.c4 v2.c5) (by
      refine Lim.call o_support_Usable (lim_support_Usable 0 n1) rfl rfl fun y3 => ?_
      refine Lim.bif rfl ?_ ?_
      · exact Lim.leaf rfl
      refine Lim.call o_shape_Placed (lim_shape_Placed 0 [v2]) (by first | with_reducible rfl | (simp [map_upd] <;> rfl) | rfl) (by first | with_reducible rfl | (simp [map_upd] <;> rfl) | rfl) fun y4 => ?_
      refine Lim.bif rfl ?_ ?_
      · exact Lim.leaf rfl
      refine Lim.call o_support_dot (lim_support_dot 0 n1 v2) rfl rfl fun y5 => ?_
      exact Lim.leaf rfl
    )) h

/-! armplan/fixed.Root -/
abbrev E_fixed_Root_0 : Type := (Int)
def enc_L_fixed_Root_0 (e : E_fixed_Root_0) : Ex × St := (.exit 0, encSt S32_0_e0 ((e, ()), ()))
theorem inj_L_fixed_Root_0 : ∀ a b, enc_L_fixed_Root_0 a = enc_L_fixed_Root_0 b → a = b := by
  rintro a0 b0 h
  first | (cases h; done) | (have h2 := encSt_inj rfl (Prod.mk.inj h).2; simp [] at h2; simp [h2]) | (have h2 := (Prod.mk.inj h).1; simp at h2) | rfl
noncomputable abbrev X_L_fixed_Root_0 (v2 : Int) (v3 : Int) (v4 : Int) (n : Nat) : Option (Ex × St) := (lvl Try.prog HH n).1 ⟨32, 0, true⟩ 0 (loopOf Try.f32 0) (encSt S32_0 ((v2, v3, v4, ()), ()))
noncomputable def L_fixed_Root_0 (v2 : Int) (v3 : Int) (v4 : Int) : Option E_fixed_Root_0 := den enc_L_fixed_Root_0 (X_L_fixed_Root_0 v2 v3 v4)
theorem L_fixed_Root_0_of (v2 : Int) (v3 : Int) (v4 : Int) : ∀ r, ((
    bif decide (v4 < 32) then (
      letIn (IntKind.wrap .i64 (31 - v4) : Int) fun n5 =>
      bif decide (n5 < 0) then (
        none)
      else
      letIn (IntKind.wrap .i64 (1 * (2 ^ min n5.toNat 64)) : Int) fun n6 =>
      letIn (IntKind.wrap .i64 (v3 + n6) : Int) fun n7 =>
      bif n7 == 0 then (
        none)
      else
      letIn (IntKind.wrap .i64 (Int.tdiv v2 n7) : Int) fun n8 =>
      bif decide (n7 ≤ n8) then (
        letIn (IntKind.wrap .i64 (v4 + 1) : Int) fun n9 =>
        L_fixed_Root_0 v2 n7 n9)
      else
      letIn (IntKind.wrap .i64 (v4 + 1) : Int) fun n10 =>
      L_fixed_Root_0 v2 v3 n10)
    else
    some v3) : Option E_fixed_Root_0) = some r →
    L_fixed_Root_0 v2 v3 v4 = some r := fun r h =>
  den_of (x := (X_L_fixed_Root_0 v2 v3 v4)) inj_L_fixed_Root_0 1 (Lim.cong (fun n => loop32_0 n v2 v3 v4) (by
      refine Lim.bif rfl ?_ ?_
      · refine Lim.letIn rfl fun n5 => ?_
        refine Lim.bif rfl Lim.none_ ?_
        refine Lim.letIn rfl fun n6 => ?_
        refine Lim.letIn rfl fun n7 => ?_
        refine Lim.bif rfl Lim.none_ ?_
        refine Lim.letIn rfl fun n8 => ?_
        refine Lim.bif rfl ?_ ?_
        · refine Lim.letIn rfl fun n9 => ?_
          exact Lim.loop 0 rfl
        refine Lim.letIn rfl fun n10 => ?_
        exact Lim.loop 0 rfl
      exact Lim.leaf rfl
    )) h
abbrev o_fixed_Root (v : Int) : VtsT outs32 × MtsT mouts32 := ((v, ()), ())
abbrev encO_fixed_Root (v : Int) : R := (encR outs32 (o_fixed_Root v).1, encMts mouts32 (o_fixed_Root v).2)
theorem injO_fixed_Root : ∀ a b, encO_fixed_Root a = encO_fixed_Root b → a = b := by
  rintro a0 b0 h
  have h1 := encR_inj (Prod.mk.inj h).1
  have h2 := encMts_inj (Prod.mk.inj h).2
  simp [o_fixed_Root] at h1 h2
  simp [h1, h2]
noncomputable abbrev X_fixed_Root (n1 : Int) (n : Nat) : Option R := (lvl Try.prog HH n).2 32 [.s (.one (.v (.int .i64 n1)))] []
noncomputable def F_fixed_Root (n1 : Int) : Option Int := den encO_fixed_Root (X_fixed_Root n1)
theorem lim_fixed_Root (k : Nat) (n1 : Int) : Lim (fun v => (encR outs32 (o_fixed_Root v).1, encMts mouts32 (o_fixed_Root v).2)) (fun n => (lvl Try.prog HH (n + k)).2 32 [.s (.one (.v (.int .i64 n1)))] []) (F_fixed_Root n1) := Lim.den (x := (X_fixed_Root n1)) k
theorem F_fixed_Root_of (n1 : Int) : ∀ r, ((
    bif decide (n1 ≤ 0) then (
      some 0)
    else
    (L_fixed_Root_0 n1 0 0).bind fun p11 =>
    some p11) : Option Int) = some r →
    F_fixed_Root n1 = some r := fun r h =>
  den_of (x := (X_fixed_Root n1)) injO_fixed_Root 1 (Lim.cong (fun n => fn32 n n1) (by
      refine Lim.bif rfl ?_ ?_
      · exact Lim.leaf rfl
      refine Lim.bind (show Lim enc_L_fixed_Root_0 _ (L_fixed_Root_0 n1 0 0) from Lim.loop 0 rfl) fun p11 => ?_
      refine Lim.exit (.exit 0) S32_0_e0 ((p11, ()), ()) rfl rfl rfl ?_
      exact Lim.leaf rfl
    )) h

/-! armplan/fixed.RootUp -/
abbrev o_fixed_RootUp (v : Int) : VtsT outs20 × MtsT mouts20 := ((v, ()), ())
abbrev encO_fixed_RootUp (v : Int) : R := (encR outs20 (o_fixed_RootUp v).1, encMts mouts20 (o_fixed_RootUp v).2)
theorem injO_fixed_RootUp : ∀ a b, encO_fixed_RootUp a = encO_fixed_RootUp b → a = b := by
  rintro a0 b0 h
  have h1 := encR_inj (Prod.mk.inj h).1
  have h2 := encMts_inj (Prod.mk.inj h).2
  simp [o_fixed_RootUp] at h1 h2
  simp [h1, h2]
noncomputable abbrev X_fixed_RootUp (n1 : Int) (n : Nat) : Option R := (lvl Try.prog HH n).2 20 [.s (.one (.v (.int .i64 n1)))] []
noncomputable def F_fixed_RootUp (n1 : Int) : Option Int := den encO_fixed_RootUp (X_fixed_RootUp n1)
theorem lim_fixed_RootUp (k : Nat) (n1 : Int) : Lim (fun v => (encR outs20 (o_fixed_RootUp v).1, encMts mouts20 (o_fixed_RootUp v).2)) (fun n => (lvl Try.prog HH (n + k)).2 20 [.s (.one (.v (.int .i64 n1)))] []) (F_fixed_RootUp n1) := Lim.den (x := (X_fixed_RootUp n1)) k
theorem F_fixed_RootUp_of (n1 : Int) : ∀ r, ((
    (F_fixed_Root n1).bind fun y2 =>
    letIn (IntKind.wrap .i64 (y2 * y2) : Int) fun n3 =>
    bif decide (n3 < n1) then (
      letIn (IntKind.wrap .i64 (y2 + 1) : Int) fun n4 =>
      some n4)
    else
    some y2) : Option Int) = some r →
    F_fixed_RootUp n1 = some r := fun r h =>
  den_of (x := (X_fixed_RootUp n1)) injO_fixed_RootUp 1 (Lim.cong (fun n => fn20 n n1) (by
      refine Lim.call o_fixed_Root (lim_fixed_Root 0 n1) rfl rfl fun y2 => ?_
      refine Lim.letIn rfl fun n3 => ?_
      refine Lim.bif rfl ?_ ?_
      · refine Lim.letIn rfl fun n4 => ?_
        exact Lim.leaf rfl
      exact Lim.leaf rfl
    )) h

/-! armplan/support.Norm -/
abbrev o_support_Norm (v : Int) : VtsT outs11 × MtsT mouts11 := ((v, ()), ())
abbrev encO_support_Norm (v : Int) : R := (encR outs11 (o_support_Norm v).1, encMts mouts11 (o_support_Norm v).2)
theorem injO_support_Norm : ∀ a b, encO_support_Norm a = encO_support_Norm b → a = b := by
  rintro a0 b0 h
  have h1 := encR_inj (Prod.mk.inj h).1
  have h2 := encMts_inj (Prod.mk.inj h).2
  simp [o_support_Norm] at h1 h2
  simp [h1, h2]
noncomputable abbrev X_support_Norm (n1 : I3) (n : Nat) : Option R := (lvl Try.prog HH n).2 11 [.s (.agg true [.v (.int .i64 n1.c0), .v (.int .i64 n1.c1), .v (.int .i64 n1.c2)])] []
noncomputable def F_support_Norm (n1 : I3) : Option Int := den encO_support_Norm (X_support_Norm n1)
theorem lim_support_Norm (k : Nat) (n1 : I3) : Lim (fun v => (encR outs11 (o_support_Norm v).1, encMts mouts11 (o_support_Norm v).2)) (fun n => (lvl Try.prog HH (n + k)).2 11 [.s (.agg true [.v (.int .i64 n1.c0), .v (.int .i64 n1.c1), .v (.int .i64 n1.c2)])] []) (F_support_Norm n1) := Lim.den (x := (X_support_Norm n1)) k
theorem F_support_Norm_of (n1 : I3) : ∀ r, ((
    (F_support_Usable n1).bind fun y2 =>
    bif !y2 then (
      some 0)
    else
    letIn (IntKind.wrap .i64 (n1.c0 * n1.c0) : Int) fun n3 =>
    letIn (IntKind.wrap .i64 (n1.c1 * n1.c1) : Int) fun n4 =>
    letIn (IntKind.wrap .i64 (n3 + n4) : Int) fun n5 =>
    letIn (IntKind.wrap .i64 (n1.c2 * n1.c2) : Int) fun n6 =>
    letIn (IntKind.wrap .i64 (n5 + n6) : Int) fun n7 =>
    (F_fixed_RootUp n7).bind fun y8 =>
    some y8) : Option Int) = some r →
    F_support_Norm n1 = some r := fun r h =>
  den_of (x := (X_support_Norm n1)) injO_support_Norm 1 (Lim.cong (fun n => fn11 n n1.c0 n1.c1 n1.c2) (by
      refine Lim.call o_support_Usable (lim_support_Usable 0 n1) rfl rfl fun y2 => ?_
      refine Lim.bif rfl ?_ ?_
      · exact Lim.leaf rfl
      refine Lim.letIn rfl fun n3 => ?_
      refine Lim.letIn rfl fun n4 => ?_
      refine Lim.letIn rfl fun n5 => ?_
      refine Lim.letIn rfl fun n6 => ?_
      refine Lim.letIn rfl fun n7 => ?_
      refine Lim.call o_fixed_RootUp (lim_fixed_RootUp 0 n7) rfl rfl fun y8 => ?_
      exact Lim.leaf rfl
    )) h

/-! armplan/armplanlaw13.awake -/
abbrev o_law13_awake (v : Bool) : VtsT outs7 × MtsT mouts7 := ((v, ()), ())
abbrev encO_law13_awake (v : Bool) : R := (encR outs7 (o_law13_awake v).1, encMts mouts7 (o_law13_awake v).2)
theorem injO_law13_awake : ∀ a b, encO_law13_awake a = encO_law13_awake b → a = b := by
  rintro a0 b0 h
  have h1 := encR_inj (Prod.mk.inj h).1
  have h2 := encMts_inj (Prod.mk.inj h).2
  simp [o_law13_awake] at h1 h2
  simp [h1, h2]
noncomputable abbrev X_law13_awake  (n : Nat) : Option R := (lvl Try.prog HH n).2 7 [] []
noncomputable def F_law13_awake  : Option Bool := den encO_law13_awake X_law13_awake
theorem lim_law13_awake (k : Nat)  : Lim (fun v => (encR outs7 (o_law13_awake v).1, encMts mouts7 (o_law13_awake v).2)) (fun n => (lvl Try.prog HH (n + k)).2 7 [] []) (F_law13_awake) := Lim.den (x := X_law13_awake) k
theorem F_law13_awake_of  : ∀ r, ((
    (F_support_Dot ((I3.mk 1 ((-2)) 0)) ((I6.mk 0 1 3 4 5 5))).bind fun y1 =>
    bif y1.1 == (-8) then (
      bif y1.2 == (-5) then (
        (F_support_Norm ((I3.mk 1 1 1))).bind fun y2 =>
        some (y2 == 2))
      else
      some false)
    else
    some false) : Option Bool) = some r →
    F_law13_awake = some r := fun r h =>
  den_of (x := X_law13_awake) injO_law13_awake 1 (Lim.cong (fun n => fn7 n ) (by
      refine Lim.call o_support_Dot (lim_support_Dot 0 ((I3.mk 1 ((-2)) 0)) ((I6.mk 0 1 3 4 5 5))) rfl rfl fun y1 => ?_
      refine Lim.bif rfl ?_ ?_
      · refine Lim.bif rfl ?_ ?_
        · refine Lim.call o_support_Norm (lim_support_Norm 0 ((I3.mk 1 1 1))) rfl rfl fun y2 => ?_
          exact Lim.leaf rfl
        exact Lim.leaf rfl
      exact Lim.leaf rfl
    )) h

/-! armplan/support.Normal -/
abbrev E_support_Normal_0 : Type := (I3 × I3)
def enc_L_support_Normal_0 (e : E_support_Normal_0) : Ex × St := (.exit 0, encSt S10_0_e0 (((), (), ()), ((e.1.c0, e.1.c1, e.1.c2, ()), (e.2.c0, e.2.c1, e.2.c2, ()), ())))
theorem inj_L_support_Normal_0 : ∀ a b, enc_L_support_Normal_0 a = enc_L_support_Normal_0 b → a = b := by
  rintro ⟨⟨a0, a1, a2⟩, ⟨a3, a4, a5⟩⟩ ⟨⟨b0, b1, b2⟩, ⟨b3, b4, b5⟩⟩ h
  first | (cases h; done) | (have h2 := encSt_inj rfl (Prod.mk.inj h).2; simp [] at h2; simp [h2]) | (have h2 := (Prod.mk.inj h).1; simp at h2) | rfl
abbrev E_support_Normal_2 : Type := (Int × I3 × I3 × I3)
def enc_L_support_Normal_2 (e : E_support_Normal_2) : Ex × St := (.exit 2, encSt S10_2_e2 (((), (), (), e.1, ()), ((e.2.1.c0, e.2.1.c1, e.2.1.c2, ()), (e.2.2.1.c0, e.2.2.1.c1, e.2.2.1.c2, ()), (e.2.2.2.c0, e.2.2.2.c1, e.2.2.2.c2, ()), ())))
theorem inj_L_support_Normal_2 : ∀ a b, enc_L_support_Normal_2 a = enc_L_support_Normal_2 b → a = b := by
  rintro ⟨a0, ⟨a1, a2, a3⟩, ⟨a4, a5, a6⟩, ⟨a7, a8, a9⟩⟩ ⟨b0, ⟨b1, b2, b3⟩, ⟨b4, b5, b6⟩, ⟨b7, b8, b9⟩⟩ h
  first | (cases h; done) | (have h2 := encSt_inj rfl (Prod.mk.inj h).2; simp [] at h2; simp [h2]) | (have h2 := (Prod.mk.inj h).1; simp at h2) | rfl
noncomputable abbrev X_L_support_Normal_0 (v3 : Int) (c4 : I3) (c5 : I3) (c6 : I3) (n : Nat) : Option (Ex × St) := (lvl Try.prog HH n).1 ⟨10, 0, true⟩ 0 (loopOf Try.f10 0) (encSt S10_0 (((), (), (), v3, ()), ((c4.c0, c4.c1, c4.c2, ()), (c5.c0, c5.c1, c5.c2, ()), (c6.c0, c6.c1, c6.c2, ()), ())))
noncomputable def L_support_Normal_0 (v3 : Int) (c4 : I3) (c5 : I3) (c6 : I3) : Option E_support_Normal_0 := den enc_L_support_Normal_0 (X_L_support_Normal_0 v3 c4 c5 c6)
theorem L_support_Normal_0_of (v3 : Int) (c4 : I3) (c5 : I3) (c6 : I3) : ∀ r, ((
    (F_support_fits c6).bind fun y7 =>
    bif !y7 then (
      Option.bind (α := E_support_Normal_2) (
        bif decide (v3 < 0) then (
          none)
        else
        letIn (IntKind.wrap .i64 (1 * (2 ^ min v3.toNat 64)) : Int) fun n8 =>
        bif n8 == 0 then (
          none)
        else
        letIn (IntKind.wrap .i64 (Int.tdiv c4.c0 n8) : Int) fun n9 =>
        bif decide (v3 < 0) then (
          none)
        else
        letIn (IntKind.wrap .i64 (1 * (2 ^ min v3.toNat 64)) : Int) fun n10 =>
        bif n10 == 0 then (
          none)
        else
        letIn (IntKind.wrap .i64 (Int.tdiv c4.c1 n10) : Int) fun n11 =>
        bif decide (v3 < 0) then (
          none)
        else
        letIn (IntKind.wrap .i64 (1 * (2 ^ min v3.toNat 64)) : Int) fun n12 =>
        bif n12 == 0 then (
          none)
        else
        letIn (IntKind.wrap .i64 (Int.tdiv c4.c2 n12) : Int) fun n13 =>
        some ((v3, c4, c5, (I3.mk n9 n11 n13)))) fun p14 =>
      letIn (IntKind.wrap .i64 (p14.1 + 1) : Int) fun n15 =>
      L_support_Normal_0 n15 p14.2.1 p14.2.2.1 p14.2.2.2)
    else
    some ((c5, c6))) : Option E_support_Normal_0) = some r →
    L_support_Normal_0 v3 c4 c5 c6 = some r := fun r h =>
  den_of (x := (X_L_support_Normal_0 v3 c4 c5 c6)) inj_L_support_Normal_0 5 (Lim.cong (fun n => loop10_0 n v3 c4.c0 c4.c1 c4.c2 c5.c0 c5.c1 c5.c2 c6.c0 c6.c1 c6.c2) (by
      refine Lim.call o_support_fits (lim_support_fits 4 c6) rfl rfl fun y7 => ?_
      refine Lim.bif rfl ?_ ?_
      · refine Lim.bind (e := enc_L_support_Normal_2) ?_ fun p14 => ?_
        · refine Lim.bif rfl Lim.none_ ?_
          refine Lim.letIn rfl fun n8 => ?_
          refine Lim.bif rfl Lim.none_ ?_
          refine Lim.letIn rfl fun n9 => ?_
          refine Lim.bif rfl Lim.none_ ?_
          refine Lim.letIn rfl fun n10 => ?_
          refine Lim.bif rfl Lim.none_ ?_
          refine Lim.letIn rfl fun n11 => ?_
          refine Lim.bif rfl Lim.none_ ?_
          refine Lim.letIn rfl fun n12 => ?_
          refine Lim.bif rfl Lim.none_ ?_
          refine Lim.letIn rfl fun n13 => ?_
          exact Lim.leaf rfl
        refine Lim.exit (.exit 2) S10_2_e2 (((), (), (), p14.1, ()), ((p14.2.1.c0, p14.2.1.c1, p14.2.1.c2, ()), (p14.2.2.1.c0, p14.2.2.1.c1, p14.2.2.1.c2, ()), (p14.2.2.2.c0, p14.2.2.2.c1, p14.2.2.2.c2, ()), ())) rfl rfl rfl ?_
        refine Lim.letIn rfl fun n15 => ?_
        exact Lim.loop 4 rfl
      exact Lim.leaf rfl
    )) h
abbrev o_support_Normal (v : I3 × Bool) : VtsT outs10 × MtsT mouts10 := (((v.1.c0, v.1.c1, v.1.c2, ()), v.2, ()), ())
abbrev encO_support_Normal (v : I3 × Bool) : R := (encR outs10 (o_support_Normal v).1, encMts mouts10 (o_support_Normal v).2)
theorem injO_support_Normal : ∀ a b, encO_support_Normal a = encO_support_Normal b → a = b := by
  rintro ⟨⟨a0, a1, a2⟩, a3⟩ ⟨⟨b0, b1, b2⟩, b3⟩ h
  have h1 := encR_inj (Prod.mk.inj h).1
  have h2 := encMts_inj (Prod.mk.inj h).2
  simp [o_support_Normal] at h1 h2
  simp [h1, h2]
noncomputable abbrev X_support_Normal (v1 : I3) (n : Nat) : Option R := (lvl Try.prog HH n).2 10 [.s (.agg true [.v (.int .i64 v1.c0), .v (.int .i64 v1.c1), .v (.int .i64 v1.c2)])] []
noncomputable def F_support_Normal (v1 : I3) : Option (I3 × Bool) := den encO_support_Normal (X_support_Normal v1)
theorem lim_support_Normal (k : Nat) (v1 : I3) : Lim (fun v => (encR outs10 (o_support_Normal v).1, encMts mouts10 (o_support_Normal v).2)) (fun n => (lvl Try.prog HH (n + k)).2 10 [.s (.agg true [.v (.int .i64 v1.c0), .v (.int .i64 v1.c1), .v (.int .i64 v1.c2)])] []) (F_support_Normal v1) := Lim.den (x := (X_support_Normal v1)) k
theorem F_support_Normal_of (v1 : I3) : ∀ r, ((
    (L_support_Normal_0 1 v1 ((I3.mk 0 0 0)) v1).bind fun p16 =>
    letIn (!((p16.2.c0 == 0) && ((p16.2.c1 == 0) && ((p16.2.c2 == 0) && true))) : Bool) fun b17 =>
    some (p16.2, b17)) : Option (I3 × Bool)) = some r →
    F_support_Normal v1 = some r := fun r h =>
  den_of (x := (X_support_Normal v1)) injO_support_Normal 1 (Lim.cong (fun n => fn10 n v1.c0 v1.c1 v1.c2) (by
      refine Lim.bind (show Lim enc_L_support_Normal_0 _ (L_support_Normal_0 1 v1 ((I3.mk 0 0 0)) v1) from Lim.loop 0 rfl) fun p16 => ?_
      refine Lim.exit (.exit 0) S10_0_e0 (((), (), ()), ((p16.1.c0, p16.1.c1, p16.1.c2, ()), (p16.2.c0, p16.2.c1, p16.2.c2, ()), ())) rfl rfl rfl ?_
      refine Lim.letIn rfl fun b17 => ?_
      exact Lim.leaf rfl
    )) h

/-! armplan/armplanref10.Normal -/
abbrev E_ref10_Normal_0 : Type := (Bool × I3)
def enc_L_ref10_Normal_0 (e : E_ref10_Normal_0) : Ex × St := (.ret, encSt S17_0_r (((), e.1, ()), ((e.2.c0, e.2.c1, e.2.c2, ()), ())))
theorem inj_L_ref10_Normal_0 : ∀ a b, enc_L_ref10_Normal_0 a = enc_L_ref10_Normal_0 b → a = b := by
  rintro ⟨a0, ⟨a1, a2, a3⟩⟩ ⟨b0, ⟨b1, b2, b3⟩⟩ h
  first | (cases h; done) | (have h2 := encSt_inj rfl (Prod.mk.inj h).2; simp [] at h2; simp [h2]) | (have h2 := (Prod.mk.inj h).1; simp at h2) | rfl
noncomputable abbrev X_L_ref10_Normal_0 (v7 : Int) (c8 : I3) (c9 : I3) (n : Nat) : Option (Ex × St) := (lvl Try.prog HH n).1 ⟨17, 0, true⟩ 0 (loopOf Try.f17 0) (encSt S17_0 (((), (), v7, ()), ((c8.c0, c8.c1, c8.c2, ()), (c9.c0, c9.c1, c9.c2, ()), ())))
noncomputable def L_ref10_Normal_0 (v7 : Int) (c8 : I3) (c9 : I3) : Option E_ref10_Normal_0 := den enc_L_ref10_Normal_0 (X_L_ref10_Normal_0 v7 c8 c9)
theorem L_ref10_Normal_0_of (v7 : Int) (c8 : I3) (c9 : I3) : ∀ r, ((
    bif v7 == 0 then (
      none)
    else
    letIn (IntKind.wrap .i64 (Int.tdiv c8.c0 v7) : Int) fun n10 =>
    bif v7 == 0 then (
      none)
    else
    letIn (IntKind.wrap .i64 (Int.tdiv c8.c1 v7) : Int) fun n11 =>
    bif v7 == 0 then (
      none)
    else
    letIn (IntKind.wrap .i64 (Int.tdiv c8.c2 v7) : Int) fun n12 =>
    (F_ref6_Near ((I3.mk n10 n11 n12)) 16384).bind fun y13 =>
    bif y13 then (
      some ((true, (I3.mk n10 n11 n12))))
    else
    letIn (IntKind.wrap .i64 (v7 * 2) : Int) fun n14 =>
    L_ref10_Normal_0 n14 c8 c9) : Option E_ref10_Normal_0) = some r →
    L_ref10_Normal_0 v7 c8 c9 = some r := fun r h =>
  den_of (x := (X_L_ref10_Normal_0 v7 c8 c9)) inj_L_ref10_Normal_0 1 (Lim.cong (fun n => loop17_0 n v7 c8.c0 c8.c1 c8.c2 c9.c0 c9.c1 c9.c2) (by
      refine Lim.bif rfl Lim.none_ ?_
      refine Lim.letIn rfl fun n10 => ?_
      refine Lim.bif rfl Lim.none_ ?_
      refine Lim.letIn rfl fun n11 => ?_
      refine Lim.bif rfl Lim.none_ ?_
      refine Lim.letIn rfl fun n12 => ?_
      refine Lim.call o_ref6_Near (lim_ref6_Near 0 ((I3.mk n10 n11 n12)) 16384) rfl rfl fun y13 => ?_
      refine Lim.bif rfl ?_ ?_
      · exact Lim.leaf rfl
      refine Lim.letIn rfl fun n14 => ?_
      exact Lim.loop 0 rfl
    )) h
abbrev o_ref10_Normal (v : I3 × Bool) : VtsT outs17 × MtsT mouts17 := (((v.1.c0, v.1.c1, v.1.c2, ()), v.2, ()), ())
abbrev encO_ref10_Normal (v : I3 × Bool) : R := (encR outs17 (o_ref10_Normal v).1, encMts mouts17 (o_ref10_Normal v).2)
theorem injO_ref10_Normal : ∀ a b, encO_ref10_Normal a = encO_ref10_Normal b → a = b := by
  rintro ⟨⟨a0, a1, a2⟩, a3⟩ ⟨⟨b0, b1, b2⟩, b3⟩ h
  have h1 := encR_inj (Prod.mk.inj h).1
  have h2 := encMts_inj (Prod.mk.inj h).2
  simp [o_ref10_Normal] at h1 h2
  simp [h1, h2]
noncomputable abbrev X_ref10_Normal (v1 : I3) (n : Nat) : Option R := (lvl Try.prog HH n).2 17 [.s (.agg true [.v (.int .i64 v1.c0), .v (.int .i64 v1.c1), .v (.int .i64 v1.c2)])] []
noncomputable def F_ref10_Normal (v1 : I3) : Option (I3 × Bool) := den encO_ref10_Normal (X_ref10_Normal v1)
theorem lim_ref10_Normal (k : Nat) (v1 : I3) : Lim (fun v => (encR outs17 (o_ref10_Normal v).1, encMts mouts17 (o_ref10_Normal v).2)) (fun n => (lvl Try.prog HH (n + k)).2 17 [.s (.agg true [.v (.int .i64 v1.c0), .v (.int .i64 v1.c1), .v (.int .i64 v1.c2)])] []) (F_ref10_Normal v1) := Lim.den (x := (X_ref10_Normal v1)) k
theorem F_ref10_Normal_of (v1 : I3) : ∀ r, ((
    letIn ((v1.c0 == 0) && ((v1.c1 == 0) && ((v1.c2 == 0) && true)) : Bool) fun b2 =>
    bif b2 then (
      some (v1, false))
    else
    (L_ref10_Normal_0 1 v1 ((I3.mk 0 0 0))).bind fun p15 =>
    some (p15.2, p15.1)) : Option (I3 × Bool)) = some r →
    F_ref10_Normal v1 = some r := fun r h =>
  den_of (x := (X_ref10_Normal v1)) injO_ref10_Normal 1 (Lim.cong (fun n => fn17 n v1.c0 v1.c1 v1.c2) (by
      refine Lim.letIn rfl fun b2 => ?_
      refine Lim.bif rfl ?_ ?_
      · exact Lim.leaf rfl
      refine Lim.bind (show Lim enc_L_ref10_Normal_0 _ (L_ref10_Normal_0 1 v1 ((I3.mk 0 0 0))) from Lim.loop 0 rfl) fun p15 => ?_
      refine Lim.exit (.ret) S17_0_r (((), p15.1, ()), ((p15.2.c0, p15.2.c1, p15.2.c2, ()), ())) rfl rfl rfl ?_
      exact Lim.leaf rfl
    )) h

/-! armplan/armplanref1.Root -/
abbrev E_ref1_Root_0 : Type := (Int)
def enc_L_ref1_Root_0 (e : E_ref1_Root_0) : Ex × St := (.exit 0, encSt S41_0_e0 ((e, ()), ()))
theorem inj_L_ref1_Root_0 : ∀ a b, enc_L_ref1_Root_0 a = enc_L_ref1_Root_0 b → a = b := by
  rintro a0 b0 h
  first | (cases h; done) | (have h2 := encSt_inj rfl (Prod.mk.inj h).2; simp [] at h2; simp [h2]) | (have h2 := (Prod.mk.inj h).1; simp at h2) | rfl
noncomputable abbrev X_L_ref1_Root_0 (v2 : Int) (v3 : Int) (v4 : Int) (n : Nat) : Option (Ex × St) := (lvl Try.prog HH n).1 ⟨41, 0, true⟩ 0 (loopOf Try.f41 0) (encSt S41_0 ((v2, v3, v4, ()), ()))
noncomputable def L_ref1_Root_0 (v2 : Int) (v3 : Int) (v4 : Int) : Option E_ref1_Root_0 := den enc_L_ref1_Root_0 (X_L_ref1_Root_0 v2 v3 v4)
theorem L_ref1_Root_0_of (v2 : Int) (v3 : Int) (v4 : Int) : ∀ r, ((
    letIn (IntKind.wrap .i64 (v4 - v3) : Int) fun n5 =>
    bif decide (n5 > 1) then (
      letIn (IntKind.wrap .i64 (v4 - v3) : Int) fun n6 =>
      letIn (IntKind.wrap .i64 (Int.tdiv n6 2) : Int) fun n7 =>
      letIn (IntKind.wrap .i64 (v3 + n7) : Int) fun n8 =>
      bif n8 == 0 then (
        none)
      else
      letIn (IntKind.wrap .i64 (Int.tdiv v2 n8) : Int) fun n9 =>
      bif decide (n8 ≤ n9) then (
        L_ref1_Root_0 v2 n8 v4)
      else
      L_ref1_Root_0 v2 v3 n8)
    else
    some v3) : Option E_ref1_Root_0) = some r →
    L_ref1_Root_0 v2 v3 v4 = some r := fun r h =>
  den_of (x := (X_L_ref1_Root_0 v2 v3 v4)) inj_L_ref1_Root_0 1 (Lim.cong (fun n => loop41_0 n v2 v3 v4) (by
      refine Lim.letIn rfl fun n5 => ?_
      refine Lim.bif rfl ?_ ?_
      · refine Lim.letIn rfl fun n6 => ?_
        refine Lim.letIn rfl fun n7 => ?_
        refine Lim.letIn rfl fun n8 => ?_
        refine Lim.bif rfl Lim.none_ ?_
        refine Lim.letIn rfl fun n9 => ?_
        refine Lim.bif rfl ?_ ?_
        · exact Lim.loop 0 rfl
        exact Lim.loop 0 rfl
      exact Lim.leaf rfl
    )) h
abbrev o_ref1_Root (v : Int) : VtsT outs41 × MtsT mouts41 := ((v, ()), ())
abbrev encO_ref1_Root (v : Int) : R := (encR outs41 (o_ref1_Root v).1, encMts mouts41 (o_ref1_Root v).2)
theorem injO_ref1_Root : ∀ a b, encO_ref1_Root a = encO_ref1_Root b → a = b := by
  rintro a0 b0 h
  have h1 := encR_inj (Prod.mk.inj h).1
  have h2 := encMts_inj (Prod.mk.inj h).2
  simp [o_ref1_Root] at h1 h2
  simp [h1, h2]
noncomputable abbrev X_ref1_Root (n1 : Int) (n : Nat) : Option R := (lvl Try.prog HH n).2 41 [.s (.one (.v (.int .i64 n1)))] []
noncomputable def F_ref1_Root (n1 : Int) : Option Int := den encO_ref1_Root (X_ref1_Root n1)
theorem lim_ref1_Root (k : Nat) (n1 : Int) : Lim (fun v => (encR outs41 (o_ref1_Root v).1, encMts mouts41 (o_ref1_Root v).2)) (fun n => (lvl Try.prog HH (n + k)).2 41 [.s (.one (.v (.int .i64 n1)))] []) (F_ref1_Root n1) := Lim.den (x := (X_ref1_Root n1)) k
theorem F_ref1_Root_of (n1 : Int) : ∀ r, ((
    bif decide (n1 < 1) then (
      some 0)
    else
    (L_ref1_Root_0 n1 1 4294967296).bind fun p10 =>
    some p10) : Option Int) = some r →
    F_ref1_Root n1 = some r := fun r h =>
  den_of (x := (X_ref1_Root n1)) injO_ref1_Root 1 (Lim.cong (fun n => fn41 n n1) (by
      refine Lim.bif rfl ?_ ?_
      · exact Lim.leaf rfl
      refine Lim.bind (show Lim enc_L_ref1_Root_0 _ (L_ref1_Root_0 n1 1 4294967296) from Lim.loop 0 rfl) fun p10 => ?_
      refine Lim.exit (.exit 0) S41_0_e0 ((p10, ()), ()) rfl rfl rfl ?_
      exact Lim.leaf rfl
    )) h

/-! armplan/armplanref1.RootUp -/
abbrev o_ref1_RootUp (v : Int) : VtsT outs31 × MtsT mouts31 := ((v, ()), ())
abbrev encO_ref1_RootUp (v : Int) : R := (encR outs31 (o_ref1_RootUp v).1, encMts mouts31 (o_ref1_RootUp v).2)
theorem injO_ref1_RootUp : ∀ a b, encO_ref1_RootUp a = encO_ref1_RootUp b → a = b := by
  rintro a0 b0 h
  have h1 := encR_inj (Prod.mk.inj h).1
  have h2 := encMts_inj (Prod.mk.inj h).2
  simp [o_ref1_RootUp] at h1 h2
  simp [h1, h2]
noncomputable abbrev X_ref1_RootUp (n1 : Int) (n : Nat) : Option R := (lvl Try.prog HH n).2 31 [.s (.one (.v (.int .i64 n1)))] []
noncomputable def F_ref1_RootUp (n1 : Int) : Option Int := den encO_ref1_RootUp (X_ref1_RootUp n1)
theorem lim_ref1_RootUp (k : Nat) (n1 : Int) : Lim (fun v => (encR outs31 (o_ref1_RootUp v).1, encMts mouts31 (o_ref1_RootUp v).2)) (fun n => (lvl Try.prog HH (n + k)).2 31 [.s (.one (.v (.int .i64 n1)))] []) (F_ref1_RootUp n1) := Lim.den (x := (X_ref1_RootUp n1)) k
theorem F_ref1_RootUp_of (n1 : Int) : ∀ r, ((
    (F_ref1_Root n1).bind fun y2 =>
    bif decide (n1 > 0) then (
      letIn (IntKind.wrap .i64 (y2 * y2) : Int) fun n3 =>
      bif decide (n3 < n1) then (
        letIn (IntKind.wrap .i64 (y2 + 1) : Int) fun n4 =>
        some n4)
      else
      some y2)
    else
    some y2) : Option Int) = some r →
    F_ref1_RootUp n1 = some r := fun r h =>
  den_of (x := (X_ref1_RootUp n1)) injO_ref1_RootUp 1 (Lim.cong (fun n => fn31 n n1) (by
      refine Lim.call o_ref1_Root (lim_ref1_Root 0 n1) rfl rfl fun y2 => ?_
      refine Lim.bif rfl ?_ ?_
      · refine Lim.letIn rfl fun n3 => ?_
        refine Lim.bif rfl ?_ ?_
        · refine Lim.letIn rfl fun n4 => ?_
          exact Lim.leaf rfl
        exact Lim.leaf rfl
      exact Lim.leaf rfl
    )) h

/-! armplan/armplanref10.Norm -/
abbrev o_ref10_Norm (v : Int) : VtsT outs18 × MtsT mouts18 := ((v, ()), ())
abbrev encO_ref10_Norm (v : Int) : R := (encR outs18 (o_ref10_Norm v).1, encMts mouts18 (o_ref10_Norm v).2)
theorem injO_ref10_Norm : ∀ a b, encO_ref10_Norm a = encO_ref10_Norm b → a = b := by
  rintro a0 b0 h
  have h1 := encR_inj (Prod.mk.inj h).1
  have h2 := encMts_inj (Prod.mk.inj h).2
  simp [o_ref10_Norm] at h1 h2
  simp [h1, h2]
noncomputable abbrev X_ref10_Norm (n1 : I3) (n : Nat) : Option R := (lvl Try.prog HH n).2 18 [.s (.agg true [.v (.int .i64 n1.c0), .v (.int .i64 n1.c1), .v (.int .i64 n1.c2)])] []
noncomputable def F_ref10_Norm (n1 : I3) : Option Int := den encO_ref10_Norm (X_ref10_Norm n1)
theorem lim_ref10_Norm (k : Nat) (n1 : I3) : Lim (fun v => (encR outs18 (o_ref10_Norm v).1, encMts mouts18 (o_ref10_Norm v).2)) (fun n => (lvl Try.prog HH (n + k)).2 18 [.s (.agg true [.v (.int .i64 n1.c0), .v (.int .i64 n1.c1), .v (.int .i64 n1.c2)])] []) (F_ref10_Norm n1) := Lim.den (x := (X_ref10_Norm n1)) k
theorem F_ref10_Norm_of (n1 : I3) : ∀ r, ((
    (F_ref10_Usable n1).bind fun y2 =>
    bif !y2 then (
      some 0)
    else
    letIn (IntKind.wrap .i64 (n1.c0 * n1.c0) : Int) fun n3 =>
    letIn (IntKind.wrap .i64 (n1.c1 * n1.c1) : Int) fun n4 =>
    letIn (IntKind.wrap .i64 (n3 + n4) : Int) fun n5 =>
    letIn (IntKind.wrap .i64 (n1.c2 * n1.c2) : Int) fun n6 =>
    letIn (IntKind.wrap .i64 (n5 + n6) : Int) fun n7 =>
    (F_ref1_RootUp n7).bind fun y8 =>
    some y8) : Option Int) = some r →
    F_ref10_Norm n1 = some r := fun r h =>
  den_of (x := (X_ref10_Norm n1)) injO_ref10_Norm 1 (Lim.cong (fun n => fn18 n n1.c0 n1.c1 n1.c2) (by
      refine Lim.call o_ref10_Usable (lim_ref10_Usable 0 n1) rfl rfl fun y2 => ?_
      refine Lim.bif rfl ?_ ?_
      · exact Lim.leaf rfl
      refine Lim.letIn rfl fun n3 => ?_
      refine Lim.letIn rfl fun n4 => ?_
      refine Lim.letIn rfl fun n5 => ?_
      refine Lim.letIn rfl fun n6 => ?_
      refine Lim.letIn rfl fun n7 => ?_
      refine Lim.call o_ref1_RootUp (lim_ref1_RootUp 0 n7) rfl rfl fun y8 => ?_
      exact Lim.leaf rfl
    )) h

/-! armplan/armplanlaw13.normals -/
abbrev o_law13_normals (v : Bool) : VtsT outs8 × MtsT mouts8 := ((v, ()), ())
abbrev encO_law13_normals (v : Bool) : R := (encR outs8 (o_law13_normals v).1, encMts mouts8 (o_law13_normals v).2)
theorem injO_law13_normals : ∀ a b, encO_law13_normals a = encO_law13_normals b → a = b := by
  rintro a0 b0 h
  have h1 := encR_inj (Prod.mk.inj h).1
  have h2 := encMts_inj (Prod.mk.inj h).2
  simp [o_law13_normals] at h1 h2
  simp [h1, h2]
noncomputable abbrev X_law13_normals (v1 : I3) (n : Nat) : Option R := (lvl Try.prog HH n).2 8 [.s (.agg true [.v (.int .i64 v1.c0), .v (.int .i64 v1.c1), .v (.int .i64 v1.c2)])] []
noncomputable def F_law13_normals (v1 : I3) : Option Bool := den encO_law13_normals (X_law13_normals v1)
theorem lim_law13_normals (k : Nat) (v1 : I3) : Lim (fun v => (encR outs8 (o_law13_normals v).1, encMts mouts8 (o_law13_normals v).2)) (fun n => (lvl Try.prog HH (n + k)).2 8 [.s (.agg true [.v (.int .i64 v1.c0), .v (.int .i64 v1.c1), .v (.int .i64 v1.c2)])] []) (F_law13_normals v1) := Lim.den (x := (X_law13_normals v1)) k
theorem F_law13_normals_of (v1 : I3) : ∀ r, ((
    (F_support_Normal v1).bind fun y2 =>
    (F_ref10_Normal v1).bind fun y3 =>
    (F_support_Usable v1).bind fun y4 =>
    (F_ref10_Usable v1).bind fun y5 =>
    bif y4 == y5 then (
      letIn ((y2.1.c0 == y3.1.c0) && ((y2.1.c1 == y3.1.c1) && ((y2.1.c2 == y3.1.c2) && true)) : Bool) fun b6 =>
      bif b6 then (
        bif y2.2 == y3.2 then (
          (F_support_Norm v1).bind fun y7 =>
          (F_ref10_Norm v1).bind fun y8 =>
          some (y7 == y8))
        else
        some false)
      else
      some false)
    else
    some false) : Option Bool) = some r →
    F_law13_normals v1 = some r := fun r h =>
  den_of (x := (X_law13_normals v1)) injO_law13_normals 1 (Lim.cong (fun n => fn8 n v1.c0 v1.c1 v1.c2) (by
      refine Lim.call o_support_Normal (lim_support_Normal 0 v1) rfl rfl fun y2 => ?_
      refine Lim.call o_ref10_Normal (lim_ref10_Normal 0 v1) rfl rfl fun y3 => ?_
      refine Lim.call o_support_Usable (lim_support_Usable 0 v1) rfl rfl fun y4 => ?_
      refine Lim.call o_ref10_Usable (lim_ref10_Usable 0 v1) rfl rfl fun y5 => ?_
      refine Lim.bif rfl ?_ ?_
      · refine Lim.letIn rfl fun b6 => ?_
        refine Lim.bif rfl ?_ ?_
        · refine Lim.bif rfl ?_ ?_
          · refine Lim.call o_support_Norm (lim_support_Norm 0 v1) rfl rfl fun y7 => ?_
            refine Lim.call o_ref10_Norm (lim_ref10_Norm 0 v1) rfl rfl fun y8 => ?_
            exact Lim.leaf rfl
          exact Lim.leaf rfl
        exact Lim.leaf rfl
      exact Lim.leaf rfl
    )) h

/-! armplan/armplanlaw13.SupportNormals -/
abbrev o_law13_SupportNormals (v : Bool) : VtsT outs3 × MtsT mouts3 := ((v, ()), ())
abbrev encO_law13_SupportNormals (v : Bool) : R := (encR outs3 (o_law13_SupportNormals v).1, encMts mouts3 (o_law13_SupportNormals v).2)
theorem injO_law13_SupportNormals : ∀ a b, encO_law13_SupportNormals a = encO_law13_SupportNormals b → a = b := by
  rintro a0 b0 h
  have h1 := encR_inj (Prod.mk.inj h).1
  have h2 := encMts_inj (Prod.mk.inj h).2
  simp [o_law13_SupportNormals] at h1 h2
  simp [h1, h2]
noncomputable abbrev X_law13_SupportNormals (v1 : I3) (a2 : Int) (b3 : Int) (c4 : Int) (shift5 : Int) (n : Nat) : Option R := (lvl Try.prog HH n).2 3 [.s (.agg true [.v (.int .i64 v1.c0), .v (.int .i64 v1.c1), .v (.int .i64 v1.c2)]), .s (.one (.v (.int .i64 a2))), .s (.one (.v (.int .i64 b3))), .s (.one (.v (.int .i64 c4))), .s (.one (.v (.int .u8 shift5)))] []
noncomputable def F_law13_SupportNormals (v1 : I3) (a2 : Int) (b3 : Int) (c4 : Int) (shift5 : Int) : Option Bool := den encO_law13_SupportNormals (X_law13_SupportNormals v1 a2 b3 c4 shift5)
theorem lim_law13_SupportNormals (k : Nat) (v1 : I3) (a2 : Int) (b3 : Int) (c4 : Int) (shift5 : Int) : Lim (fun v => (encR outs3 (o_law13_SupportNormals v).1, encMts mouts3 (o_law13_SupportNormals v).2)) (fun n => (lvl Try.prog HH (n + k)).2 3 [.s (.agg true [.v (.int .i64 v1.c0), .v (.int .i64 v1.c1), .v (.int .i64 v1.c2)]), .s (.one (.v (.int .i64 a2))), .s (.one (.v (.int .i64 b3))), .s (.one (.v (.int .i64 c4))), .s (.one (.v (.int .u8 shift5)))] []) (F_law13_SupportNormals v1 a2 b3 c4 shift5) := Lim.den (x := (X_law13_SupportNormals v1 a2 b3 c4 shift5)) k
theorem F_law13_SupportNormals_of (v1 : I3) (a2 : Int) (b3 : Int) (c4 : Int) (shift5 : Int) : ∀ r, ((
    (F_make_Normal a2 b3 c4).bind fun y6 =>
    letIn (Int.tmod shift5 64 : Int) fun n7 =>
    bif decide (n7 < 0) then (
      none)
    else
    letIn (Int.fdiv v1.c0 (2 ^ min n7.toNat 64) : Int) fun n8 =>
    letIn (Int.tmod shift5 64 : Int) fun n9 =>
    bif decide (n9 < 0) then (
      none)
    else
    letIn (Int.fdiv v1.c1 (2 ^ min n9.toNat 64) : Int) fun n10 =>
    letIn (IntKind.wrap .u8 (Int.tdiv shift5 4) : Int) fun n11 =>
    letIn (Int.tmod n11 64 : Int) fun n12 =>
    bif decide (n12 < 0) then (
      none)
    else
    letIn (Int.fdiv v1.c2 (2 ^ min n12.toNat 64) : Int) fun n13 =>
    (F_law13_awake).bind fun y14 =>
    bif y14 then (
      (F_law13_normals v1).bind fun y15 =>
      bif y15 then (
        (F_law13_normals ((I3.mk n8 n10 n13))).bind fun y16 =>
        bif y16 then (
          (F_law13_normals y6).bind fun y17 =>
          bif y17 then (
            (F_support_Usable y6).bind fun y18 =>
            some y18)
          else
          some false)
        else
        some false)
      else
      some false)
    else
    some false) : Option Bool) = some r →
    F_law13_SupportNormals v1 a2 b3 c4 shift5 = some r := fun r h =>
  den_of (x := (X_law13_SupportNormals v1 a2 b3 c4 shift5)) injO_law13_SupportNormals 1 (Lim.cong (fun n => fn3 n v1.c0 v1.c1 v1.c2 a2 b3 c4 shift5) (by
      refine Lim.call o_make_Normal (lim_make_Normal 0 a2 b3 c4) rfl rfl fun y6 => ?_
      refine Lim.letIn rfl fun n7 => ?_
      refine Lim.bif rfl Lim.none_ ?_
      refine Lim.letIn rfl fun n8 => ?_
      refine Lim.letIn rfl fun n9 => ?_
      refine Lim.bif rfl Lim.none_ ?_
      refine Lim.letIn rfl fun n10 => ?_
      refine Lim.letIn rfl fun n11 => ?_
      refine Lim.letIn rfl fun n12 => ?_
      refine Lim.bif rfl Lim.none_ ?_
      refine Lim.letIn rfl fun n13 => ?_
      refine Lim.call o_law13_awake (lim_law13_awake 0 ) rfl rfl fun y14 => ?_
      refine Lim.bif rfl ?_ ?_
      · refine Lim.call o_law13_normals (lim_law13_normals 0 v1) rfl rfl fun y15 => ?_
        refine Lim.bif rfl ?_ ?_
        · refine Lim.call o_law13_normals (lim_law13_normals 0 ((I3.mk n8 n10 n13))) rfl rfl fun y16 => ?_
          refine Lim.bif rfl ?_ ?_
          · refine Lim.call o_law13_normals (lim_law13_normals 0 y6) rfl rfl fun y17 => ?_
            refine Lim.bif rfl ?_ ?_
            · refine Lim.call o_support_Usable (lim_support_Usable 0 y6) rfl rfl fun y18 => ?_
              exact Lim.leaf rfl
            exact Lim.leaf rfl
          exact Lim.leaf rfl
        exact Lim.leaf rfl
      exact Lim.leaf rfl
    )) h
end Go.Proofs.Ytceaambiagobbaa.Am
