/- PRINTED: the functions without levels. -/
import Derived.Test.YtceaambiagobbaaE0
import Derived.Test.YtceaambiagobbaaE1
import Derived.Test.YtceaambiagobbaaE2
import Derived.Test.YtceaambiagobbaaE3
import Derived.Test.YtceaambiagobbaaV
set_option linter.unusedVariables false
set_option linter.unusedSimpArgs false
set_option maxRecDepth 100000
namespace Go.Proofs.Ytceaambiagobbaa.Am
open Go Go.Proofs
/-! armplan/armplanmake.Round -/
abbrev o_make_Round (v : Int) : VtsT outs14 × MtsT mouts14 := ((v, ()), ())
abbrev encO_make_Round (v : Int) : R := (encR outs14 (o_make_Round v).1, encMts mouts14 (o_make_Round v).2)
theorem injO_make_Round : ∀ a b, encO_make_Round a = encO_make_Round b → a = b := by
  rintro a0 b0 h
  have h1 := encR_inj (Prod.mk.inj h).1
  have h2 := encMts_inj (Prod.mk.inj h).2
  simp [o_make_Round] at h1 h2
  simp [h1, h2]
noncomputable abbrev X_make_Round (n1 : Int) (k2 : Int) (n : Nat) : Option R := (lvl Try.prog HH n).2 14 [.s (.one (.v (.int .i64 n1))), .s (.one (.v (.int .i64 k2)))] []
noncomputable def F_make_Round (n1 : Int) (k2 : Int) : Option Int := den encO_make_Round (X_make_Round n1 k2)
theorem lim_make_Round (k : Nat) (n1 : Int) (k2 : Int) : Lim (fun v => (encR outs14 (o_make_Round v).1, encMts mouts14 (o_make_Round v).2)) (fun n => (lvl Try.prog HH (n + k)).2 14 [.s (.one (.v (.int .i64 n1))), .s (.one (.v (.int .i64 k2)))] []) (F_make_Round n1 k2) := Lim.den (x := (X_make_Round n1 k2)) k
theorem F_make_Round_of (n1 : Int) (k2 : Int) : ∀ r, ((
    bif k2 == 0 then (
      none)
    else
    letIn (Int.tmod n1 k2 : Int) fun n3 =>
    bif decide (n3 < 0) then (
      letIn (IntKind.wrap .i64 (n3 + k2) : Int) fun n4 =>
      some n4)
    else
    some n3) : Option Int) = some r →
    F_make_Round n1 k2 = some r := fun r h =>
  den_of (x := (X_make_Round n1 k2)) injO_make_Round 1 (Lim.cong (fun n => fn14 n n1 k2) (by
      refine Lim.bif rfl Lim.none_ ?_
      refine Lim.letIn rfl fun n3 => ?_
      refine Lim.bif rfl ?_ ?_
      · refine Lim.letIn rfl fun n4 => ?_
        exact Lim.leaf rfl
      exact Lim.leaf rfl
    )) h

/-! armplan/armplanref6.Near -/
abbrev E_ref6_Near_0 : Type := (Bool) ⊕ (Unit)
def enc_L_ref6_Near_0 : E_ref6_Near_0 → Ex × St
  | .inl e => (.ret, encSt S28_0_r ((e, ()), ()))
  | .inr e => (.exit 0, encSt S28_0_e0 ((), ()))
theorem inj_L_ref6_Near_0 : ∀ a b, enc_L_ref6_Near_0 a = enc_L_ref6_Near_0 b → a = b := by
  rintro (a0 | _) (b0 | _) h <;> (first | (cases h; done) | (have h2 := encSt_inj rfl (Prod.mk.inj h).2; simp [] at h2; simp [h2]) | (have h2 := (Prod.mk.inj h).1; simp at h2) | rfl)
abbrev o_ref6_Near (v : Bool) : VtsT outs28 × MtsT mouts28 := ((v, ()), ())
abbrev encO_ref6_Near (v : Bool) : R := (encR outs28 (o_ref6_Near v).1, encMts mouts28 (o_ref6_Near v).2)
theorem injO_ref6_Near : ∀ a b, encO_ref6_Near a = encO_ref6_Near b → a = b := by
  rintro a0 b0 h
  have h1 := encR_inj (Prod.mk.inj h).1
  have h2 := encMts_inj (Prod.mk.inj h).2
  simp [o_ref6_Near] at h1 h2
  simp [h1, h2]
noncomputable abbrev X_ref6_Near (v1 : I3) (most2 : Int) (n : Nat) : Option R := (lvl Try.prog HH n).2 28 [.s (.agg true [.v (.int .i64 v1.c0), .v (.int .i64 v1.c1), .v (.int .i64 v1.c2)]), .s (.one (.v (.int .i64 most2)))] []
noncomputable def F_ref6_Near (v1 : I3) (most2 : Int) : Option Bool := den encO_ref6_Near (X_ref6_Near v1 most2)
theorem lim_ref6_Near (k : Nat) (v1 : I3) (most2 : Int) : Lim (fun v => (encR outs28 (o_ref6_Near v).1, encMts mouts28 (o_ref6_Near v).2)) (fun n => (lvl Try.prog HH (n + k)).2 28 [.s (.agg true [.v (.int .i64 v1.c0), .v (.int .i64 v1.c1), .v (.int .i64 v1.c2)]), .s (.one (.v (.int .i64 most2)))] []) (F_ref6_Near v1 most2) := Lim.den (x := (X_ref6_Near v1 most2)) k
theorem F_ref6_Near_of (v1 : I3) (most2 : Int) : ∀ r, ((
    Option.bind (α := E_ref6_Near_0) (
      letIn (IntKind.wrap .i64 (0 - most2) : Int) fun n3 =>
      bif decide (v1.c0 < n3) then (
        some (.inl false))
      else
      bif decide (v1.c0 > most2) then (
        some (.inl false))
      else
      letIn (IntKind.wrap .i64 (0 - most2) : Int) fun n4 =>
      bif decide (v1.c1 < n4) then (
        some (.inl false))
      else
      bif decide (v1.c1 > most2) then (
        some (.inl false))
      else
      letIn (IntKind.wrap .i64 (0 - most2) : Int) fun n5 =>
      bif decide (v1.c2 < n5) then (
        some (.inl false))
      else
      bif decide (v1.c2 > most2) then (
        some (.inl false))
      else
      some (.inr (()))) fun p6 =>
    match p6 with
    | .inl e7 => (
      some e7)
    | .inr e8 => (
      some true)) : Option Bool) = some r →
    F_ref6_Near v1 most2 = some r := fun r h =>
  den_of (x := (X_ref6_Near v1 most2)) injO_ref6_Near 5 (Lim.cong (fun n => fn28 n v1.c0 v1.c1 v1.c2 most2) (by
      refine Lim.bind (e := enc_L_ref6_Near_0) ?_ fun p6 => ?_
      · refine Lim.letIn rfl fun n3 => ?_
        refine Lim.bif rfl ?_ ?_
        · exact Lim.leaf rfl
        refine Lim.bif rfl ?_ ?_
        · exact Lim.leaf rfl
        refine Lim.letIn rfl fun n4 => ?_
        refine Lim.bif rfl ?_ ?_
        · exact Lim.leaf rfl
        refine Lim.bif rfl ?_ ?_
        · exact Lim.leaf rfl
        refine Lim.letIn rfl fun n5 => ?_
        refine Lim.bif rfl ?_ ?_
        · exact Lim.leaf rfl
        refine Lim.bif rfl ?_ ?_
        · exact Lim.leaf rfl
        exact Lim.leaf rfl
      rcases p6 with e7 | e8
      · refine Lim.exit (.ret) S28_0_r ((e7, ()), ()) rfl rfl rfl ?_
        exact Lim.leaf rfl
      · refine Lim.bifF rfl ?_
        refine Lim.exit (.exit 0) S28_0_e0 ((), ()) rfl rfl rfl ?_
        exact Lim.leaf rfl
    )) h
def G_ref6_Near (v1 : I3) (most2 : Int) : Bool :=
  letIn (α := E_ref6_Near_0) (
    letIn (IntKind.wrap .i64 (0 - most2) : Int) fun n3 =>
    bif decide (v1.c0 < n3) then (
      (.inl false))
    else
    bif decide (v1.c0 > most2) then (
      (.inl false))
    else
    letIn (IntKind.wrap .i64 (0 - most2) : Int) fun n4 =>
    bif decide (v1.c1 < n4) then (
      (.inl false))
    else
    bif decide (v1.c1 > most2) then (
      (.inl false))
    else
    letIn (IntKind.wrap .i64 (0 - most2) : Int) fun n5 =>
    bif decide (v1.c2 < n5) then (
      (.inl false))
    else
    bif decide (v1.c2 > most2) then (
      (.inl false))
    else
    (.inr (()))) fun p6 =>
  match p6 with
  | .inl e7 => (
    e7)
  | .inr e8 => (
    true)
theorem F_ref6_Near_eq (v1 : I3) (most2 : Int) : F_ref6_Near v1 most2 = some (G_ref6_Near v1 most2) := F_ref6_Near_of v1 most2 _ (by
  unfold G_ref6_Near
  refine Tot.bind ?_ fun p6 => ?_
  · refine Tot.letIn fun n3 => ?_
    refine Tot.bif ?_ ?_
    · rfl
    refine Tot.bif ?_ ?_
    · rfl
    refine Tot.letIn fun n4 => ?_
    refine Tot.bif ?_ ?_
    · rfl
    refine Tot.bif ?_ ?_
    · rfl
    refine Tot.letIn fun n5 => ?_
    refine Tot.bif ?_ ?_
    · rfl
    refine Tot.bif ?_ ?_
    · rfl
    rfl
  rcases p6 with e7 | e8
  · rfl
  · rfl)

/-! armplan/armplanref10.Usable -/
abbrev o_ref10_Usable (v : Bool) : VtsT outs15 × MtsT mouts15 := ((v, ()), ())
abbrev encO_ref10_Usable (v : Bool) : R := (encR outs15 (o_ref10_Usable v).1, encMts mouts15 (o_ref10_Usable v).2)
theorem injO_ref10_Usable : ∀ a b, encO_ref10_Usable a = encO_ref10_Usable b → a = b := by
  rintro a0 b0 h
  have h1 := encR_inj (Prod.mk.inj h).1
  have h2 := encMts_inj (Prod.mk.inj h).2
  simp [o_ref10_Usable] at h1 h2
  simp [h1, h2]
noncomputable abbrev X_ref10_Usable (n1 : I3) (n : Nat) : Option R := (lvl Try.prog HH n).2 15 [.s (.agg true [.v (.int .i64 n1.c0), .v (.int .i64 n1.c1), .v (.int .i64 n1.c2)])] []
noncomputable def F_ref10_Usable (n1 : I3) : Option Bool := den encO_ref10_Usable (X_ref10_Usable n1)
theorem lim_ref10_Usable (k : Nat) (n1 : I3) : Lim (fun v => (encR outs15 (o_ref10_Usable v).1, encMts mouts15 (o_ref10_Usable v).2)) (fun n => (lvl Try.prog HH (n + k)).2 15 [.s (.agg true [.v (.int .i64 n1.c0), .v (.int .i64 n1.c1), .v (.int .i64 n1.c2)])] []) (F_ref10_Usable n1) := Lim.den (x := (X_ref10_Usable n1)) k
theorem F_ref10_Usable_of (n1 : I3) : ∀ r, ((
    letIn (!((n1.c0 == 0) && ((n1.c1 == 0) && ((n1.c2 == 0) && true))) : Bool) fun b2 =>
    bif b2 then (
      (F_ref6_Near n1 16384).bind fun y3 =>
      some y3)
    else
    some false) : Option Bool) = some r →
    F_ref10_Usable n1 = some r := fun r h =>
  den_of (x := (X_ref10_Usable n1)) injO_ref10_Usable 1 (Lim.cong (fun n => fn15 n n1.c0 n1.c1 n1.c2) (by
      refine Lim.letIn rfl fun b2 => ?_
      refine Lim.bif rfl ?_ ?_
      · refine Lim.call o_ref6_Near (lim_ref6_Near 0 n1 16384) rfl rfl fun y3 => ?_
        exact Lim.leaf rfl
      exact Lim.leaf rfl
    )) h
def G_ref10_Usable (n1 : I3) : Bool :=
  letIn (!((n1.c0 == 0) && ((n1.c1 == 0) && ((n1.c2 == 0) && true))) : Bool) fun b2 =>
  bif b2 then (
    letIn (G_ref6_Near n1 16384) fun y3 =>
    y3)
  else
  false
theorem F_ref10_Usable_eq (n1 : I3) : F_ref10_Usable n1 = some (G_ref10_Usable n1) := F_ref10_Usable_of n1 _ (by
  unfold G_ref10_Usable
  refine Tot.letIn fun b2 => ?_
  refine Tot.bif ?_ ?_
  · refine Tot.bind (F_ref6_Near_eq n1 16384) fun y3 => ?_
    rfl
  rfl)

/-! armplan/armplanmake.Normal -/
abbrev o_make_Normal (v : I3) : VtsT outs6 × MtsT mouts6 := (((v.c0, v.c1, v.c2, ()), ()), ())
abbrev encO_make_Normal (v : I3) : R := (encR outs6 (o_make_Normal v).1, encMts mouts6 (o_make_Normal v).2)
theorem injO_make_Normal : ∀ a b, encO_make_Normal a = encO_make_Normal b → a = b := by
  rintro ⟨a0, a1, a2⟩ ⟨b0, b1, b2⟩ h
  have h1 := encR_inj (Prod.mk.inj h).1
  have h2 := encMts_inj (Prod.mk.inj h).2
  simp [o_make_Normal] at h1 h2
  simp [h1, h2]
noncomputable abbrev X_make_Normal (a1 : Int) (b2 : Int) (c3 : Int) (n : Nat) : Option R := (lvl Try.prog HH n).2 6 [.s (.one (.v (.int .i64 a1))), .s (.one (.v (.int .i64 b2))), .s (.one (.v (.int .i64 c3)))] []
noncomputable def F_make_Normal (a1 : Int) (b2 : Int) (c3 : Int) : Option I3 := den encO_make_Normal (X_make_Normal a1 b2 c3)
theorem lim_make_Normal (k : Nat) (a1 : Int) (b2 : Int) (c3 : Int) : Lim (fun v => (encR outs6 (o_make_Normal v).1, encMts mouts6 (o_make_Normal v).2)) (fun n => (lvl Try.prog HH (n + k)).2 6 [.s (.one (.v (.int .i64 a1))), .s (.one (.v (.int .i64 b2))), .s (.one (.v (.int .i64 c3)))] []) (F_make_Normal a1 b2 c3) := Lim.den (x := (X_make_Normal a1 b2 c3)) k
theorem F_make_Normal_of (a1 : Int) (b2 : Int) (c3 : Int) : ∀ r, ((
    (F_make_Round a1 41).bind fun y4 =>
    letIn (IntKind.wrap .i64 (y4 - 20) : Int) fun n5 =>
    (F_make_Round b2 41).bind fun y6 =>
    letIn (IntKind.wrap .i64 (y6 - 20) : Int) fun n7 =>
    (F_make_Round c3 41).bind fun y8 =>
    letIn (IntKind.wrap .i64 (y8 - 20) : Int) fun n9 =>
    letIn (IntKind.wrap .i64 ((BitVec.ofInt 64 a1 &&& BitVec.ofInt 64 8).toNat : Nat) : Int) fun n10 =>
    bif n10 == 8 then (
      (F_make_Round a1 32769).bind fun y11 =>
      letIn (IntKind.wrap .i64 (y11 - 16384) : Int) fun n12 =>
      (F_make_Round b2 32769).bind fun y13 =>
      letIn (IntKind.wrap .i64 (y13 - 16384) : Int) fun n14 =>
      (F_make_Round c3 32769).bind fun y15 =>
      letIn (IntKind.wrap .i64 (y15 - 16384) : Int) fun n16 =>
      (F_ref10_Usable ((I3.mk n12 n14 n16))).bind fun y17 =>
      bif !y17 then (
        some ((I3.mk 1 0 0)))
      else
      some ((I3.mk n12 n14 n16)))
    else
    (F_ref10_Usable ((I3.mk n5 n7 n9))).bind fun y18 =>
    bif !y18 then (
      some ((I3.mk 1 0 0)))
    else
    some ((I3.mk n5 n7 n9))) : Option I3) = some r →
    F_make_Normal a1 b2 c3 = some r := fun r h =>
  den_of (x := (X_make_Normal a1 b2 c3)) injO_make_Normal 1 (Lim.cong (fun n => fn6 n a1 b2 c3) (by
      refine Lim.call o_make_Round (lim_make_Round 0 a1 41) rfl rfl fun y4 => ?_
      refine Lim.letIn rfl fun n5 => ?_
      refine Lim.call o_make_Round (lim_make_Round 0 b2 41) rfl rfl fun y6 => ?_
      refine Lim.letIn rfl fun n7 => ?_
      refine Lim.call o_make_Round (lim_make_Round 0 c3 41) rfl rfl fun y8 => ?_
      refine Lim.letIn rfl fun n9 => ?_
      refine Lim.letIn rfl fun n10 => ?_
      refine Lim.bif rfl ?_ ?_
      · refine Lim.call o_make_Round (lim_make_Round 0 a1 32769) rfl rfl fun y11 => ?_
        refine Lim.letIn rfl fun n12 => ?_
        refine Lim.call o_make_Round (lim_make_Round 0 b2 32769) rfl rfl fun y13 => ?_
        refine Lim.letIn rfl fun n14 => ?_
        refine Lim.call o_make_Round (lim_make_Round 0 c3 32769) rfl rfl fun y15 => ?_
        refine Lim.letIn rfl fun n16 => ?_
        refine Lim.call o_ref10_Usable (lim_ref10_Usable 0 ((I3.mk n12 n14 n16))) rfl rfl fun y17 => ?_
        refine Lim.bif rfl ?_ ?_
        · exact Lim.leaf rfl
        exact Lim.leaf rfl
      refine Lim.call o_ref10_Usable (lim_ref10_Usable 0 ((I3.mk n5 n7 n9))) rfl rfl fun y18 => ?_
      refine Lim.bif rfl ?_ ?_
      · exact Lim.leaf rfl
      exact Lim.leaf rfl
    )) h

/-! armplan/armplanmake.From -/
abbrev o_make_From (v : LI_I) : VtsT outs21 × MtsT mouts21 := (((), ()), (((List.map encI v.c0), v.c1, ()), ()))
abbrev encO_make_From (v : LI_I) : R := (encR outs21 (o_make_From v).1, encMts mouts21 (o_make_From v).2)
theorem injO_make_From : ∀ a b, encO_make_From a = encO_make_From b → a = b := by
  rintro ⟨a0, a1⟩ ⟨b0, b1⟩ h
  have h1 := encR_inj (Prod.mk.inj h).1
  have h2 := encMts_inj (Prod.mk.inj h).2
  simp [o_make_From, map_inj encI_inj] at h1 h2
  simp [h1, h2]
noncomputable abbrev X_make_From (l1 : List Int) (n : Nat) : Option R := (lvl Try.prog HH n).2 21 [.s (.one (.fr 1 (List.map encI l1)))] []
noncomputable def F_make_From (l1 : List Int) : Option LI_I := den encO_make_From (X_make_From l1)
theorem lim_make_From (k : Nat) (l1 : List Int) : Lim (fun v => (encR outs21 (o_make_From v).1, encMts mouts21 (o_make_From v).2)) (fun n => (lvl Try.prog HH (n + k)).2 21 [.s (.one (.fr 1 (List.map encI l1)))] []) (F_make_From l1) := Lim.den (x := (X_make_From l1)) k
theorem F_make_From_of (l1 : List Int) : ∀ r, ((
    some ((LI_I.mk l1 0))) : Option LI_I) = some r →
    F_make_From l1 = some r := fun r h =>
  den_of (x := (X_make_From l1)) injO_make_From 1 (Lim.cong (fun n => fn21 n ((List.map encI l1))) (by
      exact Lim.leaf rfl
    )) h
def G_make_From (l1 : List Int) : LI_I :=
  ((LI_I.mk l1 0))
theorem F_make_From_eq (l1 : List Int) : F_make_From l1 = some (G_make_From l1) := F_make_From_of l1 _ (by
  unfold G_make_From
  rfl)

/-! (*armplan/armplanmake.Source).Next -/
abbrev o_make_Source_Next (v : Int × LI_I) : VtsT outs23 × MtsT mouts23 := ((v.1, ()), (((List.map encI v.2.c0), v.2.c1, ()), ()))
abbrev encO_make_Source_Next (v : Int × LI_I) : R := (encR outs23 (o_make_Source_Next v).1, encMts mouts23 (o_make_Source_Next v).2)
theorem injO_make_Source_Next : ∀ a b, encO_make_Source_Next a = encO_make_Source_Next b → a = b := by
  rintro ⟨a0, ⟨a1, a2⟩⟩ ⟨b0, ⟨b1, b2⟩⟩ h
  have h1 := encR_inj (Prod.mk.inj h).1
  have h2 := encMts_inj (Prod.mk.inj h).2
  simp [o_make_Source_Next, map_inj encI_inj] at h1 h2
  simp [h1, h2]
noncomputable abbrev X_make_Source_Next (k1 : Int) (c2 : LI_I) (n : Nat) : Option R := (lvl Try.prog HH n).2 23 [.s (.one (.ptr 0 0 0)), .s (.one (.v (.int .i64 k1)))] [.own 2 true [[.fr 1 (List.map encI c2.c0), .v (.int .i64 c2.c1)]]]
noncomputable def F_make_Source_Next (k1 : Int) (c2 : LI_I) : Option (Int × LI_I) := den encO_make_Source_Next (X_make_Source_Next k1 c2)
theorem lim_make_Source_Next (k : Nat) (k1 : Int) (c2 : LI_I) : Lim (fun v => (encR outs23 (o_make_Source_Next v).1, encMts mouts23 (o_make_Source_Next v).2)) (fun n => (lvl Try.prog HH (n + k)).2 23 [.s (.one (.ptr 0 0 0)), .s (.one (.v (.int .i64 k1)))] [.own 2 true [[.fr 1 (List.map encI c2.c0), .v (.int .i64 c2.c1)]]]) (F_make_Source_Next k1 c2) := Lim.den (x := (X_make_Source_Next k1 c2)) k
theorem F_make_Source_Next_of (k1 : Int) (c2 : LI_I) : ∀ r, ((
    bif decide (c2.c1 ≥ (((c2.c0.length : Nat) : Int))) then (
      some (0, (LI_I.mk c2.c0 c2.c1)))
    else
    letIn (IntKind.wrap .i64 (c2.c1 + 1) : Int) fun n3 =>
    letIn (IntKind.wrap .i64 (n3 - 1) : Int) fun n4 =>
    bif decide (0 ≤ n4) then (
      (nth c2.c0 n4.toNat).bind fun x5 =>
      (F_make_Round x5 k1).bind fun y6 =>
      some (y6, (LI_I.mk c2.c0 n3)))
    else
    none) : Option (Int × LI_I)) = some r →
    F_make_Source_Next k1 c2 = some r := fun r h =>
  den_of (x := (X_make_Source_Next k1 c2)) injO_make_Source_Next 1 (Lim.cong (fun n => fn23s0 n k1 ((List.map encI c2.c0)) c2.c1) (by
      refine Lim.bif (by first | with_reducible rfl | (simp only [List.map_replicate, map_upd]; rfl) | (simp [map_upd] <;> rfl) | rfl) ?_ ?_
      · exact Lim.leaf rfl
      refine Lim.letIn rfl fun n3 => ?_
      refine Lim.letIn rfl fun n4 => ?_
      refine Lim.bif rfl ?_ Lim.none_
      refine Lim.nth encI rfl rfl fun x5 => ?_
      refine Lim.step rfl ?_
      refine Lim.step rfl ?_
      refine Lim.call o_make_Round (lim_make_Round 0 x5 k1) rfl rfl fun y6 => ?_
      exact Lim.leaf rfl
    )) h

/-! (*armplan/armplanmake.Source).Signed -/
abbrev o_make_Source_Signed (v : Int × LI_I) : VtsT outs22 × MtsT mouts22 := ((v.1, ()), (((List.map encI v.2.c0), v.2.c1, ()), ()))
abbrev encO_make_Source_Signed (v : Int × LI_I) : R := (encR outs22 (o_make_Source_Signed v).1, encMts mouts22 (o_make_Source_Signed v).2)
theorem injO_make_Source_Signed : ∀ a b, encO_make_Source_Signed a = encO_make_Source_Signed b → a = b := by
  rintro ⟨a0, ⟨a1, a2⟩⟩ ⟨b0, ⟨b1, b2⟩⟩ h
  have h1 := encR_inj (Prod.mk.inj h).1
  have h2 := encMts_inj (Prod.mk.inj h).2
  simp [o_make_Source_Signed, map_inj encI_inj] at h1 h2
  simp [h1, h2]
noncomputable abbrev X_make_Source_Signed (k1 : Int) (c2 : LI_I) (n : Nat) : Option R := (lvl Try.prog HH n).2 22 [.s (.one (.ptr 0 0 0)), .s (.one (.v (.int .i64 k1)))] [.own 2 true [[.fr 1 (List.map encI c2.c0), .v (.int .i64 c2.c1)]]]
noncomputable def F_make_Source_Signed (k1 : Int) (c2 : LI_I) : Option (Int × LI_I) := den encO_make_Source_Signed (X_make_Source_Signed k1 c2)
theorem lim_make_Source_Signed (k : Nat) (k1 : Int) (c2 : LI_I) : Lim (fun v => (encR outs22 (o_make_Source_Signed v).1, encMts mouts22 (o_make_Source_Signed v).2)) (fun n => (lvl Try.prog HH (n + k)).2 22 [.s (.one (.ptr 0 0 0)), .s (.one (.v (.int .i64 k1)))] [.own 2 true [[.fr 1 (List.map encI c2.c0), .v (.int .i64 c2.c1)]]]) (F_make_Source_Signed k1 c2) := Lim.den (x := (X_make_Source_Signed k1 c2)) k
theorem F_make_Source_Signed_of (k1 : Int) (c2 : LI_I) : ∀ r, ((
    letIn (IntKind.wrap .i64 (2 * k1) : Int) fun n3 =>
    letIn (IntKind.wrap .i64 (n3 + 1) : Int) fun n4 =>
    (F_make_Source_Next n4 c2).bind fun y5 =>
    letIn (IntKind.wrap .i64 (y5.1 - k1) : Int) fun n6 =>
    some (n6, y5.2)) : Option (Int × LI_I)) = some r →
    F_make_Source_Signed k1 c2 = some r := fun r h =>
  den_of (x := (X_make_Source_Signed k1 c2)) injO_make_Source_Signed 1 (Lim.cong (fun n => fn22s0 n k1 ((List.map encI c2.c0)) c2.c1) (by
      refine Lim.letIn rfl fun n3 => ?_
      refine Lim.letIn rfl fun n4 => ?_
      refine Lim.call o_make_Source_Next (lim_make_Source_Next 0 n4 c2) rfl rfl fun y5 => ?_
      refine Lim.letIn rfl fun n6 => ?_
      exact Lim.leaf rfl
    )) h

/-! armplan/armplanmake.Points -/
abbrev E_make_Points_0 : Type := ((List I6))
def enc_L_make_Points_0 (e : E_make_Points_0) : Ex × St := (.exit 0, encSt S12_0_e0 (((), ()), ((List.map encI6 e), ())))
theorem inj_L_make_Points_0 : ∀ a b, enc_L_make_Points_0 a = enc_L_make_Points_0 b → a = b := by
  rintro a0 b0 h
  first | (cases h; done) | (have h2 := encSt_inj rfl (Prod.mk.inj h).2; simp [map_inj encI6_inj] at h2; simp [h2]) | (have h2 := (Prod.mk.inj h).1; simp at h2) | rfl
abbrev E_make_Points_2 : Type := (Int × Int × LI_I × I3 × (List I6) × I6)
def enc_L_make_Points_2 (e : E_make_Points_2) : Ex × St := (.exit 2, encSt S12_2_e2 ((e.1, (), (), (), e.2.1, (), ()), (((List.map encI e.2.2.1.c0), e.2.2.1.c1, ()), (e.2.2.2.1.c0, e.2.2.2.1.c1, e.2.2.2.1.c2, ()), (List.map encI6 e.2.2.2.2.1), (e.2.2.2.2.2.c0, e.2.2.2.2.2.c1, e.2.2.2.2.2.c2, e.2.2.2.2.2.c3, e.2.2.2.2.2.c4, e.2.2.2.2.2.c5, ()), ())))
theorem inj_L_make_Points_2 : ∀ a b, enc_L_make_Points_2 a = enc_L_make_Points_2 b → a = b := by
  rintro ⟨a0, a1, ⟨a2, a3⟩, ⟨a4, a5, a6⟩, a7, ⟨a8, a9, a10, a11, a12, a13⟩⟩ ⟨b0, b1, ⟨b2, b3⟩, ⟨b4, b5, b6⟩, b7, ⟨b8, b9, b10, b11, b12, b13⟩⟩ h
  first | (cases h; done) | (have h2 := encSt_inj rfl (Prod.mk.inj h).2; simp [map_inj encI6_inj, map_inj encI_inj] at h2; simp [h2]) | (have h2 := (Prod.mk.inj h).1; simp at h2) | rfl
noncomputable abbrev X_L_make_Points_0 (v12 : Int) (v13 : Int) (c14 : LI_I) (c15 : I3) (es16 : List I6) (n : Nat) : Option (Ex × St) := (lvl Try.prog HH n).1 ⟨12, 0, true⟩ 0 (loopOf Try.f12 0) (encSt S12_0 ((v12, (), (), (), v13, ()), (((List.map encI c14.c0), c14.c1, ()), (c15.c0, c15.c1, c15.c2, ()), (List.map encI6 es16), ())))
noncomputable def L_make_Points_0 (v12 : Int) (v13 : Int) (c14 : LI_I) (c15 : I3) (es16 : List I6) : Option E_make_Points_0 := den enc_L_make_Points_0 (X_L_make_Points_0 v12 v13 c14 c15 es16)
theorem L_make_Points_0_of (v12 : Int) (v13 : Int) (c14 : LI_I) (c15 : I3) (es16 : List I6) : ∀ r, ((
    bif decide (v13 > 0) then (
      Option.bind (α := E_make_Points_2) (
        (F_make_Source_Signed 4 c14).bind fun y17 =>
        letIn (IntKind.wrap .i64 (y17.1 * 32768) : Int) fun n18 =>
        letIn (IntKind.wrap .i64 (c15.c0 + n18) : Int) fun n19 =>
        (F_make_Source_Signed 9 y17.2).bind fun y20 =>
        letIn (IntKind.wrap .i64 (n19 + y20.1) : Int) fun n21 =>
        letIn (IntKind.wrap .i64 (v12 + 1) : Int) fun n22 =>
        (F_make_Source_Next n22 y20.2).bind fun y23 =>
        letIn (IntKind.wrap .i64 (n21 + y23.1) : Int) fun n24 =>
        (F_make_Source_Signed 4 y23.2).bind fun y25 =>
        letIn (IntKind.wrap .i64 (y25.1 * 32768) : Int) fun n26 =>
        letIn (IntKind.wrap .i64 (c15.c1 + n26) : Int) fun n27 =>
        (F_make_Source_Signed 9 y25.2).bind fun y28 =>
        letIn (IntKind.wrap .i64 (n27 + y28.1) : Int) fun n29 =>
        letIn (IntKind.wrap .i64 (v12 + 1) : Int) fun n30 =>
        (F_make_Source_Next n30 y28.2).bind fun y31 =>
        letIn (IntKind.wrap .i64 (n29 + y31.1) : Int) fun n32 =>
        (F_make_Source_Signed 4 y31.2).bind fun y33 =>
        letIn (IntKind.wrap .i64 (y33.1 * 32768) : Int) fun n34 =>
        letIn (IntKind.wrap .i64 (c15.c2 + n34) : Int) fun n35 =>
        (F_make_Source_Signed 9 y33.2).bind fun y36 =>
        letIn (IntKind.wrap .i64 (n35 + y36.1) : Int) fun n37 =>
        letIn (IntKind.wrap .i64 (v12 + 1) : Int) fun n38 =>
        (F_make_Source_Next n38 y36.2).bind fun y39 =>
        letIn (IntKind.wrap .i64 (n37 + y39.1) : Int) fun n40 =>
        some ((v12, v13, y39.2, c15, es16, (I6.mk n21 n24 n29 n32 n37 n40)))) fun p41 =>
      bif decide ((p41.2.2.2.2.1.length + 1) * 48 ≤ 140737488355328) then (
        letIn (IntKind.wrap .i64 (p41.2.1 - 1) : Int) fun n42 =>
        L_make_Points_0 p41.1 n42 p41.2.2.1 p41.2.2.2.1 (p41.2.2.2.2.1 ++ [p41.2.2.2.2.2]))
      else
      none)
    else
    some es16) : Option E_make_Points_0) = some r →
    L_make_Points_0 v12 v13 c14 c15 es16 = some r := fun r h =>
  den_of (x := (X_L_make_Points_0 v12 v13 c14 c15 es16)) inj_L_make_Points_0 5 (Lim.cong (fun n => loop12_0 n v12 v13 ((List.map encI c14.c0)) c14.c1 c15.c0 c15.c1 c15.c2 ((List.map encI6 es16))) (by
      refine Lim.bif rfl ?_ ?_
      · refine Lim.bind (e := enc_L_make_Points_2) ?_ fun p41 => ?_
        · refine Lim.call o_make_Source_Signed (lim_make_Source_Signed 3 4 c14) rfl rfl fun y17 => ?_
          refine Lim.letIn rfl fun n18 => ?_
          refine Lim.letIn rfl fun n19 => ?_
          refine Lim.call o_make_Source_Signed (lim_make_Source_Signed 3 9 y17.2) rfl rfl fun y20 => ?_
          refine Lim.letIn rfl fun n21 => ?_
          refine Lim.letIn rfl fun n22 => ?_
          refine Lim.call o_make_Source_Next (lim_make_Source_Next 3 n22 y20.2) rfl rfl fun y23 => ?_
          refine Lim.letIn rfl fun n24 => ?_
          refine Lim.call o_make_Source_Signed (lim_make_Source_Signed 2 4 y23.2) rfl rfl fun y25 => ?_
          refine Lim.letIn rfl fun n26 => ?_
          refine Lim.letIn rfl fun n27 => ?_
          refine Lim.call o_make_Source_Signed (lim_make_Source_Signed 2 9 y25.2) rfl rfl fun y28 => ?_
          refine Lim.letIn rfl fun n29 => ?_
          refine Lim.letIn rfl fun n30 => ?_
          refine Lim.call o_make_Source_Next (lim_make_Source_Next 2 n30 y28.2) rfl rfl fun y31 => ?_
          refine Lim.letIn rfl fun n32 => ?_
          refine Lim.call o_make_Source_Signed (lim_make_Source_Signed 1 4 y31.2) rfl rfl fun y33 => ?_
          refine Lim.letIn rfl fun n34 => ?_
          refine Lim.letIn rfl fun n35 => ?_
          refine Lim.call o_make_Source_Signed (lim_make_Source_Signed 1 9 y33.2) rfl rfl fun y36 => ?_
          refine Lim.letIn rfl fun n37 => ?_
          refine Lim.letIn rfl fun n38 => ?_
          refine Lim.call o_make_Source_Next (lim_make_Source_Next 1 n38 y36.2) rfl rfl fun y39 => ?_
          refine Lim.letIn rfl fun n40 => ?_
          exact Lim.leaf rfl
        refine Lim.exit (.exit 2) S12_2_e2 ((p41.1, (), (), (), p41.2.1, (), ()), (((List.map encI p41.2.2.1.c0), p41.2.2.1.c1, ()), (p41.2.2.2.1.c0, p41.2.2.2.1.c1, p41.2.2.2.1.c2, ()), (List.map encI6 p41.2.2.2.2.1), (p41.2.2.2.2.2.c0, p41.2.2.2.2.2.c1, p41.2.2.2.2.2.c2, p41.2.2.2.2.2.c3, p41.2.2.2.2.2.c4, p41.2.2.2.2.2.c5, ()), ())) rfl rfl rfl ?_
        refine Lim.bif (by first | with_reducible rfl | (simp [map_upd, o_make_From, o_make_Source_Signed, o_make_Source_Next] <;> rfl) | (simp only [List.map_append, List.map_cons, List.map_nil, List.map_take, List.map_drop, map_upd, List.map_replicate, List.length_map, o_make_From, o_make_Source_Signed, o_make_Source_Next] <;> rfl) | (simp only [List.map_append, List.map_cons, List.map_nil, List.map_take, List.map_drop, map_upd, List.map_replicate, List.length_map, List.length_append, List.length_cons, List.length_nil, o_make_From, o_make_Source_Signed, o_make_Source_Next] <;> rfl) | rfl) ?_ Lim.none_
        refine Lim.letIn rfl fun n42 => ?_
        exact Lim.loop 4 (by first | with_reducible rfl | (simp [map_upd, o_make_From, o_make_Source_Signed, o_make_Source_Next] <;> rfl) | (simp only [List.map_append, List.map_cons, List.map_nil, List.map_take, List.map_drop, map_upd, List.map_replicate, List.length_map, o_make_From, o_make_Source_Signed, o_make_Source_Next] <;> rfl) | (simp only [List.map_append, List.map_cons, List.map_nil, List.map_take, List.map_drop, map_upd, List.map_replicate, List.length_map, List.length_append, List.length_cons, List.length_nil, o_make_From, o_make_Source_Signed, o_make_Source_Next] <;> rfl) | rfl)
      exact Lim.leaf rfl
    )) h
abbrev o_make_Points (v : (List I6)) : VtsT outs12 × MtsT mouts12 := (((), ()), ((List.map encI6 v), ()))
abbrev encO_make_Points (v : (List I6)) : R := (encR outs12 (o_make_Points v).1, encMts mouts12 (o_make_Points v).2)
theorem injO_make_Points : ∀ a b, encO_make_Points a = encO_make_Points b → a = b := by
  rintro a0 b0 h
  have h1 := encR_inj (Prod.mk.inj h).1
  have h2 := encMts_inj (Prod.mk.inj h).2
  simp [o_make_Points, map_inj encI6_inj] at h1 h2
  simp [h1, h2]
noncomputable abbrev X_make_Points (l1 : List Int) (width2 : Int) (n : Nat) : Option R := (lvl Try.prog HH n).2 12 [.s (.one (.fr 1 (List.map encI l1))), .s (.one (.v (.int .i64 width2)))] []
noncomputable def F_make_Points (l1 : List Int) (width2 : Int) : Option ((List I6)) := den encO_make_Points (X_make_Points l1 width2)
theorem lim_make_Points (k : Nat) (l1 : List Int) (width2 : Int) : Lim (fun v => (encR outs12 (o_make_Points v).1, encMts mouts12 (o_make_Points v).2)) (fun n => (lvl Try.prog HH (n + k)).2 12 [.s (.one (.fr 1 (List.map encI l1))), .s (.one (.v (.int .i64 width2)))] []) (F_make_Points l1 width2) := Lim.den (x := (X_make_Points l1 width2)) k
theorem F_make_Points_of (l1 : List Int) (width2 : Int) : ∀ r, ((
    (F_make_From l1).bind fun y3 =>
    (F_make_Source_Signed 6 y3).bind fun y4 =>
    letIn (IntKind.wrap .i64 (y4.1 * 32768) : Int) fun n5 =>
    (F_make_Source_Signed 6 y4.2).bind fun y6 =>
    letIn (IntKind.wrap .i64 (y6.1 * 32768) : Int) fun n7 =>
    (F_make_Source_Signed 3 y6.2).bind fun y8 =>
    letIn (IntKind.wrap .i64 (y8.1 * 32768) : Int) fun n9 =>
    (F_make_Source_Next 5 y8.2).bind fun y10 =>
    letIn (IntKind.wrap .i64 (1 + y10.1) : Int) fun n11 =>
    (L_make_Points_0 width2 n11 y10.2 ((I3.mk n5 n7 n9)) []).bind fun p43 =>
    some p43) : Option ((List I6))) = some r →
    F_make_Points l1 width2 = some r := fun r h =>
  den_of (x := (X_make_Points l1 width2)) injO_make_Points 1 (Lim.cong (fun n => fn12 n ((List.map encI l1)) width2) (by
      refine Lim.call o_make_From (lim_make_From 0 l1) rfl rfl fun y3 => ?_
      refine Lim.call o_make_Source_Signed (lim_make_Source_Signed 0 6 y3) rfl rfl fun y4 => ?_
      refine Lim.letIn rfl fun n5 => ?_
      refine Lim.call o_make_Source_Signed (lim_make_Source_Signed 0 6 y4.2) rfl rfl fun y6 => ?_
      refine Lim.letIn rfl fun n7 => ?_
      refine Lim.call o_make_Source_Signed (lim_make_Source_Signed 0 3 y6.2) rfl rfl fun y8 => ?_
      refine Lim.letIn rfl fun n9 => ?_
      refine Lim.call o_make_Source_Next (lim_make_Source_Next 0 5 y8.2) rfl rfl fun y10 => ?_
      refine Lim.letIn rfl fun n11 => ?_
      refine Lim.bind (show Lim enc_L_make_Points_0 _ (L_make_Points_0 width2 n11 y10.2 ((I3.mk n5 n7 n9)) []) from Lim.loop 0 (by first | with_reducible rfl | (simp [map_upd, o_make_From, o_make_Source_Signed, o_make_Source_Next] <;> rfl) | (simp only [List.map_append, List.map_cons, List.map_nil, List.map_take, List.map_drop, map_upd, List.map_replicate, List.length_map, o_make_From, o_make_Source_Signed, o_make_Source_Next] <;> rfl) | (simp only [List.map_append, List.map_cons, List.map_nil, List.map_take, List.map_drop, map_upd, List.map_replicate, List.length_map, List.length_append, List.length_cons, List.length_nil, o_make_From, o_make_Source_Signed, o_make_Source_Next] <;> rfl) | rfl)) fun p43 => ?_
      refine Lim.exit (.exit 0) S12_0_e0 (((), ()), ((List.map encI6 p43), ())) rfl rfl rfl ?_
      exact Lim.leaf rfl
    )) h

/-! armplan/support.fits -/
abbrev E_support_fits_0 : Type := (Bool) ⊕ (Unit)
def enc_L_support_fits_0 : E_support_fits_0 → Ex × St
  | .inl e => (.ret, encSt S19_0_r ((e, ()), ()))
  | .inr e => (.exit 0, encSt S19_0_e0 ((), ()))
theorem inj_L_support_fits_0 : ∀ a b, enc_L_support_fits_0 a = enc_L_support_fits_0 b → a = b := by
  rintro (a0 | _) (b0 | _) h <;> (first | (cases h; done) | (have h2 := encSt_inj rfl (Prod.mk.inj h).2; simp [] at h2; simp [h2]) | (have h2 := (Prod.mk.inj h).1; simp at h2) | rfl)
abbrev o_support_fits (v : Bool) : VtsT outs19 × MtsT mouts19 := ((v, ()), ())
abbrev encO_support_fits (v : Bool) : R := (encR outs19 (o_support_fits v).1, encMts mouts19 (o_support_fits v).2)
theorem injO_support_fits : ∀ a b, encO_support_fits a = encO_support_fits b → a = b := by
  rintro a0 b0 h
  have h1 := encR_inj (Prod.mk.inj h).1
  have h2 := encMts_inj (Prod.mk.inj h).2
  simp [o_support_fits] at h1 h2
  simp [h1, h2]
noncomputable abbrev X_support_fits (v1 : I3) (n : Nat) : Option R := (lvl Try.prog HH n).2 19 [.s (.agg true [.v (.int .i64 v1.c0), .v (.int .i64 v1.c1), .v (.int .i64 v1.c2)])] []
noncomputable def F_support_fits (v1 : I3) : Option Bool := den encO_support_fits (X_support_fits v1)
theorem lim_support_fits (k : Nat) (v1 : I3) : Lim (fun v => (encR outs19 (o_support_fits v).1, encMts mouts19 (o_support_fits v).2)) (fun n => (lvl Try.prog HH (n + k)).2 19 [.s (.agg true [.v (.int .i64 v1.c0), .v (.int .i64 v1.c1), .v (.int .i64 v1.c2)])] []) (F_support_fits v1) := Lim.den (x := (X_support_fits v1)) k
theorem F_support_fits_of (v1 : I3) : ∀ r, ((
    Option.bind (α := E_support_fits_0) (
      bif decide (v1.c0 < (-16384)) then (
        some (.inl false))
      else
      bif decide (v1.c0 > 16384) then (
        some (.inl false))
      else
      bif decide (v1.c1 < (-16384)) then (
        some (.inl false))
      else
      bif decide (v1.c1 > 16384) then (
        some (.inl false))
      else
      bif decide (v1.c2 < (-16384)) then (
        some (.inl false))
      else
      bif decide (v1.c2 > 16384) then (
        some (.inl false))
      else
      some (.inr (()))) fun p2 =>
    match p2 with
    | .inl e3 => (
      some e3)
    | .inr e4 => (
      some true)) : Option Bool) = some r →
    F_support_fits v1 = some r := fun r h =>
  den_of (x := (X_support_fits v1)) injO_support_fits 5 (Lim.cong (fun n => fn19 n v1.c0 v1.c1 v1.c2) (by
      refine Lim.bind (e := enc_L_support_fits_0) ?_ fun p2 => ?_
      · refine Lim.bif rfl ?_ ?_
        · exact Lim.leaf rfl
        refine Lim.bif rfl ?_ ?_
        · exact Lim.leaf rfl
        refine Lim.bif rfl ?_ ?_
        · exact Lim.leaf rfl
        refine Lim.bif rfl ?_ ?_
        · exact Lim.leaf rfl
        refine Lim.bif rfl ?_ ?_
        · exact Lim.leaf rfl
        refine Lim.bif rfl ?_ ?_
        · exact Lim.leaf rfl
        exact Lim.leaf rfl
      rcases p2 with e3 | e4
      · refine Lim.exit (.ret) S19_0_r ((e3, ()), ()) rfl rfl rfl ?_
        exact Lim.leaf rfl
      · refine Lim.bifF rfl ?_
        refine Lim.exit (.exit 0) S19_0_e0 ((), ()) rfl rfl rfl ?_
        exact Lim.leaf rfl
    )) h
def G_support_fits (v1 : I3) : Bool :=
  letIn (α := E_support_fits_0) (
    bif decide (v1.c0 < (-16384)) then (
      (.inl false))
    else
    bif decide (v1.c0 > 16384) then (
      (.inl false))
    else
    bif decide (v1.c1 < (-16384)) then (
      (.inl false))
    else
    bif decide (v1.c1 > 16384) then (
      (.inl false))
    else
    bif decide (v1.c2 < (-16384)) then (
      (.inl false))
    else
    bif decide (v1.c2 > 16384) then (
      (.inl false))
    else
    (.inr (()))) fun p2 =>
  match p2 with
  | .inl e3 => (
    e3)
  | .inr e4 => (
    true)
theorem F_support_fits_eq (v1 : I3) : F_support_fits v1 = some (G_support_fits v1) := F_support_fits_of v1 _ (by
  unfold G_support_fits
  refine Tot.bind ?_ fun p2 => ?_
  · refine Tot.bif ?_ ?_
    · rfl
    refine Tot.bif ?_ ?_
    · rfl
    refine Tot.bif ?_ ?_
    · rfl
    refine Tot.bif ?_ ?_
    · rfl
    refine Tot.bif ?_ ?_
    · rfl
    refine Tot.bif ?_ ?_
    · rfl
    rfl
  rcases p2 with e3 | e4
  · rfl
  · rfl)

/-! armplan/support.Usable -/
abbrev o_support_Usable (v : Bool) : VtsT outs9 × MtsT mouts9 := ((v, ()), ())
abbrev encO_support_Usable (v : Bool) : R := (encR outs9 (o_support_Usable v).1, encMts mouts9 (o_support_Usable v).2)
theorem injO_support_Usable : ∀ a b, encO_support_Usable a = encO_support_Usable b → a = b := by
  rintro a0 b0 h
  have h1 := encR_inj (Prod.mk.inj h).1
  have h2 := encMts_inj (Prod.mk.inj h).2
  simp [o_support_Usable] at h1 h2
  simp [h1, h2]
noncomputable abbrev X_support_Usable (n1 : I3) (n : Nat) : Option R := (lvl Try.prog HH n).2 9 [.s (.agg true [.v (.int .i64 n1.c0), .v (.int .i64 n1.c1), .v (.int .i64 n1.c2)])] []
noncomputable def F_support_Usable (n1 : I3) : Option Bool := den encO_support_Usable (X_support_Usable n1)
theorem lim_support_Usable (k : Nat) (n1 : I3) : Lim (fun v => (encR outs9 (o_support_Usable v).1, encMts mouts9 (o_support_Usable v).2)) (fun n => (lvl Try.prog HH (n + k)).2 9 [.s (.agg true [.v (.int .i64 n1.c0), .v (.int .i64 n1.c1), .v (.int .i64 n1.c2)])] []) (F_support_Usable n1) := Lim.den (x := (X_support_Usable n1)) k
theorem F_support_Usable_of (n1 : I3) : ∀ r, ((
    (F_support_fits n1).bind fun y2 =>
    bif y2 then (
      letIn (!((n1.c0 == 0) && ((n1.c1 == 0) && ((n1.c2 == 0) && true))) : Bool) fun b3 =>
      some b3)
    else
    some false) : Option Bool) = some r →
    F_support_Usable n1 = some r := fun r h =>
  den_of (x := (X_support_Usable n1)) injO_support_Usable 1 (Lim.cong (fun n => fn9 n n1.c0 n1.c1 n1.c2) (by
      refine Lim.call o_support_fits (lim_support_fits 0 n1) rfl rfl fun y2 => ?_
      refine Lim.bif rfl ?_ ?_
      · refine Lim.letIn rfl fun b3 => ?_
        exact Lim.leaf rfl
      exact Lim.leaf rfl
    )) h
def G_support_Usable (n1 : I3) : Bool :=
  letIn (G_support_fits n1) fun y2 =>
  bif y2 then (
    letIn (!((n1.c0 == 0) && ((n1.c1 == 0) && ((n1.c2 == 0) && true))) : Bool) fun b3 =>
    b3)
  else
  false
theorem F_support_Usable_eq (n1 : I3) : F_support_Usable n1 = some (G_support_Usable n1) := F_support_Usable_of n1 _ (by
  unfold G_support_Usable
  refine Tot.bind (F_support_fits_eq n1) fun y2 => ?_
  refine Tot.bif ?_ ?_
  · refine Tot.letIn fun b3 => ?_
    rfl
  rfl)

/-! armplan/shape.reaches -/
abbrev o_shape_reaches (v : Bool) : VtsT outs40 × MtsT mouts40 := ((v, ()), ())
abbrev encO_shape_reaches (v : Bool) : R := (encR outs40 (o_shape_reaches v).1, encMts mouts40 (o_shape_reaches v).2)
theorem injO_shape_reaches : ∀ a b, encO_shape_reaches a = encO_shape_reaches b → a = b := by
  rintro a0 b0 h
  have h1 := encR_inj (Prod.mk.inj h).1
  have h2 := encMts_inj (Prod.mk.inj h).2
  simp [o_shape_reaches] at h1 h2
  simp [h1, h2]
noncomputable abbrev X_shape_reaches (a1 : I2) (n : Nat) : Option R := (lvl Try.prog HH n).2 40 [.s (.agg true [.v (.int .i64 a1.c0), .v (.int .i64 a1.c1)])] []
noncomputable def F_shape_reaches (a1 : I2) : Option Bool := den encO_shape_reaches (X_shape_reaches a1)
theorem lim_shape_reaches (k : Nat) (a1 : I2) : Lim (fun v => (encR outs40 (o_shape_reaches v).1, encMts mouts40 (o_shape_reaches v).2)) (fun n => (lvl Try.prog HH (n + k)).2 40 [.s (.agg true [.v (.int .i64 a1.c0), .v (.int .i64 a1.c1)])] []) (F_shape_reaches a1) := Lim.den (x := (X_shape_reaches a1)) k
theorem F_shape_reaches_of (a1 : I2) : ∀ r, ((
    bif decide (a1.c0 ≥ (-268435456)) then (
      bif decide (a1.c0 ≤ a1.c1) then (
        some (decide (a1.c1 ≤ 268435456)))
      else
      some false)
    else
    some false) : Option Bool) = some r →
    F_shape_reaches a1 = some r := fun r h =>
  den_of (x := (X_shape_reaches a1)) injO_shape_reaches 1 (Lim.cong (fun n => fn40 n a1.c0 a1.c1) (by
      refine Lim.bif rfl ?_ ?_
      · refine Lim.bif rfl ?_ ?_
        · exact Lim.leaf rfl
        exact Lim.leaf rfl
      exact Lim.leaf rfl
    )) h
def G_shape_reaches (a1 : I2) : Bool :=
  bif decide (a1.c0 ≥ (-268435456)) then (
    bif decide (a1.c0 ≤ a1.c1) then (
      (decide (a1.c1 ≤ 268435456)))
    else
    false)
  else
  false
theorem F_shape_reaches_eq (a1 : I2) : F_shape_reaches a1 = some (G_shape_reaches a1) := F_shape_reaches_of a1 _ (by
  unfold G_shape_reaches
  refine Tot.bif ?_ ?_
  · refine Tot.bif ?_ ?_
    · rfl
    rfl
  rfl)

/-! armplan/shape.Placed -/
abbrev E_shape_Placed_0 : Type := (Bool) ⊕ ((List I6))
def enc_L_shape_Placed_0 : E_shape_Placed_0 → Ex × St
  | .inl e => (.ret, encSt S29_0_r ((e, ()), ()))
  | .inr e => (.exit 0, encSt S29_0_e0 (((List.map encI6 e), ()), ()))
theorem inj_L_shape_Placed_0 : ∀ a b, enc_L_shape_Placed_0 a = enc_L_shape_Placed_0 b → a = b := by
  rintro (a0 | a0) (b0 | b0) h <;> (first | (cases h; done) | (have h2 := encSt_inj rfl (Prod.mk.inj h).2; simp [map_inj encI6_inj] at h2; simp [h2]) | (have h2 := (Prod.mk.inj h).1; simp at h2) | rfl)
noncomputable abbrev X_L_shape_Placed_0 (v2 : List I6) (v3 : List I6) (v4 : Int) (v5 : Int) (n : Nat) : Option (Ex × St) := (lvl Try.prog HH n).1 ⟨29, 0, true⟩ 0 (loopOf Try.f29 0) (encSt S29_0 (((List.map encI6 v2), (List.map encI6 v3), v4, v5, ()), ()))
noncomputable def L_shape_Placed_0 (v2 : List I6) (v3 : List I6) (v4 : Int) (v5 : Int) : Option E_shape_Placed_0 := den enc_L_shape_Placed_0 (X_L_shape_Placed_0 v2 v3 v4 v5)
theorem L_shape_Placed_0_of (v2 : List I6) (v3 : List I6) (v4 : Int) (v5 : Int) : ∀ r, ((
    bif decide (v5 < v4) then (
      bif decide (0 ≤ v5) then (
        (nth v3 v5.toNat).bind fun x6 =>
        (F_shape_reaches ((I2.mk x6.c0 x6.c1))).bind fun y7 =>
        bif !y7 then (
          some (.inl false))
        else
        (F_shape_reaches ((I2.mk x6.c2 x6.c3))).bind fun y8 =>
        bif !y8 then (
          some (.inl false))
        else
        (F_shape_reaches ((I2.mk x6.c4 x6.c5))).bind fun y9 =>
        bif !y9 then (
          some (.inl false))
        else
        letIn (IntKind.wrap .i64 (v5 + 1) : Int) fun n10 =>
        L_shape_Placed_0 v2 v3 v4 n10)
      else
      none)
    else
    some (.inr v2)) : Option E_shape_Placed_0) = some r →
    L_shape_Placed_0 v2 v3 v4 v5 = some r := fun r h =>
  den_of (x := (X_L_shape_Placed_0 v2 v3 v4 v5)) inj_L_shape_Placed_0 1 (Lim.cong (fun n => loop29_0 n ((List.map encI6 v2)) ((List.map encI6 v3)) v4 v5) (by
      refine Lim.bif rfl ?_ ?_
      · refine Lim.bif rfl ?_ Lim.none_
        refine Lim.nth encI6 rfl rfl fun x6 => ?_
        refine Lim.bifT rfl ?_
        refine Lim.decC (x6.c0, x6.c1, x6.c2, x6.c3, x6.c4, x6.c5, ()) rfl ?_
        refine Lim.call o_shape_reaches (lim_shape_reaches 0 ((I2.mk x6.c0 x6.c1))) rfl rfl fun y7 => ?_
        refine Lim.bif rfl ?_ ?_
        · exact Lim.leaf rfl
        refine Lim.call o_shape_reaches (lim_shape_reaches 0 ((I2.mk x6.c2 x6.c3))) rfl rfl fun y8 => ?_
        refine Lim.bif rfl ?_ ?_
        · exact Lim.leaf rfl
        refine Lim.call o_shape_reaches (lim_shape_reaches 0 ((I2.mk x6.c4 x6.c5))) rfl rfl fun y9 => ?_
        refine Lim.bif rfl ?_ ?_
        · exact Lim.leaf rfl
        refine Lim.letIn rfl fun n10 => ?_
        exact Lim.loop 0 rfl
      exact Lim.leaf rfl
    )) h
abbrev o_shape_Placed (v : Bool) : VtsT outs29 × MtsT mouts29 := ((v, ()), ())
abbrev encO_shape_Placed (v : Bool) : R := (encR outs29 (o_shape_Placed v).1, encMts mouts29 (o_shape_Placed v).2)
theorem injO_shape_Placed : ∀ a b, encO_shape_Placed a = encO_shape_Placed b → a = b := by
  rintro a0 b0 h
  have h1 := encR_inj (Prod.mk.inj h).1
  have h2 := encMts_inj (Prod.mk.inj h).2
  simp [o_shape_Placed] at h1 h2
  simp [h1, h2]
noncomputable abbrev X_shape_Placed (l1 : List I6) (n : Nat) : Option R := (lvl Try.prog HH n).2 29 [.s (.one (.fr 6 (List.map encI6 l1)))] []
noncomputable def F_shape_Placed (l1 : List I6) : Option Bool := den encO_shape_Placed (X_shape_Placed l1)
theorem lim_shape_Placed (k : Nat) (l1 : List I6) : Lim (fun v => (encR outs29 (o_shape_Placed v).1, encMts mouts29 (o_shape_Placed v).2)) (fun n => (lvl Try.prog HH (n + k)).2 29 [.s (.one (.fr 6 (List.map encI6 l1)))] []) (F_shape_Placed l1) := Lim.den (x := (X_shape_Placed l1)) k
theorem F_shape_Placed_of (l1 : List I6) : ∀ r, ((
    (L_shape_Placed_0 l1 l1 (((l1.length : Nat) : Int)) 0).bind fun p11 =>
    match p11 with
    | .inl e12 => (
      some e12)
    | .inr e13 => (
      bif decide ((((e13.length : Nat) : Int)) ≥ 1) then (
        some (decide ((((e13.length : Nat) : Int)) ≤ 8)))
      else
      some false)) : Option Bool) = some r →
    F_shape_Placed l1 = some r := fun r h =>
  den_of (x := (X_shape_Placed l1)) injO_shape_Placed 1 (Lim.cong (fun n => fn29 n ((List.map encI6 l1))) (by
      refine Lim.bind (show Lim enc_L_shape_Placed_0 _ (L_shape_Placed_0 l1 l1 (((l1.length : Nat) : Int)) 0) from Lim.loop 0 (by first | with_reducible rfl | (simp only [List.map_replicate, map_upd]; rfl) | (simp [map_upd] <;> rfl) | rfl)) fun p11 => ?_
      rcases p11 with e12 | e13
      · refine Lim.exit (.ret) S29_0_r ((e12, ()), ()) rfl rfl rfl ?_
        exact Lim.leaf rfl
      · refine Lim.bifF rfl ?_
        refine Lim.exit (.exit 0) S29_0_e0 (((List.map encI6 e13), ()), ()) rfl rfl rfl ?_
        refine Lim.bif (by first | with_reducible rfl | (simp only [List.map_replicate, map_upd]; rfl) | (simp [map_upd] <;> rfl) | rfl) ?_ ?_
        · exact Lim.leaf (by first | rfl | (simp [o_shape_Placed, map_upd] <;> first | rfl | exact ⟨rfl, rfl⟩))
        exact Lim.leaf rfl
    )) h

/-! armplan/support.dot -/
abbrev E_support_dot_0 : Type := (Int × Int)
def enc_L_support_dot_0 (e : E_support_dot_0) : Ex × St := (.exit 0, encSt S30_0_e0 ((e.1, e.2, ()), ()))
theorem inj_L_support_dot_0 : ∀ a b, enc_L_support_dot_0 a = enc_L_support_dot_0 b → a = b := by
  rintro ⟨a0, a1⟩ ⟨b0, b1⟩ h
  first | (cases h; done) | (have h2 := encSt_inj rfl (Prod.mk.inj h).2; simp [] at h2; simp [h2]) | (have h2 := (Prod.mk.inj h).1; simp at h2) | rfl
abbrev o_support_dot (v : Int × Int) : VtsT outs30 × MtsT mouts30 := ((v.1, v.2, ()), ())
abbrev encO_support_dot (v : Int × Int) : R := (encR outs30 (o_support_dot v).1, encMts mouts30 (o_support_dot v).2)
theorem injO_support_dot : ∀ a b, encO_support_dot a = encO_support_dot b → a = b := by
  rintro ⟨a0, a1⟩ ⟨b0, b1⟩ h
  have h1 := encR_inj (Prod.mk.inj h).1
  have h2 := encMts_inj (Prod.mk.inj h).2
  simp [o_support_dot] at h1 h2
  simp [h1, h2]
noncomputable abbrev X_support_dot (n1 : I3) (v2 : I6) (n : Nat) : Option R := (lvl Try.prog HH n).2 30 [.s (.agg true [.v (.int .i64 n1.c0), .v (.int .i64 n1.c1), .v (.int .i64 n1.c2)]), .s (.agg true [.v (.int .i64 v2.c0), .v (.int .i64 v2.c1), .v (.int .i64 v2.c2), .v (.int .i64 v2.c3), .v (.int .i64 v2.c4), .v (.int .i64 v2.c5)])] []
noncomputable def F_support_dot (n1 : I3) (v2 : I6) : Option (Int × Int) := den encO_support_dot (X_support_dot n1 v2)
theorem lim_support_dot (k : Nat) (n1 : I3) (v2 : I6) : Lim (fun v => (encR outs30 (o_support_dot v).1, encMts mouts30 (o_support_dot v).2)) (fun n => (lvl Try.prog HH (n + k)).2 30 [.s (.agg true [.v (.int .i64 n1.c0), .v (.int .i64 n1.c1), .v (.int .i64 n1.c2)]), .s (.agg true [.v (.int .i64 v2.c0), .v (.int .i64 v2.c1), .v (.int .i64 v2.c2), .v (.int .i64 v2.c3), .v (.int .i64 v2.c4), .v (.int .i64 v2.c5)])] []) (F_support_dot n1 v2) := Lim.den (x := (X_support_dot n1 v2)) k
theorem F_support_dot_of (n1 : I3) (v2 : I6) : ∀ r, ((
    letIn (IntKind.wrap .i64 (n1.c0 * v2.c0) : Int) fun n3 =>
    letIn (IntKind.wrap .i64 (n1.c0 * v2.c1) : Int) fun n4 =>
    letIn (if n4 < n3 then n4 else n3 : Int) fun n5 =>
    letIn (IntKind.wrap .i64 (0 + n5) : Int) fun n6 =>
    letIn (if n4 > n3 then n4 else n3 : Int) fun n7 =>
    letIn (IntKind.wrap .i64 (0 + n7) : Int) fun n8 =>
    letIn (IntKind.wrap .i64 (n1.c1 * v2.c2) : Int) fun n9 =>
    letIn (IntKind.wrap .i64 (n1.c1 * v2.c3) : Int) fun n10 =>
    letIn (if n10 < n9 then n10 else n9 : Int) fun n11 =>
    letIn (IntKind.wrap .i64 (n6 + n11) : Int) fun n12 =>
    letIn (if n10 > n9 then n10 else n9 : Int) fun n13 =>
    letIn (IntKind.wrap .i64 (n8 + n13) : Int) fun n14 =>
    letIn (IntKind.wrap .i64 (n1.c2 * v2.c4) : Int) fun n15 =>
    letIn (IntKind.wrap .i64 (n1.c2 * v2.c5) : Int) fun n16 =>
    letIn (if n16 < n15 then n16 else n15 : Int) fun n17 =>
    letIn (IntKind.wrap .i64 (n12 + n17) : Int) fun n18 =>
    letIn (if n16 > n15 then n16 else n15 : Int) fun n19 =>
    letIn (IntKind.wrap .i64 (n14 + n19) : Int) fun n20 =>
    some (n18, n20)) : Option (Int × Int)) = some r →
    F_support_dot n1 v2 = some r := fun r h =>
  den_of (x := (X_support_dot n1 v2)) injO_support_dot 5 (Lim.cong (fun n => fn30 n n1.c0 n1.c1 n1.c2 v2.c0 v2.c1 v2.c2 v2.c3 v2.c4 v2.c5) (by
      refine Lim.letIn rfl fun n3 => ?_
      refine Lim.letIn rfl fun n4 => ?_
      refine Lim.letIn rfl fun n5 => ?_
      refine Lim.letIn rfl fun n6 => ?_
      refine Lim.letIn rfl fun n7 => ?_
      refine Lim.letIn rfl fun n8 => ?_
      refine Lim.letIn rfl fun n9 => ?_
      refine Lim.letIn rfl fun n10 => ?_
      refine Lim.letIn rfl fun n11 => ?_
      refine Lim.letIn rfl fun n12 => ?_
      refine Lim.letIn rfl fun n13 => ?_
      refine Lim.letIn rfl fun n14 => ?_
      refine Lim.letIn rfl fun n15 => ?_
      refine Lim.letIn rfl fun n16 => ?_
      refine Lim.letIn rfl fun n17 => ?_
      refine Lim.letIn rfl fun n18 => ?_
      refine Lim.letIn rfl fun n19 => ?_
      refine Lim.letIn rfl fun n20 => ?_
      exact Lim.leaf rfl
    )) h
def G_support_dot (n1 : I3) (v2 : I6) : Int × Int :=
  letIn (IntKind.wrap .i64 (n1.c0 * v2.c0) : Int) fun n3 =>
  letIn (IntKind.wrap .i64 (n1.c0 * v2.c1) : Int) fun n4 =>
  letIn (if n4 < n3 then n4 else n3 : Int) fun n5 =>
  letIn (IntKind.wrap .i64 (0 + n5) : Int) fun n6 =>
  letIn (if n4 > n3 then n4 else n3 : Int) fun n7 =>
  letIn (IntKind.wrap .i64 (0 + n7) : Int) fun n8 =>
  letIn (IntKind.wrap .i64 (n1.c1 * v2.c2) : Int) fun n9 =>
  letIn (IntKind.wrap .i64 (n1.c1 * v2.c3) : Int) fun n10 =>
  letIn (if n10 < n9 then n10 else n9 : Int) fun n11 =>
  letIn (IntKind.wrap .i64 (n6 + n11) : Int) fun n12 =>
  letIn (if n10 > n9 then n10 else n9 : Int) fun n13 =>
  letIn (IntKind.wrap .i64 (n8 + n13) : Int) fun n14 =>
  letIn (IntKind.wrap .i64 (n1.c2 * v2.c4) : Int) fun n15 =>
  letIn (IntKind.wrap .i64 (n1.c2 * v2.c5) : Int) fun n16 =>
  letIn (if n16 < n15 then n16 else n15 : Int) fun n17 =>
  letIn (IntKind.wrap .i64 (n12 + n17) : Int) fun n18 =>
  letIn (if n16 > n15 then n16 else n15 : Int) fun n19 =>
  letIn (IntKind.wrap .i64 (n14 + n19) : Int) fun n20 =>
  (n18, n20)
theorem F_support_dot_eq (n1 : I3) (v2 : I6) : F_support_dot n1 v2 = some (G_support_dot n1 v2) := F_support_dot_of n1 v2 _ (by
  unfold G_support_dot
  refine Tot.letIn fun n3 => ?_
  refine Tot.letIn fun n4 => ?_
  refine Tot.letIn fun n5 => ?_
  refine Tot.letIn fun n6 => ?_
  refine Tot.letIn fun n7 => ?_
  refine Tot.letIn fun n8 => ?_
  refine Tot.letIn fun n9 => ?_
  refine Tot.letIn fun n10 => ?_
  refine Tot.letIn fun n11 => ?_
  refine Tot.letIn fun n12 => ?_
  refine Tot.letIn fun n13 => ?_
  refine Tot.letIn fun n14 => ?_
  refine Tot.letIn fun n15 => ?_
  refine Tot.letIn fun n16 => ?_
  refine Tot.letIn fun n17 => ?_
  refine Tot.letIn fun n18 => ?_
  refine Tot.letIn fun n19 => ?_
  refine Tot.letIn fun n20 => ?_
  rfl)

/-! armplan/support.Dot -/
abbrev o_support_Dot (v : Int × Int) : VtsT outs16 × MtsT mouts16 := ((v.1, v.2, ()), ())
abbrev encO_support_Dot (v : Int × Int) : R := (encR outs16 (o_support_Dot v).1, encMts mouts16 (o_support_Dot v).2)
theorem injO_support_Dot : ∀ a b, encO_support_Dot a = encO_support_Dot b → a = b := by
  rintro ⟨a0, a1⟩ ⟨b0, b1⟩ h
  have h1 := encR_inj (Prod.mk.inj h).1
  have h2 := encMts_inj (Prod.mk.inj h).2
  simp [o_support_Dot] at h1 h2
  simp [h1, h2]
noncomputable abbrev X_support_Dot (n1 : I3) (v2 : I6) (n : Nat) : Option R := (lvl Try.prog HH n).2 16 [.s (.agg true [.v (.int .i64 n1.c0), .v (.int .i64 n1.c1), .v (.int .i64 n1.c2)]), .s (.agg true [.v (.int .i64 v2.c0), .v (.int .i64 v2.c1), .v (.int .i64 v2.c2), .v (.int .i64 v2.c3), .v (.int .i64 v2.c4), .v (.int .i64 v2.c5)])] []
noncomputable def F_support_Dot (n1 : I3) (v2 : I6) : Option (Int × Int) := den encO_support_Dot (X_support_Dot n1 v2)
theorem lim_support_Dot (k : Nat) (n1 : I3) (v2 : I6) : Lim (fun v => (encR outs16 (o_support_Dot v).1, encMts mouts16 (o_support_Dot v).2)) (fun n => (lvl Try.prog HH (n + k)).2 16 [.s (.agg true [.v (.int .i64 n1.c0), .v (.int .i64 n1.c1), .v (.int .i64 n1.c2)]), .s (.agg true [.v (.int .i64 v2.c0), .v (.int .i64 v2.c1), .v (.int .i64 v2.c2), .v (.int .i64 v2.c3), .v (.int .i64 v2.c4), .v (.int .i64 v2.c5)])] []) (F_support_Dot n1 v2) := Lim.den (x := (X_support_Dot n1 v2)) k
theorem F_support_Dot_of (n1 : I3) (v2 : I6) : ∀ r, ((
    (F_support_Usable n1).bind fun y3 =>
    bif !y3 then (
      some (0, 0))
    else
    (F_shape_Placed [v2]).bind fun y4 =>
    bif !y4 then (
      some (0, 0))
    else
    (F_support_dot n1 v2).bind fun y5 =>
    some (y5.1, y5.2)) : Option (Int × Int)) = some r →
    F_support_Dot n1 v2 = some r := fun r h =>
  den_of (x := (X_support_Dot n1 v2)) injO_support_Dot 1 (Lim.cong (fun n => fn16 n n1.c0 n1.c1 n1.c2 v2.c0 v2.c1 v2.c2 v2.c3 v2.c4 v2.c5) (by
      refine Lim.call o_support_Usable (lim_support_Usable 0 n1) rfl rfl fun y3 => ?_
      refine Lim.bif rfl ?_ ?_
      · exact Lim.leaf rfl
      refine Lim.call o_shape_Placed (lim_shape_Placed 0 [v2]) (by first | with_reducible rfl | (simp only [List.map_replicate, map_upd]; rfl) | (simp [map_upd] <;> rfl) | rfl) (by first | with_reducible rfl | (simp only [List.map_replicate, map_upd]; rfl) | (simp [map_upd] <;> rfl) | rfl) fun y4 => ?_
      refine Lim.bif rfl ?_ ?_
      · exact Lim.leaf rfl
      refine Lim.call o_support_dot (lim_support_dot 0 n1 v2) rfl rfl fun y5 => ?_
      exact Lim.leaf rfl
    )) h

/-! armplan/fixed.Root -/
abbrev E_fixed_Root_0 : Type := (Int)
def enc_L_fixed_Root_0 (e : E_fixed_Root_0) : Ex × St := (.exit 0, encSt S32_0_e0 ((e, ()), ()))
theorem inj_L_fixed_Root_0 : ∀ a b, enc_L_fixed_Root_0 a = enc_L_fixed_Root_0 b → a = b := by
  rintro a0 b0 h
  first | (cases h; done) | (have h2 := encSt_inj rfl (Prod.mk.inj h).2; simp [] at h2; simp [h2]) | (have h2 := (Prod.mk.inj h).1; simp at h2) | rfl
noncomputable abbrev X_L_fixed_Root_0 (v2 : Int) (v3 : Int) (v4 : Int) (n : Nat) : Option (Ex × St) := (lvl Try.prog HH n).1 ⟨32, 0, true⟩ 0 (loopOf Try.f32 0) (encSt S32_0 ((v2, v3, v4, ()), ()))
noncomputable def L_fixed_Root_0 (v2 : Int) (v3 : Int) (v4 : Int) : Option E_fixed_Root_0 := den enc_L_fixed_Root_0 (X_L_fixed_Root_0 v2 v3 v4)
theorem L_fixed_Root_0_of (v2 : Int) (v3 : Int) (v4 : Int) : ∀ r, ((
    bif decide (v4 < 32) then (
      letIn (IntKind.wrap .i64 (31 - v4) : Int) fun n5 =>
      bif decide (n5 < 0) then (
        none)
      else
      letIn (IntKind.wrap .i64 (1 * (2 ^ min n5.toNat 64)) : Int) fun n6 =>
      letIn (IntKind.wrap .i64 (v3 + n6) : Int) fun n7 =>
      bif n7 == 0 then (
        none)
      else
      letIn (IntKind.wrap .i64 (Int.tdiv v2 n7) : Int) fun n8 =>
      bif decide (n7 ≤ n8) then (
        letIn (IntKind.wrap .i64 (v4 + 1) : Int) fun n9 =>
        L_fixed_Root_0 v2 n7 n9)
      else
      letIn (IntKind.wrap .i64 (v4 + 1) : Int) fun n10 =>
      L_fixed_Root_0 v2 v3 n10)
    else
    some v3) : Option E_fixed_Root_0) = some r →
    L_fixed_Root_0 v2 v3 v4 = some r := fun r h =>
  den_of (x := (X_L_fixed_Root_0 v2 v3 v4)) inj_L_fixed_Root_0 1 (Lim.cong (fun n => loop32_0 n v2 v3 v4) (by
      refine Lim.bif rfl ?_ ?_
      · refine Lim.letIn rfl fun n5 => ?_
        refine Lim.bif rfl Lim.none_ ?_
        refine Lim.letIn rfl fun n6 => ?_
        refine Lim.letIn rfl fun n7 => ?_
        refine Lim.bif rfl Lim.none_ ?_
        refine Lim.letIn rfl fun n8 => ?_
        refine Lim.bif rfl ?_ ?_
        · refine Lim.letIn rfl fun n9 => ?_
          exact Lim.loop 0 rfl
        refine Lim.letIn rfl fun n10 => ?_
        exact Lim.loop 0 rfl
      exact Lim.leaf rfl
    )) h
abbrev o_fixed_Root (v : Int) : VtsT outs32 × MtsT mouts32 := ((v, ()), ())
abbrev encO_fixed_Root (v : Int) : R := (encR outs32 (o_fixed_Root v).1, encMts mouts32 (o_fixed_Root v).2)
theorem injO_fixed_Root : ∀ a b, encO_fixed_Root a = encO_fixed_Root b → a = b := by
  rintro a0 b0 h
  have h1 := encR_inj (Prod.mk.inj h).1
  have h2 := encMts_inj (Prod.mk.inj h).2
  simp [o_fixed_Root] at h1 h2
  simp [h1, h2]
noncomputable abbrev X_fixed_Root (n1 : Int) (n : Nat) : Option R := (lvl Try.prog HH n).2 32 [.s (.one (.v (.int .i64 n1)))] []
noncomputable def F_fixed_Root (n1 : Int) : Option Int := den encO_fixed_Root (X_fixed_Root n1)
theorem lim_fixed_Root (k : Nat) (n1 : Int) : Lim (fun v => (encR outs32 (o_fixed_Root v).1, encMts mouts32 (o_fixed_Root v).2)) (fun n => (lvl Try.prog HH (n + k)).2 32 [.s (.one (.v (.int .i64 n1)))] []) (F_fixed_Root n1) := Lim.den (x := (X_fixed_Root n1)) k
theorem F_fixed_Root_of (n1 : Int) : ∀ r, ((
    bif decide (n1 ≤ 0) then (
      some 0)
    else
    (L_fixed_Root_0 n1 0 0).bind fun p11 =>
    some p11) : Option Int) = some r →
    F_fixed_Root n1 = some r := fun r h =>
  den_of (x := (X_fixed_Root n1)) injO_fixed_Root 1 (Lim.cong (fun n => fn32 n n1) (by
      refine Lim.bif rfl ?_ ?_
      · exact Lim.leaf rfl
      refine Lim.bind (show Lim enc_L_fixed_Root_0 _ (L_fixed_Root_0 n1 0 0) from Lim.loop 0 rfl) fun p11 => ?_
      refine Lim.exit (.exit 0) S32_0_e0 ((p11, ()), ()) rfl rfl rfl ?_
      exact Lim.leaf rfl
    )) h

/-! armplan/fixed.RootUp -/
abbrev o_fixed_RootUp (v : Int) : VtsT outs20 × MtsT mouts20 := ((v, ()), ())
abbrev encO_fixed_RootUp (v : Int) : R := (encR outs20 (o_fixed_RootUp v).1, encMts mouts20 (o_fixed_RootUp v).2)
theorem injO_fixed_RootUp : ∀ a b, encO_fixed_RootUp a = encO_fixed_RootUp b → a = b := by
  rintro a0 b0 h
  have h1 := encR_inj (Prod.mk.inj h).1
  have h2 := encMts_inj (Prod.mk.inj h).2
  simp [o_fixed_RootUp] at h1 h2
  simp [h1, h2]
noncomputable abbrev X_fixed_RootUp (n1 : Int) (n : Nat) : Option R := (lvl Try.prog HH n).2 20 [.s (.one (.v (.int .i64 n1)))] []
noncomputable def F_fixed_RootUp (n1 : Int) : Option Int := den encO_fixed_RootUp (X_fixed_RootUp n1)
theorem lim_fixed_RootUp (k : Nat) (n1 : Int) : Lim (fun v => (encR outs20 (o_fixed_RootUp v).1, encMts mouts20 (o_fixed_RootUp v).2)) (fun n => (lvl Try.prog HH (n + k)).2 20 [.s (.one (.v (.int .i64 n1)))] []) (F_fixed_RootUp n1) := Lim.den (x := (X_fixed_RootUp n1)) k
theorem F_fixed_RootUp_of (n1 : Int) : ∀ r, ((
    (F_fixed_Root n1).bind fun y2 =>
    letIn (IntKind.wrap .i64 (y2 * y2) : Int) fun n3 =>
    bif decide (n3 < n1) then (
      letIn (IntKind.wrap .i64 (y2 + 1) : Int) fun n4 =>
      some n4)
    else
    some y2) : Option Int) = some r →
    F_fixed_RootUp n1 = some r := fun r h =>
  den_of (x := (X_fixed_RootUp n1)) injO_fixed_RootUp 1 (Lim.cong (fun n => fn20 n n1) (by
      refine Lim.call o_fixed_Root (lim_fixed_Root 0 n1) rfl rfl fun y2 => ?_
      refine Lim.letIn rfl fun n3 => ?_
      refine Lim.bif rfl ?_ ?_
      · refine Lim.letIn rfl fun n4 => ?_
        exact Lim.leaf rfl
      exact Lim.leaf rfl
    )) h

/-! armplan/support.Norm -/
abbrev o_support_Norm (v : Int) : VtsT outs11 × MtsT mouts11 := ((v, ()), ())
abbrev encO_support_Norm (v : Int) : R := (encR outs11 (o_support_Norm v).1, encMts mouts11 (o_support_Norm v).2)
theorem injO_support_Norm : ∀ a b, encO_support_Norm a = encO_support_Norm b → a = b := by
  rintro a0 b0 h
  have h1 := encR_inj (Prod.mk.inj h).1
  have h2 := encMts_inj (Prod.mk.inj h).2
  simp [o_support_Norm] at h1 h2
  simp [h1, h2]
noncomputable abbrev X_support_Norm (n1 : I3) (n : Nat) : Option R := (lvl Try.prog HH n).2 11 [.s (.agg true [.v (.int .i64 n1.c0), .v (.int .i64 n1.c1), .v (.int .i64 n1.c2)])] []
noncomputable def F_support_Norm (n1 : I3) : Option Int := den encO_support_Norm (X_support_Norm n1)
theorem lim_support_Norm (k : Nat) (n1 : I3) : Lim (fun v => (encR outs11 (o_support_Norm v).1, encMts mouts11 (o_support_Norm v).2)) (fun n => (lvl Try.prog HH (n + k)).2 11 [.s (.agg true [.v (.int .i64 n1.c0), .v (.int .i64 n1.c1), .v (.int .i64 n1.c2)])] []) (F_support_Norm n1) := Lim.den (x := (X_support_Norm n1)) k
theorem F_support_Norm_of (n1 : I3) : ∀ r, ((
    (F_support_Usable n1).bind fun y2 =>
    bif !y2 then (
      some 0)
    else
    letIn (IntKind.wrap .i64 (n1.c0 * n1.c0) : Int) fun n3 =>
    letIn (IntKind.wrap .i64 (n1.c1 * n1.c1) : Int) fun n4 =>
    letIn (IntKind.wrap .i64 (n3 + n4) : Int) fun n5 =>
    letIn (IntKind.wrap .i64 (n1.c2 * n1.c2) : Int) fun n6 =>
    letIn (IntKind.wrap .i64 (n5 + n6) : Int) fun n7 =>
    (F_fixed_RootUp n7).bind fun y8 =>
    some y8) : Option Int) = some r →
    F_support_Norm n1 = some r := fun r h =>
  den_of (x := (X_support_Norm n1)) injO_support_Norm 1 (Lim.cong (fun n => fn11 n n1.c0 n1.c1 n1.c2) (by
      refine Lim.call o_support_Usable (lim_support_Usable 0 n1) rfl rfl fun y2 => ?_
      refine Lim.bif rfl ?_ ?_
      · exact Lim.leaf rfl
      refine Lim.letIn rfl fun n3 => ?_
      refine Lim.letIn rfl fun n4 => ?_
      refine Lim.letIn rfl fun n5 => ?_
      refine Lim.letIn rfl fun n6 => ?_
      refine Lim.letIn rfl fun n7 => ?_
      refine Lim.call o_fixed_RootUp (lim_fixed_RootUp 0 n7) rfl rfl fun y8 => ?_
      exact Lim.leaf rfl
    )) h

/-! armplan/armplanlaw13.awake -/
abbrev o_law13_awake (v : Bool) : VtsT outs7 × MtsT mouts7 := ((v, ()), ())
abbrev encO_law13_awake (v : Bool) : R := (encR outs7 (o_law13_awake v).1, encMts mouts7 (o_law13_awake v).2)
theorem injO_law13_awake : ∀ a b, encO_law13_awake a = encO_law13_awake b → a = b := by
  rintro a0 b0 h
  have h1 := encR_inj (Prod.mk.inj h).1
  have h2 := encMts_inj (Prod.mk.inj h).2
  simp [o_law13_awake] at h1 h2
  simp [h1, h2]
noncomputable abbrev X_law13_awake  (n : Nat) : Option R := (lvl Try.prog HH n).2 7 [] []
noncomputable def F_law13_awake  : Option Bool := den encO_law13_awake X_law13_awake
theorem lim_law13_awake (k : Nat)  : Lim (fun v => (encR outs7 (o_law13_awake v).1, encMts mouts7 (o_law13_awake v).2)) (fun n => (lvl Try.prog HH (n + k)).2 7 [] []) (F_law13_awake) := Lim.den (x := X_law13_awake) k
theorem F_law13_awake_of  : ∀ r, ((
    (F_support_Dot ((I3.mk 1 ((-2)) 0)) ((I6.mk 0 1 3 4 5 5))).bind fun y1 =>
    bif y1.1 == (-8) then (
      bif y1.2 == (-5) then (
        (F_support_Norm ((I3.mk 1 1 1))).bind fun y2 =>
        some (y2 == 2))
      else
      some false)
    else
    some false) : Option Bool) = some r →
    F_law13_awake = some r := fun r h =>
  den_of (x := X_law13_awake) injO_law13_awake 1 (Lim.cong (fun n => fn7 n ) (by
      refine Lim.call o_support_Dot (lim_support_Dot 0 ((I3.mk 1 ((-2)) 0)) ((I6.mk 0 1 3 4 5 5))) rfl rfl fun y1 => ?_
      refine Lim.bif rfl ?_ ?_
      · refine Lim.bif rfl ?_ ?_
        · refine Lim.call o_support_Norm (lim_support_Norm 0 ((I3.mk 1 1 1))) rfl rfl fun y2 => ?_
          exact Lim.leaf rfl
        exact Lim.leaf rfl
      exact Lim.leaf rfl
    )) h

/-! armplan/support.Least$1 -/
abbrev o_support_Least_1 (v : Int × I3) : VtsT outs33 × MtsT mouts33 := ((v.1, ()), ((v.2.c0, v.2.c1, v.2.c2, ()), ()))
abbrev encO_support_Least_1 (v : Int × I3) : R := (encR outs33 (o_support_Least_1 v).1, encMts mouts33 (o_support_Least_1 v).2)
theorem injO_support_Least_1 : ∀ a b, encO_support_Least_1 a = encO_support_Least_1 b → a = b := by
  rintro ⟨a0, ⟨a1, a2, a3⟩⟩ ⟨b0, ⟨b1, b2, b3⟩⟩ h
  have h1 := encR_inj (Prod.mk.inj h).1
  have h2 := encMts_inj (Prod.mk.inj h).2
  simp [o_support_Least_1] at h1 h2
  simp [h1, h2]
noncomputable abbrev X_support_Least_1 (v1 : I6) (c2 : I3) (n : Nat) : Option R := (lvl Try.prog HH n).2 33 [.s (.agg true [.v (.int .i64 v1.c0), .v (.int .i64 v1.c1), .v (.int .i64 v1.c2), .v (.int .i64 v1.c3), .v (.int .i64 v1.c4), .v (.int .i64 v1.c5)]), .s (.one (.ptr 0 0 0))] [.own 3 true [[.v (.int .i64 c2.c0), .v (.int .i64 c2.c1), .v (.int .i64 c2.c2)]]]
noncomputable def F_support_Least_1 (v1 : I6) (c2 : I3) : Option (Int × I3) := den encO_support_Least_1 (X_support_Least_1 v1 c2)
theorem lim_support_Least_1 (k : Nat) (v1 : I6) (c2 : I3) : Lim (fun v => (encR outs33 (o_support_Least_1 v).1, encMts mouts33 (o_support_Least_1 v).2)) (fun n => (lvl Try.prog HH (n + k)).2 33 [.s (.agg true [.v (.int .i64 v1.c0), .v (.int .i64 v1.c1), .v (.int .i64 v1.c2), .v (.int .i64 v1.c3), .v (.int .i64 v1.c4), .v (.int .i64 v1.c5)]), .s (.one (.ptr 0 0 0))] [.own 3 true [[.v (.int .i64 c2.c0), .v (.int .i64 c2.c1), .v (.int .i64 c2.c2)]]]) (F_support_Least_1 v1 c2) := Lim.den (x := (X_support_Least_1 v1 c2)) k
theorem F_support_Least_1_of (v1 : I6) (c2 : I3) : ∀ r, ((
    (F_support_dot c2 v1).bind fun y3 =>
    some (y3.1, c2)) : Option (Int × I3)) = some r →
    F_support_Least_1 v1 c2 = some r := fun r h =>
  den_of (x := (X_support_Least_1 v1 c2)) injO_support_Least_1 1 (Lim.cong (fun n => fn33s0 n v1.c0 v1.c1 v1.c2 v1.c3 v1.c4 v1.c5 c2.c0 c2.c1 c2.c2) (by
      refine Lim.call o_support_dot (lim_support_dot 0 c2 v1) rfl rfl fun y3 => ?_
      exact Lim.leaf rfl
    )) h
def G_support_Least_1 (v1 : I6) (c2 : I3) : Int × I3 :=
  letIn (G_support_dot c2 v1) fun y3 =>
  (y3.1, c2)
theorem F_support_Least_1_eq (v1 : I6) (c2 : I3) : F_support_Least_1 v1 c2 = some (G_support_Least_1 v1 c2) := F_support_Least_1_of v1 c2 _ (by
  unfold G_support_Least_1
  refine Tot.bind (F_support_dot_eq c2 v1) fun y3 => ?_
  rfl)

/-! armplan/support.Least$2 -/
abbrev o_support_Least_2 (v : Bool) : VtsT outs34 × MtsT mouts34 := ((v, ()), ())
abbrev encO_support_Least_2 (v : Bool) : R := (encR outs34 (o_support_Least_2 v).1, encMts mouts34 (o_support_Least_2 v).2)
theorem injO_support_Least_2 : ∀ a b, encO_support_Least_2 a = encO_support_Least_2 b → a = b := by
  rintro a0 b0 h
  have h1 := encR_inj (Prod.mk.inj h).1
  have h2 := encMts_inj (Prod.mk.inj h).2
  simp [o_support_Least_2] at h1 h2
  simp [h1, h2]
noncomputable abbrev X_support_Least_2 (x1 : Int) (y2 : Int) (n : Nat) : Option R := (lvl Try.prog HH n).2 34 [.s (.one (.v (.int .i64 x1))), .s (.one (.v (.int .i64 y2)))] []
noncomputable def F_support_Least_2 (x1 : Int) (y2 : Int) : Option Bool := den encO_support_Least_2 (X_support_Least_2 x1 y2)
theorem lim_support_Least_2 (k : Nat) (x1 : Int) (y2 : Int) : Lim (fun v => (encR outs34 (o_support_Least_2 v).1, encMts mouts34 (o_support_Least_2 v).2)) (fun n => (lvl Try.prog HH (n + k)).2 34 [.s (.one (.v (.int .i64 x1))), .s (.one (.v (.int .i64 y2)))] []) (F_support_Least_2 x1 y2) := Lim.den (x := (X_support_Least_2 x1 y2)) k
theorem F_support_Least_2_of (x1 : Int) (y2 : Int) : ∀ r, ((
    some (decide (x1 < y2))) : Option Bool) = some r →
    F_support_Least_2 x1 y2 = some r := fun r h =>
  den_of (x := (X_support_Least_2 x1 y2)) injO_support_Least_2 1 (Lim.cong (fun n => fn34 n x1 y2) (by
      exact Lim.leaf rfl
    )) h
def G_support_Least_2 (x1 : Int) (y2 : Int) : Bool :=
  (decide (x1 < y2))
theorem F_support_Least_2_eq (x1 : Int) (y2 : Int) : F_support_Least_2 x1 y2 = some (G_support_Least_2 x1 y2) := F_support_Least_2_of x1 y2 _ (by
  unfold G_support_Least_2
  rfl)

/-! (armplan/support.search).first -/
abbrev E_support_search_first_support_Least_1_support_Least_2_0 : Type := (Int × Int × I3)
def enc_L_support_search_first_support_Least_1_support_Least_2_0 (e : E_support_search_first_support_Least_1_support_Least_2_0) : Ex × St := (.exit 0, encSt S35s0_0_e0 ((e.1, e.2.1, ()), ((e.2.2.c0, e.2.2.c1, e.2.2.c2, ()), ())))
theorem inj_L_support_search_first_support_Least_1_support_Least_2_0 : ∀ a b, enc_L_support_search_first_support_Least_1_support_Least_2_0 a = enc_L_support_search_first_support_Least_1_support_Least_2_0 b → a = b := by
  rintro ⟨a0, a1, ⟨a2, a3, a4⟩⟩ ⟨b0, b1, ⟨b2, b3, b4⟩⟩ h
  first | (cases h; done) | (have h2 := encSt_inj rfl (Prod.mk.inj h).2; simp [] at h2; simp [h2]) | (have h2 := (Prod.mk.inj h).1; simp at h2) | rfl
noncomputable abbrev X_L_support_search_first_support_Least_1_support_Least_2_0 (v5 : Int) (v6 : Int) (v7 : List I6) (v8 : Int) (v9 : Int) (c10 : I3) (n : Nat) : Option (Ex × St) := (lvl Try.prog HH n).1 ⟨35, 1, true⟩ 0 (loopOf Try.f35 0) (encSt S35s0_0 (((), v5, v6, (List.map encI6 v7), v8, v9, ()), ((c10.c0, c10.c1, c10.c2, ()), ((.clo 33 [.ptr 0 0 0]), (.v (.func (.func 34) #[] #[])), ()), ())))
noncomputable def L_support_search_first_support_Least_1_support_Least_2_0 (v5 : Int) (v6 : Int) (v7 : List I6) (v8 : Int) (v9 : Int) (c10 : I3) : Option E_support_search_first_support_Least_1_support_Least_2_0 := den enc_L_support_search_first_support_Least_1_support_Least_2_0 (X_L_support_search_first_support_Least_1_support_Least_2_0 v5 v6 v7 v8 v9 c10)
theorem L_support_search_first_support_Least_1_support_Least_2_0_of (v5 : Int) (v6 : Int) (v7 : List I6) (v8 : Int) (v9 : Int) (c10 : I3) : ∀ r, ((
    bif decide (v9 < v8) then (
      bif decide (0 ≤ v9) then (
        (nth v7 v9.toNat).bind fun x11 =>
        (F_support_Least_1 x11 c10).bind fun y12 =>
        (F_support_Least_2 y12.1 v5).bind fun y13 =>
        bif y13 then (
          letIn (IntKind.wrap .i64 (v9 + 1) : Int) fun n14 =>
          L_support_search_first_support_Least_1_support_Least_2_0 y12.1 v9 v7 v8 n14 c10)
        else
        letIn (IntKind.wrap .i64 (v9 + 1) : Int) fun n15 =>
        L_support_search_first_support_Least_1_support_Least_2_0 v5 v6 v7 v8 n15 c10)
      else
      none)
    else
    some ((v5, v6, c10))) : Option E_support_search_first_support_Least_1_support_Least_2_0) = some r →
    L_support_search_first_support_Least_1_support_Least_2_0 v5 v6 v7 v8 v9 c10 = some r := fun r h =>
  den_of (x := (X_L_support_search_first_support_Least_1_support_Least_2_0 v5 v6 v7 v8 v9 c10)) inj_L_support_search_first_support_Least_1_support_Least_2_0 1 (Lim.cong (fun n => loop35s0_0 n v5 v6 ((List.map encI6 v7)) v8 v9 c10.c0 c10.c1 c10.c2) (by
      refine Lim.bif rfl ?_ ?_
      · refine Lim.bif rfl ?_ Lim.none_
        refine Lim.nth encI6 rfl rfl fun x11 => ?_
        refine Lim.bifT rfl ?_
        refine Lim.decC (x11.c0, x11.c1, x11.c2, x11.c3, x11.c4, x11.c5, ()) rfl ?_
        refine Lim.call o_support_Least_1 (lim_support_Least_1 0 x11 c10) rfl rfl fun y12 => ?_
        refine Lim.call o_support_Least_2 (lim_support_Least_2 0 y12.1 v5) rfl rfl fun y13 => ?_
        refine Lim.bif rfl ?_ ?_
        · refine Lim.letIn rfl fun n14 => ?_
          exact Lim.loop 0 rfl
        refine Lim.letIn rfl fun n15 => ?_
        exact Lim.loop 0 rfl
      exact Lim.leaf rfl
    )) h
abbrev o_support_search_first_support_Least_1_support_Least_2 (v : Int × Int × I3) : VtsT outs35 × MtsT mouts35 := ((v.1, v.2.1, ()), ((v.2.2.c0, v.2.2.c1, v.2.2.c2, ()), ()))
abbrev encO_support_search_first_support_Least_1_support_Least_2 (v : Int × Int × I3) : R := (encR outs35 (o_support_search_first_support_Least_1_support_Least_2 v).1, encMts mouts35 (o_support_search_first_support_Least_1_support_Least_2 v).2)
theorem injO_support_search_first_support_Least_1_support_Least_2 : ∀ a b, encO_support_search_first_support_Least_1_support_Least_2 a = encO_support_search_first_support_Least_1_support_Least_2 b → a = b := by
  rintro ⟨a0, a1, ⟨a2, a3, a4⟩⟩ ⟨b0, b1, ⟨b2, b3, b4⟩⟩ h
  have h1 := encR_inj (Prod.mk.inj h).1
  have h2 := encMts_inj (Prod.mk.inj h).2
  simp [o_support_search_first_support_Least_1_support_Least_2] at h1 h2
  simp [h1, h2]
noncomputable abbrev X_support_search_first_support_Least_1_support_Least_2 (l1 : List I6) (c2 : I3) (n : Nat) : Option R := (lvl Try.prog HH n).2 35 [.s (.agg false [.clo 33 [.ptr 0 0 0], .v (.func (.func 34) #[] #[])]), .s (.one (.fr 6 (List.map encI6 l1)))] [.own 3 true [[.v (.int .i64 c2.c0), .v (.int .i64 c2.c1), .v (.int .i64 c2.c2)]]]
noncomputable def F_support_search_first_support_Least_1_support_Least_2 (l1 : List I6) (c2 : I3) : Option (Int × Int × I3) := den encO_support_search_first_support_Least_1_support_Least_2 (X_support_search_first_support_Least_1_support_Least_2 l1 c2)
theorem lim_support_search_first_support_Least_1_support_Least_2 (k : Nat) (l1 : List I6) (c2 : I3) : Lim (fun v => (encR outs35 (o_support_search_first_support_Least_1_support_Least_2 v).1, encMts mouts35 (o_support_search_first_support_Least_1_support_Least_2 v).2)) (fun n => (lvl Try.prog HH (n + k)).2 35 [.s (.agg false [.clo 33 [.ptr 0 0 0], .v (.func (.func 34) #[] #[])]), .s (.one (.fr 6 (List.map encI6 l1)))] [.own 3 true [[.v (.int .i64 c2.c0), .v (.int .i64 c2.c1), .v (.int .i64 c2.c2)]]]) (F_support_search_first_support_Least_1_support_Least_2 l1 c2) := Lim.den (x := (X_support_search_first_support_Least_1_support_Least_2 l1 c2)) k
theorem F_support_search_first_support_Least_1_support_Least_2_of (l1 : List I6) (c2 : I3) : ∀ r, ((
    (nth l1 0).bind fun x3 =>
    (F_support_Least_1 x3 c2).bind fun y4 =>
    (L_support_search_first_support_Least_1_support_Least_2_0 y4.1 0 l1 (((l1.length : Nat) : Int)) 0 c2).bind fun p16 =>
    some (p16.1, p16.2.1, p16.2.2)) : Option (Int × Int × I3)) = some r →
    F_support_search_first_support_Least_1_support_Least_2 l1 c2 = some r := fun r h =>
  den_of (x := (X_support_search_first_support_Least_1_support_Least_2 l1 c2)) injO_support_search_first_support_Least_1_support_Least_2 1 (Lim.cong (fun n => fn35s0 n ((List.map encI6 l1)) c2.c0 c2.c1 c2.c2) (by
      refine Lim.nth encI6 rfl rfl fun x3 => ?_
      refine Lim.bifT rfl ?_
      refine Lim.decC (x3.c0, x3.c1, x3.c2, x3.c3, x3.c4, x3.c5, ()) rfl ?_
      refine Lim.call o_support_Least_1 (lim_support_Least_1 0 x3 c2) rfl rfl fun y4 => ?_
      refine Lim.bind (show Lim enc_L_support_search_first_support_Least_1_support_Least_2_0 _ (L_support_search_first_support_Least_1_support_Least_2_0 y4.1 0 l1 (((l1.length : Nat) : Int)) 0 c2) from Lim.loop 0 (by first | with_reducible rfl | (simp [map_upd, o_support_Least_1] <;> rfl) | (simp only [List.map_append, List.map_cons, List.map_nil, List.map_take, List.map_drop, map_upd, List.map_replicate, List.length_map, o_support_Least_1] <;> rfl) | (simp only [List.map_append, List.map_cons, List.map_nil, List.map_take, List.map_drop, map_upd, List.map_replicate, List.length_map, List.length_append, List.length_cons, List.length_nil, o_support_Least_1] <;> rfl) | rfl)) fun p16 => ?_
      refine Lim.exit (.exit 0) S35s0_0_e0 ((p16.1, p16.2.1, ()), ((p16.2.2.c0, p16.2.2.c1, p16.2.2.c2, ()), ())) rfl rfl rfl ?_
      exact Lim.leaf rfl
    )) h

/-! armplan/support.Least -/
abbrev o_support_Least (v : Int × Int × Bool) : VtsT outs24 × MtsT mouts24 := ((v.1, v.2.1, v.2.2, ()), ())
abbrev encO_support_Least (v : Int × Int × Bool) : R := (encR outs24 (o_support_Least v).1, encMts mouts24 (o_support_Least v).2)
theorem injO_support_Least : ∀ a b, encO_support_Least a = encO_support_Least b → a = b := by
  rintro ⟨a0, a1, a2⟩ ⟨b0, b1, b2⟩ h
  have h1 := encR_inj (Prod.mk.inj h).1
  have h2 := encMts_inj (Prod.mk.inj h).2
  simp [o_support_Least] at h1 h2
  simp [h1, h2]
noncomputable abbrev X_support_Least (n1 : I3) (l2 : List I6) (n : Nat) : Option R := (lvl Try.prog HH n).2 24 [.s (.agg true [.v (.int .i64 n1.c0), .v (.int .i64 n1.c1), .v (.int .i64 n1.c2)]), .s (.one (.fr 6 (List.map encI6 l2)))] []
noncomputable def F_support_Least (n1 : I3) (l2 : List I6) : Option (Int × Int × Bool) := den encO_support_Least (X_support_Least n1 l2)
theorem lim_support_Least (k : Nat) (n1 : I3) (l2 : List I6) : Lim (fun v => (encR outs24 (o_support_Least v).1, encMts mouts24 (o_support_Least v).2)) (fun n => (lvl Try.prog HH (n + k)).2 24 [.s (.agg true [.v (.int .i64 n1.c0), .v (.int .i64 n1.c1), .v (.int .i64 n1.c2)]), .s (.one (.fr 6 (List.map encI6 l2)))] []) (F_support_Least n1 l2) := Lim.den (x := (X_support_Least n1 l2)) k
theorem F_support_Least_of (n1 : I3) (l2 : List I6) : ∀ r, ((
    (F_support_Usable n1).bind fun y3 =>
    bif !y3 then (
      some (0, 0, false))
    else
    (F_shape_Placed l2).bind fun y4 =>
    bif !y4 then (
      some (0, 0, false))
    else
    (F_support_search_first_support_Least_1_support_Least_2 l2 n1).bind fun y5 =>
    some (y5.1, y5.2.1, true)) : Option (Int × Int × Bool)) = some r →
    F_support_Least n1 l2 = some r := fun r h =>
  den_of (x := (X_support_Least n1 l2)) injO_support_Least 1 (Lim.cong (fun n => fn24 n n1.c0 n1.c1 n1.c2 ((List.map encI6 l2))) (by
      refine Lim.call o_support_Usable (lim_support_Usable 0 n1) rfl rfl fun y3 => ?_
      refine Lim.bif rfl ?_ ?_
      · exact Lim.leaf rfl
      refine Lim.call o_shape_Placed (lim_shape_Placed 0 l2) rfl rfl fun y4 => ?_
      refine Lim.bif rfl ?_ ?_
      · exact Lim.leaf rfl
      refine Lim.call o_support_search_first_support_Least_1_support_Least_2 (lim_support_search_first_support_Least_1_support_Least_2 0 l2 n1) rfl rfl fun y5 => ?_
      exact Lim.leaf rfl
    )) h

/-! armplan/armplanref10.reached -/
abbrev E_ref10_reached_0 : Type := (Bool) ⊕ (Unit)
def enc_L_ref10_reached_0 : E_ref10_reached_0 → Ex × St
  | .inl e => (.ret, encSt S42_0_r ((e, ()), ()))
  | .inr e => (.exit 0, encSt S42_0_e0 ((), ()))
theorem inj_L_ref10_reached_0 : ∀ a b, enc_L_ref10_reached_0 a = enc_L_ref10_reached_0 b → a = b := by
  rintro (a0 | _) (b0 | _) h <;> (first | (cases h; done) | (have h2 := encSt_inj rfl (Prod.mk.inj h).2; simp [] at h2; simp [h2]) | (have h2 := (Prod.mk.inj h).1; simp at h2) | rfl)
abbrev o_ref10_reached (v : Bool) : VtsT outs42 × MtsT mouts42 := ((v, ()), ())
abbrev encO_ref10_reached (v : Bool) : R := (encR outs42 (o_ref10_reached v).1, encMts mouts42 (o_ref10_reached v).2)
theorem injO_ref10_reached : ∀ a b, encO_ref10_reached a = encO_ref10_reached b → a = b := by
  rintro a0 b0 h
  have h1 := encR_inj (Prod.mk.inj h).1
  have h2 := encMts_inj (Prod.mk.inj h).2
  simp [o_ref10_reached] at h1 h2
  simp [h1, h2]
noncomputable abbrev X_ref10_reached (v1 : I6) (n : Nat) : Option R := (lvl Try.prog HH n).2 42 [.s (.agg true [.v (.int .i64 v1.c0), .v (.int .i64 v1.c1), .v (.int .i64 v1.c2), .v (.int .i64 v1.c3), .v (.int .i64 v1.c4), .v (.int .i64 v1.c5)])] []
noncomputable def F_ref10_reached (v1 : I6) : Option Bool := den encO_ref10_reached (X_ref10_reached v1)
theorem lim_ref10_reached (k : Nat) (v1 : I6) : Lim (fun v => (encR outs42 (o_ref10_reached v).1, encMts mouts42 (o_ref10_reached v).2)) (fun n => (lvl Try.prog HH (n + k)).2 42 [.s (.agg true [.v (.int .i64 v1.c0), .v (.int .i64 v1.c1), .v (.int .i64 v1.c2), .v (.int .i64 v1.c3), .v (.int .i64 v1.c4), .v (.int .i64 v1.c5)])] []) (F_ref10_reached v1) := Lim.den (x := (X_ref10_reached v1)) k
theorem F_ref10_reached_of (v1 : I6) : ∀ r, ((
    Option.bind (α := E_ref10_reached_0) (
      bif decide (v1.c0 < (-268435456)) then (
        some (.inl false))
      else
      bif decide (v1.c0 > v1.c1) then (
        some (.inl false))
      else
      bif decide (v1.c1 > 268435456) then (
        some (.inl false))
      else
      bif decide (v1.c2 < (-268435456)) then (
        some (.inl false))
      else
      bif decide (v1.c2 > v1.c3) then (
        some (.inl false))
      else
      bif decide (v1.c3 > 268435456) then (
        some (.inl false))
      else
      bif decide (v1.c4 < (-268435456)) then (
        some (.inl false))
      else
      bif decide (v1.c4 > v1.c5) then (
        some (.inl false))
      else
      bif decide (v1.c5 > 268435456) then (
        some (.inl false))
      else
      some (.inr (()))) fun p2 =>
    match p2 with
    | .inl e3 => (
      some e3)
    | .inr e4 => (
      some true)) : Option Bool) = some r →
    F_ref10_reached v1 = some r := fun r h =>
  den_of (x := (X_ref10_reached v1)) injO_ref10_reached 5 (Lim.cong (fun n => fn42 n v1.c0 v1.c1 v1.c2 v1.c3 v1.c4 v1.c5) (by
      refine Lim.bind (e := enc_L_ref10_reached_0) ?_ fun p2 => ?_
      · refine Lim.bif rfl ?_ ?_
        · exact Lim.leaf rfl
        refine Lim.bif rfl ?_ ?_
        · exact Lim.leaf rfl
        refine Lim.bif rfl ?_ ?_
        · exact Lim.leaf rfl
        refine Lim.bif rfl ?_ ?_
        · exact Lim.leaf rfl
        refine Lim.bif rfl ?_ ?_
        · exact Lim.leaf rfl
        refine Lim.bif rfl ?_ ?_
        · exact Lim.leaf rfl
        refine Lim.bif rfl ?_ ?_
        · exact Lim.leaf rfl
        refine Lim.bif rfl ?_ ?_
        · exact Lim.leaf rfl
        refine Lim.bif rfl ?_ ?_
        · exact Lim.leaf rfl
        exact Lim.leaf rfl
      rcases p2 with e3 | e4
      · refine Lim.exit (.ret) S42_0_r ((e3, ()), ()) rfl rfl rfl ?_
        exact Lim.leaf rfl
      · refine Lim.bifF rfl ?_
        refine Lim.exit (.exit 0) S42_0_e0 ((), ()) rfl rfl rfl ?_
        exact Lim.leaf rfl
    )) h
def G_ref10_reached (v1 : I6) : Bool :=
  letIn (α := E_ref10_reached_0) (
    bif decide (v1.c0 < (-268435456)) then (
      (.inl false))
    else
    bif decide (v1.c0 > v1.c1) then (
      (.inl false))
    else
    bif decide (v1.c1 > 268435456) then (
      (.inl false))
    else
    bif decide (v1.c2 < (-268435456)) then (
      (.inl false))
    else
    bif decide (v1.c2 > v1.c3) then (
      (.inl false))
    else
    bif decide (v1.c3 > 268435456) then (
      (.inl false))
    else
    bif decide (v1.c4 < (-268435456)) then (
      (.inl false))
    else
    bif decide (v1.c4 > v1.c5) then (
      (.inl false))
    else
    bif decide (v1.c5 > 268435456) then (
      (.inl false))
    else
    (.inr (()))) fun p2 =>
  match p2 with
  | .inl e3 => (
    e3)
  | .inr e4 => (
    true)
theorem F_ref10_reached_eq (v1 : I6) : F_ref10_reached v1 = some (G_ref10_reached v1) := F_ref10_reached_of v1 _ (by
  unfold G_ref10_reached
  refine Tot.bind ?_ fun p2 => ?_
  · refine Tot.bif ?_ ?_
    · rfl
    refine Tot.bif ?_ ?_
    · rfl
    refine Tot.bif ?_ ?_
    · rfl
    refine Tot.bif ?_ ?_
    · rfl
    refine Tot.bif ?_ ?_
    · rfl
    refine Tot.bif ?_ ?_
    · rfl
    refine Tot.bif ?_ ?_
    · rfl
    refine Tot.bif ?_ ?_
    · rfl
    refine Tot.bif ?_ ?_
    · rfl
    rfl
  rcases p2 with e3 | e4
  · rfl
  · rfl)

/-! armplan/armplanref10.Placed -/
abbrev E_ref10_Placed_0 : Type := (Bool) ⊕ ((List I6))
def enc_L_ref10_Placed_0 : E_ref10_Placed_0 → Ex × St
  | .inl e => (.ret, encSt S36_0_r ((e, ()), ()))
  | .inr e => (.exit 0, encSt S36_0_e0 (((List.map encI6 e), ()), ()))
theorem inj_L_ref10_Placed_0 : ∀ a b, enc_L_ref10_Placed_0 a = enc_L_ref10_Placed_0 b → a = b := by
  rintro (a0 | a0) (b0 | b0) h <;> (first | (cases h; done) | (have h2 := encSt_inj rfl (Prod.mk.inj h).2; simp [map_inj encI6_inj] at h2; simp [h2]) | (have h2 := (Prod.mk.inj h).1; simp at h2) | rfl)
noncomputable abbrev X_L_ref10_Placed_0 (v2 : List I6) (v3 : Int) (n : Nat) : Option (Ex × St) := (lvl Try.prog HH n).1 ⟨36, 0, true⟩ 0 (loopOf Try.f36 0) (encSt S36_0 (((List.map encI6 v2), v3, ()), ()))
noncomputable def L_ref10_Placed_0 (v2 : List I6) (v3 : Int) : Option E_ref10_Placed_0 := den enc_L_ref10_Placed_0 (X_L_ref10_Placed_0 v2 v3)
theorem L_ref10_Placed_0_of (v2 : List I6) (v3 : Int) : ∀ r, ((
    bif decide (v3 < (((v2.length : Nat) : Int))) then (
      bif decide (v3 ≤ 8) then (
        bif decide (0 ≤ v3) then (
          (nth v2 v3.toNat).bind fun x4 =>
          (F_ref10_reached x4).bind fun y5 =>
          bif !y5 then (
            some (.inl false))
          else
          letIn (IntKind.wrap .i64 (v3 + 1) : Int) fun n6 =>
          L_ref10_Placed_0 v2 n6)
        else
        none)
      else
      some (.inr v2))
    else
    some (.inr v2)) : Option E_ref10_Placed_0) = some r →
    L_ref10_Placed_0 v2 v3 = some r := fun r h =>
  den_of (x := (X_L_ref10_Placed_0 v2 v3)) inj_L_ref10_Placed_0 1 (Lim.cong (fun n => loop36_0 n ((List.map encI6 v2)) v3) (by
      refine Lim.bif (by first | with_reducible rfl | (simp only [List.map_replicate, map_upd]; rfl) | (simp [map_upd] <;> rfl) | rfl) ?_ ?_
      · refine Lim.bif rfl ?_ ?_
        · refine Lim.bif rfl ?_ Lim.none_
          refine Lim.nth encI6 rfl rfl fun x4 => ?_
          refine Lim.bifT rfl ?_
          refine Lim.decC (x4.c0, x4.c1, x4.c2, x4.c3, x4.c4, x4.c5, ()) rfl ?_
          refine Lim.call o_ref10_reached (lim_ref10_reached 0 x4) rfl rfl fun y5 => ?_
          refine Lim.bif rfl ?_ ?_
          · exact Lim.leaf rfl
          refine Lim.letIn rfl fun n6 => ?_
          exact Lim.loop 0 rfl
        exact Lim.leaf rfl
      exact Lim.leaf rfl
    )) h
abbrev o_ref10_Placed (v : Bool) : VtsT outs36 × MtsT mouts36 := ((v, ()), ())
abbrev encO_ref10_Placed (v : Bool) : R := (encR outs36 (o_ref10_Placed v).1, encMts mouts36 (o_ref10_Placed v).2)
theorem injO_ref10_Placed : ∀ a b, encO_ref10_Placed a = encO_ref10_Placed b → a = b := by
  rintro a0 b0 h
  have h1 := encR_inj (Prod.mk.inj h).1
  have h2 := encMts_inj (Prod.mk.inj h).2
  simp [o_ref10_Placed] at h1 h2
  simp [h1, h2]
noncomputable abbrev X_ref10_Placed (l1 : List I6) (n : Nat) : Option R := (lvl Try.prog HH n).2 36 [.s (.one (.fr 6 (List.map encI6 l1)))] []
noncomputable def F_ref10_Placed (l1 : List I6) : Option Bool := den encO_ref10_Placed (X_ref10_Placed l1)
theorem lim_ref10_Placed (k : Nat) (l1 : List I6) : Lim (fun v => (encR outs36 (o_ref10_Placed v).1, encMts mouts36 (o_ref10_Placed v).2)) (fun n => (lvl Try.prog HH (n + k)).2 36 [.s (.one (.fr 6 (List.map encI6 l1)))] []) (F_ref10_Placed l1) := Lim.den (x := (X_ref10_Placed l1)) k
theorem F_ref10_Placed_of (l1 : List I6) : ∀ r, ((
    (L_ref10_Placed_0 l1 0).bind fun p7 =>
    match p7 with
    | .inl e8 => (
      some e8)
    | .inr e9 => (
      bif decide ((((e9.length : Nat) : Int)) ≥ 1) then (
        some (decide ((((e9.length : Nat) : Int)) ≤ 8)))
      else
      some false)) : Option Bool) = some r →
    F_ref10_Placed l1 = some r := fun r h =>
  den_of (x := (X_ref10_Placed l1)) injO_ref10_Placed 1 (Lim.cong (fun n => fn36 n ((List.map encI6 l1))) (by
      refine Lim.bind (show Lim enc_L_ref10_Placed_0 _ (L_ref10_Placed_0 l1 0) from Lim.loop 0 rfl) fun p7 => ?_
      rcases p7 with e8 | e9
      · refine Lim.exit (.ret) S36_0_r ((e8, ()), ()) rfl rfl rfl ?_
        exact Lim.leaf rfl
      · refine Lim.bifF rfl ?_
        refine Lim.exit (.exit 0) S36_0_e0 (((List.map encI6 e9), ()), ()) rfl rfl rfl ?_
        refine Lim.bif (by first | with_reducible rfl | (simp only [List.map_replicate, map_upd]; rfl) | (simp [map_upd] <;> rfl) | rfl) ?_ ?_
        · exact Lim.leaf (by first | rfl | (simp [o_ref10_Placed, map_upd] <;> first | rfl | exact ⟨rfl, rfl⟩))
        exact Lim.leaf rfl
    )) h

/-! armplan/armplanref10.Dot -/
abbrev E_ref10_Dot_0 : Type := (Int × Int)
def enc_L_ref10_Dot_0 (e : E_ref10_Dot_0) : Ex × St := (.exit 0, encSt S37_0_e0 ((e.1, e.2, ()), ()))
theorem inj_L_ref10_Dot_0 : ∀ a b, enc_L_ref10_Dot_0 a = enc_L_ref10_Dot_0 b → a = b := by
  rintro ⟨a0, a1⟩ ⟨b0, b1⟩ h
  first | (cases h; done) | (have h2 := encSt_inj rfl (Prod.mk.inj h).2; simp [] at h2; simp [h2]) | (have h2 := (Prod.mk.inj h).1; simp at h2) | rfl
abbrev o_ref10_Dot (v : Int × Int) : VtsT outs37 × MtsT mouts37 := ((v.1, v.2, ()), ())
abbrev encO_ref10_Dot (v : Int × Int) : R := (encR outs37 (o_ref10_Dot v).1, encMts mouts37 (o_ref10_Dot v).2)
theorem injO_ref10_Dot : ∀ a b, encO_ref10_Dot a = encO_ref10_Dot b → a = b := by
  rintro ⟨a0, a1⟩ ⟨b0, b1⟩ h
  have h1 := encR_inj (Prod.mk.inj h).1
  have h2 := encMts_inj (Prod.mk.inj h).2
  simp [o_ref10_Dot] at h1 h2
  simp [h1, h2]
noncomputable abbrev X_ref10_Dot (n1 : I3) (v2 : I6) (n : Nat) : Option R := (lvl Try.prog HH n).2 37 [.s (.agg true [.v (.int .i64 n1.c0), .v (.int .i64 n1.c1), .v (.int .i64 n1.c2)]), .s (.agg true [.v (.int .i64 v2.c0), .v (.int .i64 v2.c1), .v (.int .i64 v2.c2), .v (.int .i64 v2.c3), .v (.int .i64 v2.c4), .v (.int .i64 v2.c5)])] []
noncomputable def F_ref10_Dot (n1 : I3) (v2 : I6) : Option (Int × Int) := den encO_ref10_Dot (X_ref10_Dot n1 v2)
theorem lim_ref10_Dot (k : Nat) (n1 : I3) (v2 : I6) : Lim (fun v => (encR outs37 (o_ref10_Dot v).1, encMts mouts37 (o_ref10_Dot v).2)) (fun n => (lvl Try.prog HH (n + k)).2 37 [.s (.agg true [.v (.int .i64 n1.c0), .v (.int .i64 n1.c1), .v (.int .i64 n1.c2)]), .s (.agg true [.v (.int .i64 v2.c0), .v (.int .i64 v2.c1), .v (.int .i64 v2.c2), .v (.int .i64 v2.c3), .v (.int .i64 v2.c4), .v (.int .i64 v2.c5)])] []) (F_ref10_Dot n1 v2) := Lim.den (x := (X_ref10_Dot n1 v2)) k
theorem F_ref10_Dot_of (n1 : I3) (v2 : I6) : ∀ r, ((
    (F_ref10_Usable n1).bind fun y3 =>
    bif !y3 then (
      some (0, 0))
    else
    (F_ref10_reached v2).bind fun y4 =>
    bif !y4 then (
      some (0, 0))
    else
    letIn (IntKind.wrap .i64 (n1.c0 * v2.c0) : Int) fun n5 =>
    letIn (IntKind.wrap .i64 (n1.c0 * v2.c1) : Int) fun n6 =>
    letIn (if n6 < n5 then n6 else n5 : Int) fun n7 =>
    letIn (IntKind.wrap .i64 (0 + n7) : Int) fun n8 =>
    letIn (if n6 > n5 then n6 else n5 : Int) fun n9 =>
    letIn (IntKind.wrap .i64 (0 + n9) : Int) fun n10 =>
    letIn (IntKind.wrap .i64 (n1.c1 * v2.c2) : Int) fun n11 =>
    letIn (IntKind.wrap .i64 (n1.c1 * v2.c3) : Int) fun n12 =>
    letIn (if n12 < n11 then n12 else n11 : Int) fun n13 =>
    letIn (IntKind.wrap .i64 (n8 + n13) : Int) fun n14 =>
    letIn (if n12 > n11 then n12 else n11 : Int) fun n15 =>
    letIn (IntKind.wrap .i64 (n10 + n15) : Int) fun n16 =>
    letIn (IntKind.wrap .i64 (n1.c2 * v2.c4) : Int) fun n17 =>
    letIn (IntKind.wrap .i64 (n1.c2 * v2.c5) : Int) fun n18 =>
    letIn (if n18 < n17 then n18 else n17 : Int) fun n19 =>
    letIn (IntKind.wrap .i64 (n14 + n19) : Int) fun n20 =>
    letIn (if n18 > n17 then n18 else n17 : Int) fun n21 =>
    letIn (IntKind.wrap .i64 (n16 + n21) : Int) fun n22 =>
    some (n20, n22)) : Option (Int × Int)) = some r →
    F_ref10_Dot n1 v2 = some r := fun r h =>
  den_of (x := (X_ref10_Dot n1 v2)) injO_ref10_Dot 5 (Lim.cong (fun n => fn37 n n1.c0 n1.c1 n1.c2 v2.c0 v2.c1 v2.c2 v2.c3 v2.c4 v2.c5) (by
      refine Lim.call o_ref10_Usable (lim_ref10_Usable 4 n1) rfl rfl fun y3 => ?_
      refine Lim.bif rfl ?_ ?_
      · exact Lim.leaf rfl
      refine Lim.call o_ref10_reached (lim_ref10_reached 4 v2) rfl rfl fun y4 => ?_
      refine Lim.bif rfl ?_ ?_
      · exact Lim.leaf rfl
      refine Lim.letIn rfl fun n5 => ?_
      refine Lim.letIn rfl fun n6 => ?_
      refine Lim.letIn rfl fun n7 => ?_
      refine Lim.letIn rfl fun n8 => ?_
      refine Lim.letIn rfl fun n9 => ?_
      refine Lim.letIn rfl fun n10 => ?_
      refine Lim.letIn rfl fun n11 => ?_
      refine Lim.letIn rfl fun n12 => ?_
      refine Lim.letIn rfl fun n13 => ?_
      refine Lim.letIn rfl fun n14 => ?_
      refine Lim.letIn rfl fun n15 => ?_
      refine Lim.letIn rfl fun n16 => ?_
      refine Lim.letIn rfl fun n17 => ?_
      refine Lim.letIn rfl fun n18 => ?_
      refine Lim.letIn rfl fun n19 => ?_
      refine Lim.letIn rfl fun n20 => ?_
      refine Lim.letIn rfl fun n21 => ?_
      refine Lim.letIn rfl fun n22 => ?_
      exact Lim.leaf rfl
    )) h
def G_ref10_Dot (n1 : I3) (v2 : I6) : Int × Int :=
  letIn (G_ref10_Usable n1) fun y3 =>
  bif !y3 then (
    (0, 0))
  else
  letIn (G_ref10_reached v2) fun y4 =>
  bif !y4 then (
    (0, 0))
  else
  letIn (IntKind.wrap .i64 (n1.c0 * v2.c0) : Int) fun n5 =>
  letIn (IntKind.wrap .i64 (n1.c0 * v2.c1) : Int) fun n6 =>
  letIn (if n6 < n5 then n6 else n5 : Int) fun n7 =>
  letIn (IntKind.wrap .i64 (0 + n7) : Int) fun n8 =>
  letIn (if n6 > n5 then n6 else n5 : Int) fun n9 =>
  letIn (IntKind.wrap .i64 (0 + n9) : Int) fun n10 =>
  letIn (IntKind.wrap .i64 (n1.c1 * v2.c2) : Int) fun n11 =>
  letIn (IntKind.wrap .i64 (n1.c1 * v2.c3) : Int) fun n12 =>
  letIn (if n12 < n11 then n12 else n11 : Int) fun n13 =>
  letIn (IntKind.wrap .i64 (n8 + n13) : Int) fun n14 =>
  letIn (if n12 > n11 then n12 else n11 : Int) fun n15 =>
  letIn (IntKind.wrap .i64 (n10 + n15) : Int) fun n16 =>
  letIn (IntKind.wrap .i64 (n1.c2 * v2.c4) : Int) fun n17 =>
  letIn (IntKind.wrap .i64 (n1.c2 * v2.c5) : Int) fun n18 =>
  letIn (if n18 < n17 then n18 else n17 : Int) fun n19 =>
  letIn (IntKind.wrap .i64 (n14 + n19) : Int) fun n20 =>
  letIn (if n18 > n17 then n18 else n17 : Int) fun n21 =>
  letIn (IntKind.wrap .i64 (n16 + n21) : Int) fun n22 =>
  (n20, n22)
theorem F_ref10_Dot_eq (n1 : I3) (v2 : I6) : F_ref10_Dot n1 v2 = some (G_ref10_Dot n1 v2) := F_ref10_Dot_of n1 v2 _ (by
  unfold G_ref10_Dot
  refine Tot.bind (F_ref10_Usable_eq n1) fun y3 => ?_
  refine Tot.bif ?_ ?_
  · rfl
  refine Tot.bind (F_ref10_reached_eq v2) fun y4 => ?_
  refine Tot.bif ?_ ?_
  · rfl
  refine Tot.letIn fun n5 => ?_
  refine Tot.letIn fun n6 => ?_
  refine Tot.letIn fun n7 => ?_
  refine Tot.letIn fun n8 => ?_
  refine Tot.letIn fun n9 => ?_
  refine Tot.letIn fun n10 => ?_
  refine Tot.letIn fun n11 => ?_
  refine Tot.letIn fun n12 => ?_
  refine Tot.letIn fun n13 => ?_
  refine Tot.letIn fun n14 => ?_
  refine Tot.letIn fun n15 => ?_
  refine Tot.letIn fun n16 => ?_
  refine Tot.letIn fun n17 => ?_
  refine Tot.letIn fun n18 => ?_
  refine Tot.letIn fun n19 => ?_
  refine Tot.letIn fun n20 => ?_
  refine Tot.letIn fun n21 => ?_
  refine Tot.letIn fun n22 => ?_
  rfl)

/-! armplan/armplanref10.Least -/
abbrev E_ref10_Least_0 : Type := (Int × Int)
def enc_L_ref10_Least_0 (e : E_ref10_Least_0) : Ex × St := (.exit 0, encSt S25_0_e0 ((e.1, e.2, ()), ()))
theorem inj_L_ref10_Least_0 : ∀ a b, enc_L_ref10_Least_0 a = enc_L_ref10_Least_0 b → a = b := by
  rintro ⟨a0, a1⟩ ⟨b0, b1⟩ h
  first | (cases h; done) | (have h2 := encSt_inj rfl (Prod.mk.inj h).2; simp [] at h2; simp [h2]) | (have h2 := (Prod.mk.inj h).1; simp at h2) | rfl
noncomputable abbrev X_L_ref10_Least_0 (v5 : List I6) (v6 : Int) (v7 : Int) (v8 : Int) (c9 : I3) (n : Nat) : Option (Ex × St) := (lvl Try.prog HH n).1 ⟨25, 0, true⟩ 0 (loopOf Try.f25 0) (encSt S25_0 (((List.map encI6 v5), (), v6, v7, v8, ()), ((c9.c0, c9.c1, c9.c2, ()), ())))
noncomputable def L_ref10_Least_0 (v5 : List I6) (v6 : Int) (v7 : Int) (v8 : Int) (c9 : I3) : Option E_ref10_Least_0 := den enc_L_ref10_Least_0 (X_L_ref10_Least_0 v5 v6 v7 v8 c9)
theorem L_ref10_Least_0_of (v5 : List I6) (v6 : Int) (v7 : Int) (v8 : Int) (c9 : I3) : ∀ r, ((
    bif decide (v8 < (((v5.length : Nat) : Int))) then (
      bif decide (0 ≤ v8) then (
        (nth v5 v8.toNat).bind fun x10 =>
        (F_ref10_Dot c9 x10).bind fun y11 =>
        bif v8 == 0 then (
          letIn (IntKind.wrap .i64 (v8 + 1) : Int) fun n12 =>
          L_ref10_Least_0 v5 y11.1 v8 n12 c9)
        else
        bif decide (y11.1 < v6) then (
          letIn (IntKind.wrap .i64 (v8 + 1) : Int) fun n13 =>
          L_ref10_Least_0 v5 y11.1 v8 n13 c9)
        else
        letIn (IntKind.wrap .i64 (v8 + 1) : Int) fun n14 =>
        L_ref10_Least_0 v5 v6 v7 n14 c9)
      else
      none)
    else
    some ((v6, v7))) : Option E_ref10_Least_0) = some r →
    L_ref10_Least_0 v5 v6 v7 v8 c9 = some r := fun r h =>
  den_of (x := (X_L_ref10_Least_0 v5 v6 v7 v8 c9)) inj_L_ref10_Least_0 1 (Lim.cong (fun n => loop25_0 n ((List.map encI6 v5)) v6 v7 v8 c9.c0 c9.c1 c9.c2) (by
      refine Lim.bif (by first | with_reducible rfl | (simp only [List.map_replicate, map_upd]; rfl) | (simp [map_upd] <;> rfl) | rfl) ?_ ?_
      · refine Lim.bif rfl ?_ Lim.none_
        refine Lim.nth encI6 rfl rfl fun x10 => ?_
        refine Lim.bifT rfl ?_
        refine Lim.decC (x10.c0, x10.c1, x10.c2, x10.c3, x10.c4, x10.c5, ()) rfl ?_
        refine Lim.call o_ref10_Dot (lim_ref10_Dot 0 c9 x10) rfl rfl fun y11 => ?_
        refine Lim.bif rfl ?_ ?_
        · refine Lim.letIn rfl fun n12 => ?_
          exact Lim.loop 0 rfl
        refine Lim.bif rfl ?_ ?_
        · refine Lim.letIn rfl fun n13 => ?_
          exact Lim.loop 0 rfl
        refine Lim.letIn rfl fun n14 => ?_
        exact Lim.loop 0 rfl
      exact Lim.leaf rfl
    )) h
abbrev o_ref10_Least (v : Int × Int × Bool) : VtsT outs25 × MtsT mouts25 := ((v.1, v.2.1, v.2.2, ()), ())
abbrev encO_ref10_Least (v : Int × Int × Bool) : R := (encR outs25 (o_ref10_Least v).1, encMts mouts25 (o_ref10_Least v).2)
theorem injO_ref10_Least : ∀ a b, encO_ref10_Least a = encO_ref10_Least b → a = b := by
  rintro ⟨a0, a1, a2⟩ ⟨b0, b1, b2⟩ h
  have h1 := encR_inj (Prod.mk.inj h).1
  have h2 := encMts_inj (Prod.mk.inj h).2
  simp [o_ref10_Least] at h1 h2
  simp [h1, h2]
noncomputable abbrev X_ref10_Least (n1 : I3) (l2 : List I6) (n : Nat) : Option R := (lvl Try.prog HH n).2 25 [.s (.agg true [.v (.int .i64 n1.c0), .v (.int .i64 n1.c1), .v (.int .i64 n1.c2)]), .s (.one (.fr 6 (List.map encI6 l2)))] []
noncomputable def F_ref10_Least (n1 : I3) (l2 : List I6) : Option (Int × Int × Bool) := den encO_ref10_Least (X_ref10_Least n1 l2)
theorem lim_ref10_Least (k : Nat) (n1 : I3) (l2 : List I6) : Lim (fun v => (encR outs25 (o_ref10_Least v).1, encMts mouts25 (o_ref10_Least v).2)) (fun n => (lvl Try.prog HH (n + k)).2 25 [.s (.agg true [.v (.int .i64 n1.c0), .v (.int .i64 n1.c1), .v (.int .i64 n1.c2)]), .s (.one (.fr 6 (List.map encI6 l2)))] []) (F_ref10_Least n1 l2) := Lim.den (x := (X_ref10_Least n1 l2)) k
theorem F_ref10_Least_of (n1 : I3) (l2 : List I6) : ∀ r, ((
    (F_ref10_Usable n1).bind fun y3 =>
    bif !y3 then (
      some (0, 0, false))
    else
    (F_ref10_Placed l2).bind fun y4 =>
    bif !y4 then (
      some (0, 0, false))
    else
    (L_ref10_Least_0 l2 0 0 0 n1).bind fun p15 =>
    some (p15.1, p15.2, true)) : Option (Int × Int × Bool)) = some r →
    F_ref10_Least n1 l2 = some r := fun r h =>
  den_of (x := (X_ref10_Least n1 l2)) injO_ref10_Least 1 (Lim.cong (fun n => fn25 n n1.c0 n1.c1 n1.c2 ((List.map encI6 l2))) (by
      refine Lim.call o_ref10_Usable (lim_ref10_Usable 0 n1) rfl rfl fun y3 => ?_
      refine Lim.bif rfl ?_ ?_
      · exact Lim.leaf rfl
      refine Lim.call o_ref10_Placed (lim_ref10_Placed 0 l2) rfl rfl fun y4 => ?_
      refine Lim.bif rfl ?_ ?_
      · exact Lim.leaf rfl
      refine Lim.bind (show Lim enc_L_ref10_Least_0 _ (L_ref10_Least_0 l2 0 0 0 n1) from Lim.loop 0 rfl) fun p15 => ?_
      refine Lim.exit (.exit 0) S25_0_e0 ((p15.1, p15.2, ()), ()) rfl rfl rfl ?_
      exact Lim.leaf rfl
    )) h

/-! armplan/support.Greatest$1 -/
abbrev o_support_Greatest_1 (v : Int × I3) : VtsT outs38 × MtsT mouts38 := ((v.1, ()), ((v.2.c0, v.2.c1, v.2.c2, ()), ()))
abbrev encO_support_Greatest_1 (v : Int × I3) : R := (encR outs38 (o_support_Greatest_1 v).1, encMts mouts38 (o_support_Greatest_1 v).2)
theorem injO_support_Greatest_1 : ∀ a b, encO_support_Greatest_1 a = encO_support_Greatest_1 b → a = b := by
  rintro ⟨a0, ⟨a1, a2, a3⟩⟩ ⟨b0, ⟨b1, b2, b3⟩⟩ h
  have h1 := encR_inj (Prod.mk.inj h).1
  have h2 := encMts_inj (Prod.mk.inj h).2
  simp [o_support_Greatest_1] at h1 h2
  simp [h1, h2]
noncomputable abbrev X_support_Greatest_1 (v1 : I6) (c2 : I3) (n : Nat) : Option R := (lvl Try.prog HH n).2 38 [.s (.agg true [.v (.int .i64 v1.c0), .v (.int .i64 v1.c1), .v (.int .i64 v1.c2), .v (.int .i64 v1.c3), .v (.int .i64 v1.c4), .v (.int .i64 v1.c5)]), .s (.one (.ptr 0 0 0))] [.own 3 true [[.v (.int .i64 c2.c0), .v (.int .i64 c2.c1), .v (.int .i64 c2.c2)]]]
noncomputable def F_support_Greatest_1 (v1 : I6) (c2 : I3) : Option (Int × I3) := den encO_support_Greatest_1 (X_support_Greatest_1 v1 c2)
theorem lim_support_Greatest_1 (k : Nat) (v1 : I6) (c2 : I3) : Lim (fun v => (encR outs38 (o_support_Greatest_1 v).1, encMts mouts38 (o_support_Greatest_1 v).2)) (fun n => (lvl Try.prog HH (n + k)).2 38 [.s (.agg true [.v (.int .i64 v1.c0), .v (.int .i64 v1.c1), .v (.int .i64 v1.c2), .v (.int .i64 v1.c3), .v (.int .i64 v1.c4), .v (.int .i64 v1.c5)]), .s (.one (.ptr 0 0 0))] [.own 3 true [[.v (.int .i64 c2.c0), .v (.int .i64 c2.c1), .v (.int .i64 c2.c2)]]]) (F_support_Greatest_1 v1 c2) := Lim.den (x := (X_support_Greatest_1 v1 c2)) k
theorem F_support_Greatest_1_of (v1 : I6) (c2 : I3) : ∀ r, ((
    (F_support_dot c2 v1).bind fun y3 =>
    some (y3.2, c2)) : Option (Int × I3)) = some r →
    F_support_Greatest_1 v1 c2 = some r := fun r h =>
  den_of (x := (X_support_Greatest_1 v1 c2)) injO_support_Greatest_1 1 (Lim.cong (fun n => fn38s0 n v1.c0 v1.c1 v1.c2 v1.c3 v1.c4 v1.c5 c2.c0 c2.c1 c2.c2) (by
      refine Lim.call o_support_dot (lim_support_dot 0 c2 v1) rfl rfl fun y3 => ?_
      exact Lim.leaf rfl
    )) h
def G_support_Greatest_1 (v1 : I6) (c2 : I3) : Int × I3 :=
  letIn (G_support_dot c2 v1) fun y3 =>
  (y3.2, c2)
theorem F_support_Greatest_1_eq (v1 : I6) (c2 : I3) : F_support_Greatest_1 v1 c2 = some (G_support_Greatest_1 v1 c2) := F_support_Greatest_1_of v1 c2 _ (by
  unfold G_support_Greatest_1
  refine Tot.bind (F_support_dot_eq c2 v1) fun y3 => ?_
  rfl)

/-! armplan/support.Greatest$2 -/
abbrev o_support_Greatest_2 (v : Bool) : VtsT outs39 × MtsT mouts39 := ((v, ()), ())
abbrev encO_support_Greatest_2 (v : Bool) : R := (encR outs39 (o_support_Greatest_2 v).1, encMts mouts39 (o_support_Greatest_2 v).2)
theorem injO_support_Greatest_2 : ∀ a b, encO_support_Greatest_2 a = encO_support_Greatest_2 b → a = b := by
  rintro a0 b0 h
  have h1 := encR_inj (Prod.mk.inj h).1
  have h2 := encMts_inj (Prod.mk.inj h).2
  simp [o_support_Greatest_2] at h1 h2
  simp [h1, h2]
noncomputable abbrev X_support_Greatest_2 (x1 : Int) (y2 : Int) (n : Nat) : Option R := (lvl Try.prog HH n).2 39 [.s (.one (.v (.int .i64 x1))), .s (.one (.v (.int .i64 y2)))] []
noncomputable def F_support_Greatest_2 (x1 : Int) (y2 : Int) : Option Bool := den encO_support_Greatest_2 (X_support_Greatest_2 x1 y2)
theorem lim_support_Greatest_2 (k : Nat) (x1 : Int) (y2 : Int) : Lim (fun v => (encR outs39 (o_support_Greatest_2 v).1, encMts mouts39 (o_support_Greatest_2 v).2)) (fun n => (lvl Try.prog HH (n + k)).2 39 [.s (.one (.v (.int .i64 x1))), .s (.one (.v (.int .i64 y2)))] []) (F_support_Greatest_2 x1 y2) := Lim.den (x := (X_support_Greatest_2 x1 y2)) k
theorem F_support_Greatest_2_of (x1 : Int) (y2 : Int) : ∀ r, ((
    some (decide (x1 > y2))) : Option Bool) = some r →
    F_support_Greatest_2 x1 y2 = some r := fun r h =>
  den_of (x := (X_support_Greatest_2 x1 y2)) injO_support_Greatest_2 1 (Lim.cong (fun n => fn39 n x1 y2) (by
      exact Lim.leaf rfl
    )) h
def G_support_Greatest_2 (x1 : Int) (y2 : Int) : Bool :=
  (decide (x1 > y2))
theorem F_support_Greatest_2_eq (x1 : Int) (y2 : Int) : F_support_Greatest_2 x1 y2 = some (G_support_Greatest_2 x1 y2) := F_support_Greatest_2_of x1 y2 _ (by
  unfold G_support_Greatest_2
  rfl)

/-! (armplan/support.search).first -/
abbrev E_support_search_first_support_Greatest_1_support_Greatest_2_0 : Type := (Int × Int × I3)
def enc_L_support_search_first_support_Greatest_1_support_Greatest_2_0 (e : E_support_search_first_support_Greatest_1_support_Greatest_2_0) : Ex × St := (.exit 0, encSt S35s1_0_e0 ((e.1, e.2.1, ()), ((e.2.2.c0, e.2.2.c1, e.2.2.c2, ()), ())))
theorem inj_L_support_search_first_support_Greatest_1_support_Greatest_2_0 : ∀ a b, enc_L_support_search_first_support_Greatest_1_support_Greatest_2_0 a = enc_L_support_search_first_support_Greatest_1_support_Greatest_2_0 b → a = b := by
  rintro ⟨a0, a1, ⟨a2, a3, a4⟩⟩ ⟨b0, b1, ⟨b2, b3, b4⟩⟩ h
  first | (cases h; done) | (have h2 := encSt_inj rfl (Prod.mk.inj h).2; simp [] at h2; simp [h2]) | (have h2 := (Prod.mk.inj h).1; simp at h2) | rfl
noncomputable abbrev X_L_support_search_first_support_Greatest_1_support_Greatest_2_0 (v5 : Int) (v6 : Int) (v7 : List I6) (v8 : Int) (v9 : Int) (c10 : I3) (n : Nat) : Option (Ex × St) := (lvl Try.prog HH n).1 ⟨35, 1, true⟩ 0 (loopOf Try.f35 0) (encSt S35s1_0 (((), v5, v6, (List.map encI6 v7), v8, v9, ()), ((c10.c0, c10.c1, c10.c2, ()), ((.clo 38 [.ptr 0 0 0]), (.v (.func (.func 39) #[] #[])), ()), ())))
noncomputable def L_support_search_first_support_Greatest_1_support_Greatest_2_0 (v5 : Int) (v6 : Int) (v7 : List I6) (v8 : Int) (v9 : Int) (c10 : I3) : Option E_support_search_first_support_Greatest_1_support_Greatest_2_0 := den enc_L_support_search_first_support_Greatest_1_support_Greatest_2_0 (X_L_support_search_first_support_Greatest_1_support_Greatest_2_0 v5 v6 v7 v8 v9 c10)
theorem L_support_search_first_support_Greatest_1_support_Greatest_2_0_of (v5 : Int) (v6 : Int) (v7 : List I6) (v8 : Int) (v9 : Int) (c10 : I3) : ∀ r, ((
    bif decide (v9 < v8) then (
      bif decide (0 ≤ v9) then (
        (nth v7 v9.toNat).bind fun x11 =>
        (F_support_Greatest_1 x11 c10).bind fun y12 =>
        (F_support_Greatest_2 y12.1 v5).bind fun y13 =>
        bif y13 then (
          letIn (IntKind.wrap .i64 (v9 + 1) : Int) fun n14 =>
          L_support_search_first_support_Greatest_1_support_Greatest_2_0 y12.1 v9 v7 v8 n14 c10)
        else
        letIn (IntKind.wrap .i64 (v9 + 1) : Int) fun n15 =>
        L_support_search_first_support_Greatest_1_support_Greatest_2_0 v5 v6 v7 v8 n15 c10)
      else
      none)
    else
    some ((v5, v6, c10))) : Option E_support_search_first_support_Greatest_1_support_Greatest_2_0) = some r →
    L_support_search_first_support_Greatest_1_support_Greatest_2_0 v5 v6 v7 v8 v9 c10 = some r := fun r h =>
  den_of (x := (X_L_support_search_first_support_Greatest_1_support_Greatest_2_0 v5 v6 v7 v8 v9 c10)) inj_L_support_search_first_support_Greatest_1_support_Greatest_2_0 1 (Lim.cong (fun n => loop35s1_0 n v5 v6 ((List.map encI6 v7)) v8 v9 c10.c0 c10.c1 c10.c2) (by
      refine Lim.bif rfl ?_ ?_
      · refine Lim.bif rfl ?_ Lim.none_
        refine Lim.nth encI6 rfl rfl fun x11 => ?_
        refine Lim.bifT rfl ?_
        refine Lim.decC (x11.c0, x11.c1, x11.c2, x11.c3, x11.c4, x11.c5, ()) rfl ?_
        refine Lim.call o_support_Greatest_1 (lim_support_Greatest_1 0 x11 c10) rfl rfl fun y12 => ?_
        refine Lim.call o_support_Greatest_2 (lim_support_Greatest_2 0 y12.1 v5) rfl rfl fun y13 => ?_
        refine Lim.bif rfl ?_ ?_
        · refine Lim.letIn rfl fun n14 => ?_
          exact Lim.loop 0 rfl
        refine Lim.letIn rfl fun n15 => ?_
        exact Lim.loop 0 rfl
      exact Lim.leaf rfl
    )) h
abbrev o_support_search_first_support_Greatest_1_support_Greatest_2 (v : Int × Int × I3) : VtsT outs35 × MtsT mouts35 := ((v.1, v.2.1, ()), ((v.2.2.c0, v.2.2.c1, v.2.2.c2, ()), ()))
abbrev encO_support_search_first_support_Greatest_1_support_Greatest_2 (v : Int × Int × I3) : R := (encR outs35 (o_support_search_first_support_Greatest_1_support_Greatest_2 v).1, encMts mouts35 (o_support_search_first_support_Greatest_1_support_Greatest_2 v).2)
theorem injO_support_search_first_support_Greatest_1_support_Greatest_2 : ∀ a b, encO_support_search_first_support_Greatest_1_support_Greatest_2 a = encO_support_search_first_support_Greatest_1_support_Greatest_2 b → a = b := by
  rintro ⟨a0, a1, ⟨a2, a3, a4⟩⟩ ⟨b0, b1, ⟨b2, b3, b4⟩⟩ h
  have h1 := encR_inj (Prod.mk.inj h).1
  have h2 := encMts_inj (Prod.mk.inj h).2
  simp [o_support_search_first_support_Greatest_1_support_Greatest_2] at h1 h2
  simp [h1, h2]
noncomputable abbrev X_support_search_first_support_Greatest_1_support_Greatest_2 (l1 : List I6) (c2 : I3) (n : Nat) : Option R := (lvl Try.prog HH n).2 35 [.s (.agg false [.clo 38 [.ptr 0 0 0], .v (.func (.func 39) #[] #[])]), .s (.one (.fr 6 (List.map encI6 l1)))] [.own 3 true [[.v (.int .i64 c2.c0), .v (.int .i64 c2.c1), .v (.int .i64 c2.c2)]]]
noncomputable def F_support_search_first_support_Greatest_1_support_Greatest_2 (l1 : List I6) (c2 : I3) : Option (Int × Int × I3) := den encO_support_search_first_support_Greatest_1_support_Greatest_2 (X_support_search_first_support_Greatest_1_support_Greatest_2 l1 c2)
theorem lim_support_search_first_support_Greatest_1_support_Greatest_2 (k : Nat) (l1 : List I6) (c2 : I3) : Lim (fun v => (encR outs35 (o_support_search_first_support_Greatest_1_support_Greatest_2 v).1, encMts mouts35 (o_support_search_first_support_Greatest_1_support_Greatest_2 v).2)) (fun n => (lvl Try.prog HH (n + k)).2 35 [.s (.agg false [.clo 38 [.ptr 0 0 0], .v (.func (.func 39) #[] #[])]), .s (.one (.fr 6 (List.map encI6 l1)))] [.own 3 true [[.v (.int .i64 c2.c0), .v (.int .i64 c2.c1), .v (.int .i64 c2.c2)]]]) (F_support_search_first_support_Greatest_1_support_Greatest_2 l1 c2) := Lim.den (x := (X_support_search_first_support_Greatest_1_support_Greatest_2 l1 c2)) k
theorem F_support_search_first_support_Greatest_1_support_Greatest_2_of (l1 : List I6) (c2 : I3) : ∀ r, ((
    (nth l1 0).bind fun x3 =>
    (F_support_Greatest_1 x3 c2).bind fun y4 =>
    (L_support_search_first_support_Greatest_1_support_Greatest_2_0 y4.1 0 l1 (((l1.length : Nat) : Int)) 0 c2).bind fun p16 =>
    some (p16.1, p16.2.1, p16.2.2)) : Option (Int × Int × I3)) = some r →
    F_support_search_first_support_Greatest_1_support_Greatest_2 l1 c2 = some r := fun r h =>
  den_of (x := (X_support_search_first_support_Greatest_1_support_Greatest_2 l1 c2)) injO_support_search_first_support_Greatest_1_support_Greatest_2 1 (Lim.cong (fun n => fn35s1 n ((List.map encI6 l1)) c2.c0 c2.c1 c2.c2) (by
      refine Lim.nth encI6 rfl rfl fun x3 => ?_
      refine Lim.bifT rfl ?_
      refine Lim.decC (x3.c0, x3.c1, x3.c2, x3.c3, x3.c4, x3.c5, ()) rfl ?_
      refine Lim.call o_support_Greatest_1 (lim_support_Greatest_1 0 x3 c2) rfl rfl fun y4 => ?_
      refine Lim.bind (show Lim enc_L_support_search_first_support_Greatest_1_support_Greatest_2_0 _ (L_support_search_first_support_Greatest_1_support_Greatest_2_0 y4.1 0 l1 (((l1.length : Nat) : Int)) 0 c2) from Lim.loop 0 (by first | with_reducible rfl | (simp [map_upd, o_support_Greatest_1] <;> rfl) | (simp only [List.map_append, List.map_cons, List.map_nil, List.map_take, List.map_drop, map_upd, List.map_replicate, List.length_map, o_support_Greatest_1] <;> rfl) | (simp only [List.map_append, List.map_cons, List.map_nil, List.map_take, List.map_drop, map_upd, List.map_replicate, List.length_map, List.length_append, List.length_cons, List.length_nil, o_support_Greatest_1] <;> rfl) | rfl)) fun p16 => ?_
      refine Lim.exit (.exit 0) S35s1_0_e0 ((p16.1, p16.2.1, ()), ((p16.2.2.c0, p16.2.2.c1, p16.2.2.c2, ()), ())) rfl rfl rfl ?_
      exact Lim.leaf rfl
    )) h

/-! armplan/support.Greatest -/
abbrev o_support_Greatest (v : Int × Int × Bool) : VtsT outs26 × MtsT mouts26 := ((v.1, v.2.1, v.2.2, ()), ())
abbrev encO_support_Greatest (v : Int × Int × Bool) : R := (encR outs26 (o_support_Greatest v).1, encMts mouts26 (o_support_Greatest v).2)
theorem injO_support_Greatest : ∀ a b, encO_support_Greatest a = encO_support_Greatest b → a = b := by
  rintro ⟨a0, a1, a2⟩ ⟨b0, b1, b2⟩ h
  have h1 := encR_inj (Prod.mk.inj h).1
  have h2 := encMts_inj (Prod.mk.inj h).2
  simp [o_support_Greatest] at h1 h2
  simp [h1, h2]
noncomputable abbrev X_support_Greatest (n1 : I3) (l2 : List I6) (n : Nat) : Option R := (lvl Try.prog HH n).2 26 [.s (.agg true [.v (.int .i64 n1.c0), .v (.int .i64 n1.c1), .v (.int .i64 n1.c2)]), .s (.one (.fr 6 (List.map encI6 l2)))] []
noncomputable def F_support_Greatest (n1 : I3) (l2 : List I6) : Option (Int × Int × Bool) := den encO_support_Greatest (X_support_Greatest n1 l2)
theorem lim_support_Greatest (k : Nat) (n1 : I3) (l2 : List I6) : Lim (fun v => (encR outs26 (o_support_Greatest v).1, encMts mouts26 (o_support_Greatest v).2)) (fun n => (lvl Try.prog HH (n + k)).2 26 [.s (.agg true [.v (.int .i64 n1.c0), .v (.int .i64 n1.c1), .v (.int .i64 n1.c2)]), .s (.one (.fr 6 (List.map encI6 l2)))] []) (F_support_Greatest n1 l2) := Lim.den (x := (X_support_Greatest n1 l2)) k
theorem F_support_Greatest_of (n1 : I3) (l2 : List I6) : ∀ r, ((
    (F_support_Usable n1).bind fun y3 =>
    bif !y3 then (
      some (0, 0, false))
    else
    (F_shape_Placed l2).bind fun y4 =>
    bif !y4 then (
      some (0, 0, false))
    else
    (F_support_search_first_support_Greatest_1_support_Greatest_2 l2 n1).bind fun y5 =>
    some (y5.1, y5.2.1, true)) : Option (Int × Int × Bool)) = some r →
    F_support_Greatest n1 l2 = some r := fun r h =>
  den_of (x := (X_support_Greatest n1 l2)) injO_support_Greatest 1 (Lim.cong (fun n => fn26 n n1.c0 n1.c1 n1.c2 ((List.map encI6 l2))) (by
      refine Lim.call o_support_Usable (lim_support_Usable 0 n1) rfl rfl fun y3 => ?_
      refine Lim.bif rfl ?_ ?_
      · exact Lim.leaf rfl
      refine Lim.call o_shape_Placed (lim_shape_Placed 0 l2) rfl rfl fun y4 => ?_
      refine Lim.bif rfl ?_ ?_
      · exact Lim.leaf rfl
      refine Lim.call o_support_search_first_support_Greatest_1_support_Greatest_2 (lim_support_search_first_support_Greatest_1_support_Greatest_2 0 l2 n1) rfl rfl fun y5 => ?_
      exact Lim.leaf rfl
    )) h

/-! armplan/armplanref10.Greatest -/
abbrev E_ref10_Greatest_0 : Type := (Int × Int)
def enc_L_ref10_Greatest_0 (e : E_ref10_Greatest_0) : Ex × St := (.exit 0, encSt S27_0_e0 ((e.1, e.2, ()), ()))
theorem inj_L_ref10_Greatest_0 : ∀ a b, enc_L_ref10_Greatest_0 a = enc_L_ref10_Greatest_0 b → a = b := by
  rintro ⟨a0, a1⟩ ⟨b0, b1⟩ h
  first | (cases h; done) | (have h2 := encSt_inj rfl (Prod.mk.inj h).2; simp [] at h2; simp [h2]) | (have h2 := (Prod.mk.inj h).1; simp at h2) | rfl
noncomputable abbrev X_L_ref10_Greatest_0 (v5 : List I6) (v6 : Int) (v7 : Int) (v8 : Int) (c9 : I3) (n : Nat) : Option (Ex × St) := (lvl Try.prog HH n).1 ⟨27, 0, true⟩ 0 (loopOf Try.f27 0) (encSt S27_0 (((List.map encI6 v5), (), v6, v7, v8, ()), ((c9.c0, c9.c1, c9.c2, ()), ())))
noncomputable def L_ref10_Greatest_0 (v5 : List I6) (v6 : Int) (v7 : Int) (v8 : Int) (c9 : I3) : Option E_ref10_Greatest_0 := den enc_L_ref10_Greatest_0 (X_L_ref10_Greatest_0 v5 v6 v7 v8 c9)
theorem L_ref10_Greatest_0_of (v5 : List I6) (v6 : Int) (v7 : Int) (v8 : Int) (c9 : I3) : ∀ r, ((
    bif decide (v8 < (((v5.length : Nat) : Int))) then (
      bif decide (0 ≤ v8) then (
        (nth v5 v8.toNat).bind fun x10 =>
        (F_ref10_Dot c9 x10).bind fun y11 =>
        bif v8 == 0 then (
          letIn (IntKind.wrap .i64 (v8 + 1) : Int) fun n12 =>
          L_ref10_Greatest_0 v5 y11.2 v8 n12 c9)
        else
        bif decide (y11.2 > v6) then (
          letIn (IntKind.wrap .i64 (v8 + 1) : Int) fun n13 =>
          L_ref10_Greatest_0 v5 y11.2 v8 n13 c9)
        else
        letIn (IntKind.wrap .i64 (v8 + 1) : Int) fun n14 =>
        L_ref10_Greatest_0 v5 v6 v7 n14 c9)
      else
      none)
    else
    some ((v6, v7))) : Option E_ref10_Greatest_0) = some r →
    L_ref10_Greatest_0 v5 v6 v7 v8 c9 = some r := fun r h =>
  den_of (x := (X_L_ref10_Greatest_0 v5 v6 v7 v8 c9)) inj_L_ref10_Greatest_0 1 (Lim.cong (fun n => loop27_0 n ((List.map encI6 v5)) v6 v7 v8 c9.c0 c9.c1 c9.c2) (by
      refine Lim.bif (by first | with_reducible rfl | (simp only [List.map_replicate, map_upd]; rfl) | (simp [map_upd] <;> rfl) | rfl) ?_ ?_
      · refine Lim.bif rfl ?_ Lim.none_
        refine Lim.nth encI6 rfl rfl fun x10 => ?_
        refine Lim.bifT rfl ?_
        refine Lim.decC (x10.c0, x10.c1, x10.c2, x10.c3, x10.c4, x10.c5, ()) rfl ?_
        refine Lim.call o_ref10_Dot (lim_ref10_Dot 0 c9 x10) rfl rfl fun y11 => ?_
        refine Lim.bif rfl ?_ ?_
        · refine Lim.letIn rfl fun n12 => ?_
          exact Lim.loop 0 rfl
        refine Lim.bif rfl ?_ ?_
        · refine Lim.letIn rfl fun n13 => ?_
          exact Lim.loop 0 rfl
        refine Lim.letIn rfl fun n14 => ?_
        exact Lim.loop 0 rfl
      exact Lim.leaf rfl
    )) h
abbrev o_ref10_Greatest (v : Int × Int × Bool) : VtsT outs27 × MtsT mouts27 := ((v.1, v.2.1, v.2.2, ()), ())
abbrev encO_ref10_Greatest (v : Int × Int × Bool) : R := (encR outs27 (o_ref10_Greatest v).1, encMts mouts27 (o_ref10_Greatest v).2)
theorem injO_ref10_Greatest : ∀ a b, encO_ref10_Greatest a = encO_ref10_Greatest b → a = b := by
  rintro ⟨a0, a1, a2⟩ ⟨b0, b1, b2⟩ h
  have h1 := encR_inj (Prod.mk.inj h).1
  have h2 := encMts_inj (Prod.mk.inj h).2
  simp [o_ref10_Greatest] at h1 h2
  simp [h1, h2]
noncomputable abbrev X_ref10_Greatest (n1 : I3) (l2 : List I6) (n : Nat) : Option R := (lvl Try.prog HH n).2 27 [.s (.agg true [.v (.int .i64 n1.c0), .v (.int .i64 n1.c1), .v (.int .i64 n1.c2)]), .s (.one (.fr 6 (List.map encI6 l2)))] []
noncomputable def F_ref10_Greatest (n1 : I3) (l2 : List I6) : Option (Int × Int × Bool) := den encO_ref10_Greatest (X_ref10_Greatest n1 l2)
theorem lim_ref10_Greatest (k : Nat) (n1 : I3) (l2 : List I6) : Lim (fun v => (encR outs27 (o_ref10_Greatest v).1, encMts mouts27 (o_ref10_Greatest v).2)) (fun n => (lvl Try.prog HH (n + k)).2 27 [.s (.agg true [.v (.int .i64 n1.c0), .v (.int .i64 n1.c1), .v (.int .i64 n1.c2)]), .s (.one (.fr 6 (List.map encI6 l2)))] []) (F_ref10_Greatest n1 l2) := Lim.den (x := (X_ref10_Greatest n1 l2)) k
theorem F_ref10_Greatest_of (n1 : I3) (l2 : List I6) : ∀ r, ((
    (F_ref10_Usable n1).bind fun y3 =>
    bif !y3 then (
      some (0, 0, false))
    else
    (F_ref10_Placed l2).bind fun y4 =>
    bif !y4 then (
      some (0, 0, false))
    else
    (L_ref10_Greatest_0 l2 0 0 0 n1).bind fun p15 =>
    some (p15.1, p15.2, true)) : Option (Int × Int × Bool)) = some r →
    F_ref10_Greatest n1 l2 = some r := fun r h =>
  den_of (x := (X_ref10_Greatest n1 l2)) injO_ref10_Greatest 1 (Lim.cong (fun n => fn27 n n1.c0 n1.c1 n1.c2 ((List.map encI6 l2))) (by
      refine Lim.call o_ref10_Usable (lim_ref10_Usable 0 n1) rfl rfl fun y3 => ?_
      refine Lim.bif rfl ?_ ?_
      · exact Lim.leaf rfl
      refine Lim.call o_ref10_Placed (lim_ref10_Placed 0 l2) rfl rfl fun y4 => ?_
      refine Lim.bif rfl ?_ ?_
      · exact Lim.leaf rfl
      refine Lim.bind (show Lim enc_L_ref10_Greatest_0 _ (L_ref10_Greatest_0 l2 0 0 0 n1) from Lim.loop 0 rfl) fun p15 => ?_
      refine Lim.exit (.exit 0) S27_0_e0 ((p15.1, p15.2, ()), ()) rfl rfl rfl ?_
      exact Lim.leaf rfl
    )) h

/-! armplan/armplanlaw13.extremes -/
abbrev o_law13_extremes (v : Bool) : VtsT outs13 × MtsT mouts13 := ((v, ()), ())
abbrev encO_law13_extremes (v : Bool) : R := (encR outs13 (o_law13_extremes v).1, encMts mouts13 (o_law13_extremes v).2)
theorem injO_law13_extremes : ∀ a b, encO_law13_extremes a = encO_law13_extremes b → a = b := by
  rintro a0 b0 h
  have h1 := encR_inj (Prod.mk.inj h).1
  have h2 := encMts_inj (Prod.mk.inj h).2
  simp [o_law13_extremes] at h1 h2
  simp [h1, h2]
noncomputable abbrev X_law13_extremes (n1 : I3) (l2 : List I6) (n : Nat) : Option R := (lvl Try.prog HH n).2 13 [.s (.agg true [.v (.int .i64 n1.c0), .v (.int .i64 n1.c1), .v (.int .i64 n1.c2)]), .s (.one (.fr 6 (List.map encI6 l2)))] []
noncomputable def F_law13_extremes (n1 : I3) (l2 : List I6) : Option Bool := den encO_law13_extremes (X_law13_extremes n1 l2)
theorem lim_law13_extremes (k : Nat) (n1 : I3) (l2 : List I6) : Lim (fun v => (encR outs13 (o_law13_extremes v).1, encMts mouts13 (o_law13_extremes v).2)) (fun n => (lvl Try.prog HH (n + k)).2 13 [.s (.agg true [.v (.int .i64 n1.c0), .v (.int .i64 n1.c1), .v (.int .i64 n1.c2)]), .s (.one (.fr 6 (List.map encI6 l2)))] []) (F_law13_extremes n1 l2) := Lim.den (x := (X_law13_extremes n1 l2)) k
theorem F_law13_extremes_of (n1 : I3) (l2 : List I6) : ∀ r, ((
    (F_support_Least n1 l2).bind fun y3 =>
    (F_ref10_Least n1 l2).bind fun y4 =>
    (F_support_Greatest n1 l2).bind fun y5 =>
    (F_ref10_Greatest n1 l2).bind fun y6 =>
    bif y3.1 == y4.1 then (
      bif y3.2.1 == y4.2.1 then (
        bif y3.2.2 == y4.2.2 then (
          bif y5.1 == y6.1 then (
            bif y5.2.1 == y6.2.1 then (
              some (y5.2.2 == y6.2.2))
            else
            some false)
          else
          some false)
        else
        some false)
      else
      some false)
    else
    some false) : Option Bool) = some r →
    F_law13_extremes n1 l2 = some r := fun r h =>
  den_of (x := (X_law13_extremes n1 l2)) injO_law13_extremes 1 (Lim.cong (fun n => fn13 n n1.c0 n1.c1 n1.c2 ((List.map encI6 l2))) (by
      refine Lim.call o_support_Least (lim_support_Least 0 n1 l2) rfl rfl fun y3 => ?_
      refine Lim.call o_ref10_Least (lim_ref10_Least 0 n1 l2) rfl rfl fun y4 => ?_
      refine Lim.call o_support_Greatest (lim_support_Greatest 0 n1 l2) rfl rfl fun y5 => ?_
      refine Lim.call o_ref10_Greatest (lim_ref10_Greatest 0 n1 l2) rfl rfl fun y6 => ?_
      refine Lim.bif rfl ?_ ?_
      · refine Lim.bif rfl ?_ ?_
        · refine Lim.bif rfl ?_ ?_
          · refine Lim.bif rfl ?_ ?_
            · refine Lim.bif rfl ?_ ?_
              · exact Lim.leaf rfl
              exact Lim.leaf rfl
            exact Lim.leaf rfl
          exact Lim.leaf rfl
        exact Lim.leaf rfl
      exact Lim.leaf rfl
    )) h

/-! armplan/armplanlaw13.SupportExtremes -/
abbrev o_law13_SupportExtremes (v : Bool) : VtsT outs5 × MtsT mouts5 := ((v, ()), ())
abbrev encO_law13_SupportExtremes (v : Bool) : R := (encR outs5 (o_law13_SupportExtremes v).1, encMts mouts5 (o_law13_SupportExtremes v).2)
theorem injO_law13_SupportExtremes : ∀ a b, encO_law13_SupportExtremes a = encO_law13_SupportExtremes b → a = b := by
  rintro a0 b0 h
  have h1 := encR_inj (Prod.mk.inj h).1
  have h2 := encMts_inj (Prod.mk.inj h).2
  simp [o_law13_SupportExtremes] at h1 h2
  simp [h1, h2]
noncomputable abbrev X_law13_SupportExtremes (n1 : I3) (raw2 : List I6) (a3 : Int) (b4 : Int) (c5 : Int) (l6 : List Int) (n : Nat) : Option R := (lvl Try.prog HH n).2 5 [.s (.agg true [.v (.int .i64 n1.c0), .v (.int .i64 n1.c1), .v (.int .i64 n1.c2)]), .s (.one (.fr 6 (List.map encI6 raw2))), .s (.one (.v (.int .i64 a3))), .s (.one (.v (.int .i64 b4))), .s (.one (.v (.int .i64 c5))), .s (.one (.fr 1 (List.map encI l6)))] []
noncomputable def F_law13_SupportExtremes (n1 : I3) (raw2 : List I6) (a3 : Int) (b4 : Int) (c5 : Int) (l6 : List Int) : Option Bool := den encO_law13_SupportExtremes (X_law13_SupportExtremes n1 raw2 a3 b4 c5 l6)
theorem lim_law13_SupportExtremes (k : Nat) (n1 : I3) (raw2 : List I6) (a3 : Int) (b4 : Int) (c5 : Int) (l6 : List Int) : Lim (fun v => (encR outs5 (o_law13_SupportExtremes v).1, encMts mouts5 (o_law13_SupportExtremes v).2)) (fun n => (lvl Try.prog HH (n + k)).2 5 [.s (.agg true [.v (.int .i64 n1.c0), .v (.int .i64 n1.c1), .v (.int .i64 n1.c2)]), .s (.one (.fr 6 (List.map encI6 raw2))), .s (.one (.v (.int .i64 a3))), .s (.one (.v (.int .i64 b4))), .s (.one (.v (.int .i64 c5))), .s (.one (.fr 1 (List.map encI l6)))] []) (F_law13_SupportExtremes n1 raw2 a3 b4 c5 l6) := Lim.den (x := (X_law13_SupportExtremes n1 raw2 a3 b4 c5 l6)) k
theorem F_law13_SupportExtremes_of (n1 : I3) (raw2 : List I6) (a3 : Int) (b4 : Int) (c5 : Int) (l6 : List Int) : ∀ r, ((
    (F_make_Normal a3 b4 c5).bind fun y7 =>
    (F_make_Points l6 3000).bind fun y8 =>
    (F_law13_awake).bind fun y9 =>
    bif y9 then (
      (F_law13_extremes n1 raw2).bind fun y10 =>
      bif y10 then (
        (F_law13_extremes y7 y8).bind fun y11 =>
        bif y11 then (
          (nth y8 0).bind fun x12 =>
          (nth y8 0).bind fun x13 =>
          bif decide ((y8.length + 1) * 48 ≤ 140737488355328) then (
            (F_law13_extremes y7 (y8 ++ [x13])).bind fun y14 =>
            bif y14 then (
              (F_law13_extremes n1 y8).bind fun y15 =>
              bif y15 then (
                (F_law13_extremes y7 raw2).bind fun y16 =>
                some y16)
              else
              some false)
            else
            some false)
          else
          none)
        else
        some false)
      else
      some false)
    else
    some false) : Option Bool) = some r →
    F_law13_SupportExtremes n1 raw2 a3 b4 c5 l6 = some r := fun r h =>
  den_of (x := (X_law13_SupportExtremes n1 raw2 a3 b4 c5 l6)) injO_law13_SupportExtremes 1 (Lim.cong (fun n => fn5 n n1.c0 n1.c1 n1.c2 ((List.map encI6 raw2)) a3 b4 c5 ((List.map encI l6))) (by
      refine Lim.call o_make_Normal (lim_make_Normal 0 a3 b4 c5) rfl rfl fun y7 => ?_
      refine Lim.call o_make_Points (lim_make_Points 0 l6 3000) rfl rfl fun y8 => ?_
      refine Lim.call o_law13_awake (lim_law13_awake 0 ) rfl rfl fun y9 => ?_
      refine Lim.bif rfl ?_ ?_
      · refine Lim.call o_law13_extremes (lim_law13_extremes 0 n1 raw2) rfl rfl fun y10 => ?_
        refine Lim.bif rfl ?_ ?_
        · refine Lim.call o_law13_extremes (lim_law13_extremes 0 y7 y8) rfl rfl fun y11 => ?_
          refine Lim.bif rfl ?_ ?_
          · refine Lim.nth encI6 rfl rfl fun x12 => ?_
            refine Lim.nth encI6 rfl rfl fun x13 => ?_
            refine Lim.bifT rfl ?_
            refine Lim.decC (x13.c0, x13.c1, x13.c2, x13.c3, x13.c4, x13.c5, ()) rfl ?_
            refine Lim.bif (by first | with_reducible rfl | (simp [map_upd, o_make_Points, o_make_Normal] <;> rfl) | (simp only [List.map_append, List.map_cons, List.map_nil, List.map_take, List.map_drop, map_upd, List.map_replicate, List.length_map, o_make_Points, o_make_Normal] <;> rfl) | (simp only [List.map_append, List.map_cons, List.map_nil, List.map_take, List.map_drop, map_upd, List.map_replicate, List.length_map, List.length_append, List.length_cons, List.length_nil, o_make_Points, o_make_Normal] <;> rfl) | rfl) ?_ Lim.none_
            refine Lim.call o_law13_extremes (lim_law13_extremes 0 y7 (y8 ++ [x13])) (by first | with_reducible rfl | (simp [map_upd, o_make_Points, o_make_Normal] <;> rfl) | (simp only [List.map_append, List.map_cons, List.map_nil, List.map_take, List.map_drop, map_upd, List.map_replicate, List.length_map, o_make_Points, o_make_Normal] <;> rfl) | (simp only [List.map_append, List.map_cons, List.map_nil, List.map_take, List.map_drop, map_upd, List.map_replicate, List.length_map, List.length_append, List.length_cons, List.length_nil, o_make_Points, o_make_Normal] <;> rfl) | rfl) (by first | with_reducible rfl | (simp [map_upd, o_make_Points, o_make_Normal] <;> rfl) | (simp only [List.map_append, List.map_cons, List.map_nil, List.map_take, List.map_drop, map_upd, List.map_replicate, List.length_map, o_make_Points, o_make_Normal] <;> rfl) | (simp only [List.map_append, List.map_cons, List.map_nil, List.map_take, List.map_drop, map_upd, List.map_replicate, List.length_map, List.length_append, List.length_cons, List.length_nil, o_make_Points, o_make_Normal] <;> rfl) | rfl) fun y14 => ?_
            refine Lim.bif rfl ?_ ?_
            · refine Lim.call o_law13_extremes (lim_law13_extremes 0 n1 y8) rfl rfl fun y15 => ?_
              refine Lim.bif rfl ?_ ?_
              · refine Lim.call o_law13_extremes (lim_law13_extremes 0 y7 raw2) rfl rfl fun y16 => ?_
                exact Lim.leaf rfl
              exact Lim.leaf rfl
            exact Lim.leaf rfl
          exact Lim.leaf rfl
        exact Lim.leaf rfl
      exact Lim.leaf rfl
    )) h
end Go.Proofs.Ytceaambiagobbaa.Am
