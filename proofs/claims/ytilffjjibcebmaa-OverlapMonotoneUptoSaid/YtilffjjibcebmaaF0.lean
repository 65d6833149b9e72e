/- PRINTED: the functions without levels. -/
import Derived.Test.YtilffjjibcebmaaE0
import Derived.Test.YtilffjjibcebmaaE1
import Derived.Test.YtilffjjibcebmaaE2
import Derived.Test.YtilffjjibcebmaaE3
import Derived.Test.YtilffjjibcebmaaV
set_option linter.unusedVariables false
set_option linter.unusedSimpArgs false
set_option maxRecDepth 100000
namespace Go.Proofs.Ytilffjjibcebmaa.Am
open Go Go.Proofs
/-! armplan/armplanmake.From -/
abbrev o_make_From (v : LI_I) : VtsT outs26 × MtsT mouts26 := (((), ()), (((List.map encI v.c0), v.c1, ()), ()))
abbrev encO_make_From (v : LI_I) : R := (encR outs26 (o_make_From v).1, encMts mouts26 (o_make_From v).2)
theorem injO_make_From : ∀ a b, encO_make_From a = encO_make_From b → a = b := by
  rintro ⟨a0, a1⟩ ⟨b0, b1⟩ h
  have h1 := encR_inj (Prod.mk.inj h).1
  have h2 := encMts_inj (Prod.mk.inj h).2
  simp [o_make_From, map_inj encI_inj] at h1 h2
  simp [h1, h2]
noncomputable abbrev X_make_From (l1 : List Int) (n : Nat) : Option R := (lvl Try.prog HH n).2 26 [.s (.one (.fr 1 (List.map encI l1)))] []
noncomputable def F_make_From (l1 : List Int) : Option LI_I := den encO_make_From (X_make_From l1)
theorem lim_make_From (k : Nat) (l1 : List Int) : Lim (fun v => (encR outs26 (o_make_From v).1, encMts mouts26 (o_make_From v).2)) (fun n => (lvl Try.prog HH (n + k)).2 26 [.s (.one (.fr 1 (List.map encI l1)))] []) (F_make_From l1) := Lim.den (x := (X_make_From l1)) k
theorem F_make_From_of (l1 : List Int) : ∀ r, ((
    some ((LI_I.mk l1 0))) : Option LI_I) = some r →
    F_make_From l1 = some r := fun r h =>
  den_of (x := (X_make_From l1)) injO_make_From 1 (Lim.cong (fun n => fn26 n ((List.map encI l1))) (by
      exact Lim.leaf rfl
    )) h
def G_make_From (l1 : List Int) : LI_I :=
  ((LI_I.mk l1 0))
theorem F_make_From_eq (l1 : List Int) : F_make_From l1 = some (G_make_From l1) := F_make_From_of l1 _ (by
  unfold G_make_From
  rfl)

/-! armplan/armplanmake.Round -/
abbrev o_make_Round (v : Int) : VtsT outs19 × MtsT mouts19 := ((v, ()), ())
abbrev encO_make_Round (v : Int) : R := (encR outs19 (o_make_Round v).1, encMts mouts19 (o_make_Round v).2)
theorem injO_make_Round : ∀ a b, encO_make_Round a = encO_make_Round b → a = b := by
  rintro a0 b0 h
  have h1 := encR_inj (Prod.mk.inj h).1
  have h2 := encMts_inj (Prod.mk.inj h).2
  simp [o_make_Round] at h1 h2
  simp [h1, h2]
noncomputable abbrev X_make_Round (n1 : Int) (k2 : Int) (n : Nat) : Option R := (lvl Try.prog HH n).2 19 [.s (.one (.v (.int .i64 n1))), .s (.one (.v (.int .i64 k2)))] []
noncomputable def F_make_Round (n1 : Int) (k2 : Int) : Option Int := den encO_make_Round (X_make_Round n1 k2)
theorem lim_make_Round (k : Nat) (n1 : Int) (k2 : Int) : Lim (fun v => (encR outs19 (o_make_Round v).1, encMts mouts19 (o_make_Round v).2)) (fun n => (lvl Try.prog HH (n + k)).2 19 [.s (.one (.v (.int .i64 n1))), .s (.one (.v (.int .i64 k2)))] []) (F_make_Round n1 k2) := Lim.den (x := (X_make_Round n1 k2)) k
theorem F_make_Round_of (n1 : Int) (k2 : Int) : ∀ r, ((
    bif k2 == 0 then (
      none)
    else
    letIn (Int.tmod n1 k2 : Int) fun n3 =>
    bif decide (n3 < 0) then (
      letIn (IntKind.wrap .i64 (n3 + k2) : Int) fun n4 =>
      some n4)
    else
    some n3) : Option Int) = some r →
    F_make_Round n1 k2 = some r := fun r h =>
  den_of (x := (X_make_Round n1 k2)) injO_make_Round 1 (Lim.cong (fun n => fn19 n n1 k2) (by
      refine Lim.bif rfl Lim.none_ ?_
      refine Lim.letIn rfl fun n3 => ?_
      refine Lim.bif rfl ?_ ?_
      · refine Lim.letIn rfl fun n4 => ?_
        exact Lim.leaf rfl
      exact Lim.leaf rfl
    )) h

/-! (*armplan/armplanmake.Source).Next -/
abbrev o_make_Source_Next (v : Int × LI_I) : VtsT outs28 × MtsT mouts28 := ((v.1, ()), (((List.map encI v.2.c0), v.2.c1, ()), ()))
abbrev encO_make_Source_Next (v : Int × LI_I) : R := (encR outs28 (o_make_Source_Next v).1, encMts mouts28 (o_make_Source_Next v).2)
theorem injO_make_Source_Next : ∀ a b, encO_make_Source_Next a = encO_make_Source_Next b → a = b := by
  rintro ⟨a0, ⟨a1, a2⟩⟩ ⟨b0, ⟨b1, b2⟩⟩ h
  have h1 := encR_inj (Prod.mk.inj h).1
  have h2 := encMts_inj (Prod.mk.inj h).2
  simp [o_make_Source_Next, map_inj encI_inj] at h1 h2
  simp [h1, h2]
noncomputable abbrev X_make_Source_Next (k1 : Int) (c2 : LI_I) (n : Nat) : Option R := (lvl Try.prog HH n).2 28 [.s (.one (.ptr 0 0 0)), .s (.one (.v (.int .i64 k1)))] [.own 2 true [[.fr 1 (List.map encI c2.c0), .v (.int .i64 c2.c1)]]]
noncomputable def F_make_Source_Next (k1 : Int) (c2 : LI_I) : Option (Int × LI_I) := den encO_make_Source_Next (X_make_Source_Next k1 c2)
theorem lim_make_Source_Next (k : Nat) (k1 : Int) (c2 : LI_I) : Lim (fun v => (encR outs28 (o_make_Source_Next v).1, encMts mouts28 (o_make_Source_Next v).2)) (fun n => (lvl Try.prog HH (n + k)).2 28 [.s (.one (.ptr 0 0 0)), .s (.one (.v (.int .i64 k1)))] [.own 2 true [[.fr 1 (List.map encI c2.c0), .v (.int .i64 c2.c1)]]]) (F_make_Source_Next k1 c2) := Lim.den (x := (X_make_Source_Next k1 c2)) k
theorem F_make_Source_Next_of (k1 : Int) (c2 : LI_I) : ∀ r, ((
    bif decide (c2.c1 ≥ (((c2.c0.length : Nat) : Int))) then (
      some (0, c2))
    else
    letIn (IntKind.wrap .i64 (c2.c1 + 1) : Int) fun n3 =>
    letIn (IntKind.wrap .i64 (n3 - 1) : Int) fun n4 =>
    bif decide (0 ≤ n4) then (
      (nth c2.c0 n4.toNat).bind fun x5 =>
      (F_make_Round x5 k1).bind fun y6 =>
      some (y6, (LI_I.mk c2.c0 n3)))
    else
    none) : Option (Int × LI_I)) = some r →
    F_make_Source_Next k1 c2 = some r := fun r h =>
  den_of (x := (X_make_Source_Next k1 c2)) injO_make_Source_Next 1 (Lim.cong (fun n => fn28s0 n k1 ((List.map encI c2.c0)) c2.c1) (by
      refine Lim.bif (by first | with_reducible rfl | (simp [map_upd] <;> rfl) | rfl) ?_ ?_
      · exact Lim.leaf rfl
      refine Lim.letIn rfl fun n3 => ?_
      refine Lim.letIn rfl fun n4 => ?_
      refine Lim.bif rfl ?_ Lim.none_
      refine Lim.nth encI rfl rfl fun x5 => ?_
      refine Lim.step rfl ?_
      refine Lim.step rfl ?_
      refine Lim.call o_make_Round (lim_make_Round 0 x5 k1) rfl rfl fun y6 => ?_
      exact Lim.leaf rfl
    )) h

/-! (*armplan/armplanmake.Source).Signed -/
abbrev o_make_Source_Signed (v : Int × LI_I) : VtsT outs27 × MtsT mouts27 := ((v.1, ()), (((List.map encI v.2.c0), v.2.c1, ()), ()))
abbrev encO_make_Source_Signed (v : Int × LI_I) : R := (encR outs27 (o_make_Source_Signed v).1, encMts mouts27 (o_make_Source_Signed v).2)
theorem injO_make_Source_Signed : ∀ a b, encO_make_Source_Signed a = encO_make_Source_Signed b → a = b := by
  rintro ⟨a0, ⟨a1, a2⟩⟩ ⟨b0, ⟨b1, b2⟩⟩ h
  have h1 := encR_inj (Prod.mk.inj h).1
  have h2 := encMts_inj (Prod.mk.inj h).2
  simp [o_make_Source_Signed, map_inj encI_inj] at h1 h2
  simp [h1, h2]
noncomputable abbrev X_make_Source_Signed (k1 : Int) (c2 : LI_I) (n : Nat) : Option R := (lvl Try.prog HH n).2 27 [.s (.one (.ptr 0 0 0)), .s (.one (.v (.int .i64 k1)))] [.own 2 true [[.fr 1 (List.map encI c2.c0), .v (.int .i64 c2.c1)]]]
noncomputable def F_make_Source_Signed (k1 : Int) (c2 : LI_I) : Option (Int × LI_I) := den encO_make_Source_Signed (X_make_Source_Signed k1 c2)
theorem lim_make_Source_Signed (k : Nat) (k1 : Int) (c2 : LI_I) : Lim (fun v => (encR outs27 (o_make_Source_Signed v).1, encMts mouts27 (o_make_Source_Signed v).2)) (fun n => (lvl Try.prog HH (n + k)).2 27 [.s (.one (.ptr 0 0 0)), .s (.one (.v (.int .i64 k1)))] [.own 2 true [[.fr 1 (List.map encI c2.c0), .v (.int .i64 c2.c1)]]]) (F_make_Source_Signed k1 c2) := Lim.den (x := (X_make_Source_Signed k1 c2)) k
theorem F_make_Source_Signed_of (k1 : Int) (c2 : LI_I) : ∀ r, ((
    letIn (IntKind.wrap .i64 (2 * k1) : Int) fun n3 =>
    letIn (IntKind.wrap .i64 (n3 + 1) : Int) fun n4 =>
    (F_make_Source_Next n4 c2).bind fun y5 =>
    letIn (IntKind.wrap .i64 (y5.1 - k1) : Int) fun n6 =>
    some (n6, y5.2)) : Option (Int × LI_I)) = some r →
    F_make_Source_Signed k1 c2 = some r := fun r h =>
  den_of (x := (X_make_Source_Signed k1 c2)) injO_make_Source_Signed 1 (Lim.cong (fun n => fn27s0 n k1 ((List.map encI c2.c0)) c2.c1) (by
      refine Lim.letIn rfl fun n3 => ?_
      refine Lim.letIn rfl fun n4 => ?_
      refine Lim.call o_make_Source_Next (lim_make_Source_Next 0 n4 c2) rfl rfl fun y5 => ?_
      refine Lim.letIn rfl fun n6 => ?_
      exact Lim.leaf rfl
    )) h

/-! armplan/armplanmake.Points -/
abbrev E_make_Points_0 : Type := ((List I6))
def enc_L_make_Points_0 (e : E_make_Points_0) : Ex × St := (.exit 0, encSt S10_0_e0 (((), ()), ((List.map encI6 e), ())))
theorem inj_L_make_Points_0 : ∀ a b, enc_L_make_Points_0 a = enc_L_make_Points_0 b → a = b := by
  rintro a0 b0 h
  first | (cases h; done) | (have h2 := encSt_inj rfl (Prod.mk.inj h).2; simp [map_inj encI6_inj] at h2; simp [h2]) | (have h2 := (Prod.mk.inj h).1; simp at h2) | rfl
abbrev E_make_Points_2 : Type := (Int × Int × LI_I × I3 × (List I6) × I6)
def enc_L_make_Points_2 (e : E_make_Points_2) : Ex × St := (.exit 2, encSt S10_2_e2 ((e.1, (), (), (), e.2.1, (), ()), (((List.map encI e.2.2.1.c0), e.2.2.1.c1, ()), (e.2.2.2.1.c0, e.2.2.2.1.c1, e.2.2.2.1.c2, ()), (List.map encI6 e.2.2.2.2.1), (e.2.2.2.2.2.c0, e.2.2.2.2.2.c1, e.2.2.2.2.2.c2, e.2.2.2.2.2.c3, e.2.2.2.2.2.c4, e.2.2.2.2.2.c5, ()), ())))
theorem inj_L_make_Points_2 : ∀ a b, enc_L_make_Points_2 a = enc_L_make_Points_2 b → a = b := by
  rintro ⟨a0, a1, ⟨a2, a3⟩, ⟨a4, a5, a6⟩, a7, ⟨a8, a9, a10, a11, a12, a13⟩⟩ ⟨b0, b1, ⟨b2, b3⟩, ⟨b4, b5, b6⟩, b7, ⟨b8, b9, b10, b11, b12, b13⟩⟩ h
  first | (cases h; done) | (have h2 := encSt_inj rfl (Prod.mk.inj h).2; simp [map_inj encI6_inj, map_inj encI_inj] at h2; simp [h2]) | (have h2 := (Prod.mk.inj h).1; simp at h2) | rfl
noncomputable abbrev X_L_make_Points_0 (v12 : Int) (v13 : Int) (c14 : LI_I) (c15 : I3) (es16 : List I6) (n : Nat) : Option (Ex × St) := (lvl Try.prog HH n).1 ⟨10, 0, true⟩ 0 (loopOf Try.f10 0) (encSt S10_0 ((v12, (), (), (), v13, ()), (((List.map encI c14.c0), c14.c1, ()), (c15.c0, c15.c1, c15.c2, ()), (List.map encI6 es16), ())))
noncomputable def L_make_Points_0 (v12 : Int) (v13 : Int) (c14 : LI_I) (c15 : I3) (es16 : List I6) : Option E_make_Points_0 := den enc_L_make_Points_0 (X_L_make_Points_0 v12 v13 c14 c15 es16)
theorem L_make_Points_0_of (v12 : Int) (v13 : Int) (c14 : LI_I) (c15 : I3) (es16 : List I6) : ∀ r, ((
    bif decide (v13 > 0) then (
      Option.bind (α := E_make_Points_2) (
        (F_make_Source_Signed 4 c14).bind fun y17 =>
        letIn (IntKind.wrap .i64 (y17.1 * 32768) : Int) fun n18 =>
        letIn (IntKind.wrap .i64 (c15.c0 + n18) : Int) fun n19 =>
        (F_make_Source_Signed 9 y17.2).bind fun y20 =>
        letIn (IntKind.wrap .i64 (n19 + y20.1) : Int) fun n21 =>
        letIn (IntKind.wrap .i64 (v12 + 1) : Int) fun n22 =>
        (F_make_Source_Next n22 y20.2).bind fun y23 =>
        letIn (IntKind.wrap .i64 (n21 + y23.1) : Int) fun n24 =>
        (F_make_Source_Signed 4 y23.2).bind fun y25 =>
        letIn (IntKind.wrap .i64 (y25.1 * 32768) : Int) fun n26 =>
        letIn (IntKind.wrap .i64 (c15.c1 + n26) : Int) fun n27 =>
        (F_make_Source_Signed 9 y25.2).bind fun y28 =>
        letIn (IntKind.wrap .i64 (n27 + y28.1) : Int) fun n29 =>
        letIn (IntKind.wrap .i64 (v12 + 1) : Int) fun n30 =>
        (F_make_Source_Next n30 y28.2).bind fun y31 =>
        letIn (IntKind.wrap .i64 (n29 + y31.1) : Int) fun n32 =>
        (F_make_Source_Signed 4 y31.2).bind fun y33 =>
        letIn (IntKind.wrap .i64 (y33.1 * 32768) : Int) fun n34 =>
        letIn (IntKind.wrap .i64 (c15.c2 + n34) : Int) fun n35 =>
        (F_make_Source_Signed 9 y33.2).bind fun y36 =>
        letIn (IntKind.wrap .i64 (n35 + y36.1) : Int) fun n37 =>
        letIn (IntKind.wrap .i64 (v12 + 1) : Int) fun n38 =>
        (F_make_Source_Next n38 y36.2).bind fun y39 =>
        letIn (IntKind.wrap .i64 (n37 + y39.1) : Int) fun n40 =>
        some ((v12, v13, y39.2, c15, es16, (I6.mk n21 n24 n29 n32 n37 n40)))) fun p41 =>
      bif decide ((p41.2.2.2.2.1.length + 1) * 48 ≤ 140737488355328) then (
        letIn (IntKind.wrap .i64 (p41.2.1 - 1) : Int) fun n42 =>
        L_make_Points_0 p41.1 n42 p41.2.2.1 p41.2.2.2.1 (p41.2.2.2.2.1 ++ [p41.2.2.2.2.2]))
      else
      none)
    else
    some es16) : Option E_make_Points_0) = some r →
    L_make_Points_0 v12 v13 c14 c15 es16 = some r := fun r h =>
  den_of (x := (X_L_make_Points_0 v12 v13 c14 c15 es16)) inj_L_make_Points_0 5 (Lim.cong (fun n => loop10_0 n v12 v13 ((List.map encI c14.c0)) c14.c1 c15.c0 c15.c1 c15.c2 ((List.map encI6 es16))) (by
      refine Lim.bif rfl ?_ ?_
      · refine Lim.bind (e := enc_L_make_Points_2) ?_ fun p41 => ?_
        · refine Lim.call o_make_Source_Signed (lim_make_Source_Signed 3 4 c14) rfl rfl fun y17 => ?_
          refine Lim.letIn rfl fun n18 => ?_
          refine Lim.letIn rfl fun n19 => ?_
          refine Lim.call o_make_Source_Signed (lim_make_Source_Signed 3 9 y17.2) rfl rfl fun y20 => ?_
          refine Lim.letIn rfl fun n21 => ?_
          refine Lim.letIn rfl fun n22 => ?_
          refine Lim.call o_make_Source_Next (lim_make_Source_Next 3 n22 y20.2) rfl rfl fun y23 => ?_
          refine Lim.letIn rfl fun n24 => ?_
          refine Lim.call o_make_Source_Signed (lim_make_Source_Signed 2 4 y23.2) rfl rfl fun y25 => ?_
          refine Lim.letIn rfl fun n26 => ?_
          refine Lim.letIn rfl fun n27 => ?_
          refine Lim.call o_make_Source_Signed (lim_make_Source_Signed 2 9 y25.2) rfl rfl fun y28 => ?_
          refine Lim.letIn rfl fun n29 => ?_
          refine Lim.letIn rfl fun n30 => ?_
          refine Lim.call o_make_Source_Next (lim_make_Source_Next 2 n30 y28.2) rfl rfl fun y31 => ?_
          refine Lim.letIn rfl fun n32 => ?_
          refine Lim.call o_make_Source_Signed (lim_make_Source_Signed 1 4 y31.2) rfl rfl fun y33 => ?_
          refine Lim.letIn rfl fun n34 => ?_
          refine Lim.letIn rfl fun n35 => ?_
          refine Lim.call o_make_Source_Signed (lim_make_Source_Signed 1 9 y33.2) rfl rfl fun y36 => ?_
          refine Lim.letIn rfl fun n37 => ?_
          refine Lim.letIn rfl fun n38 => ?_
          refine Lim.call o_make_Source_Next (lim_make_Source_Next 1 n38 y36.2) rfl rfl fun y39 => ?_
          refine Lim.letIn rfl fun n40 => ?_
          exact Lim.leaf rfl
        refine Lim.exit (.exit 2) S10_2_e2 ((p41.1, (), (), (), p41.2.1, (), ()), (((List.map encI p41.2.2.1.c0), p41.2.2.1.c1, ()), (p41.2.2.2.1.c0, p41.2.2.2.1.c1, p41.2.2.2.1.c2, ()), (List.map encI6 p41.2.2.2.2.1), (p41.2.2.2.2.2.c0, p41.2.2.2.2.2.c1, p41.2.2.2.2.2.c2, p41.2.2.2.2.2.c3, p41.2.2.2.2.2.c4, p41.2.2.2.2.2.c5, ()), ())) rfl rfl rfl ?_
        refine Lim.bif (by first | with_reducible rfl | (simp [map_upd, o_make_From, o_make_Source_Signed, o_make_Source_Next] <;> rfl) | (simp only [List.map_append, List.map_cons, List.map_nil, List.map_take, List.map_drop, map_upd, List.map_replicate, List.length_map, o_make_From, o_make_Source_Signed, o_make_Source_Next] <;> rfl) | (simp only [List.map_append, List.map_cons, List.map_nil, List.map_take, List.map_drop, map_upd, List.map_replicate, List.length_map, List.length_append, List.length_cons, List.length_nil, o_make_From, o_make_Source_Signed, o_make_Source_Next] <;> rfl) | rfl) ?_ Lim.none_
        refine Lim.letIn rfl fun n42 => ?_
        exact Lim.loop 4 (by first | with_reducible rfl | (simp [map_upd, o_make_From, o_make_Source_Signed, o_make_Source_Next] <;> rfl) | (simp only [List.map_append, List.map_cons, List.map_nil, List.map_take, List.map_drop, map_upd, List.map_replicate, List.length_map, o_make_From, o_make_Source_Signed, o_make_Source_Next] <;> rfl) | (simp only [List.map_append, List.map_cons, List.map_nil, List.map_take, List.map_drop, map_upd, List.map_replicate, List.length_map, List.length_append, List.length_cons, List.length_nil, o_make_From, o_make_Source_Signed, o_make_Source_Next] <;> rfl) | rfl)
      exact Lim.leaf rfl
    )) h
abbrev o_make_Points (v : (List I6)) : VtsT outs10 × MtsT mouts10 := (((List.map encI6 v), ()), ())
abbrev encO_make_Points (v : (List I6)) : R := (encR outs10 (o_make_Points v).1, encMts mouts10 (o_make_Points v).2)
theorem injO_make_Points : ∀ a b, encO_make_Points a = encO_make_Points b → a = b := by
  rintro a0 b0 h
  have h1 := encR_inj (Prod.mk.inj h).1
  have h2 := encMts_inj (Prod.mk.inj h).2
  simp [o_make_Points, map_inj encI6_inj] at h1 h2
  simp [h1, h2]
noncomputable abbrev X_make_Points (l1 : List Int) (width2 : Int) (n : Nat) : Option R := (lvl Try.prog HH n).2 10 [.s (.one (.fr 1 (List.map encI l1))), .s (.one (.v (.int .i64 width2)))] []
noncomputable def F_make_Points (l1 : List Int) (width2 : Int) : Option ((List I6)) := den encO_make_Points (X_make_Points l1 width2)
theorem lim_make_Points (k : Nat) (l1 : List Int) (width2 : Int) : Lim (fun v => (encR outs10 (o_make_Points v).1, encMts mouts10 (o_make_Points v).2)) (fun n => (lvl Try.prog HH (n + k)).2 10 [.s (.one (.fr 1 (List.map encI l1))), .s (.one (.v (.int .i64 width2)))] []) (F_make_Points l1 width2) := Lim.den (x := (X_make_Points l1 width2)) k
theorem F_make_Points_of (l1 : List Int) (width2 : Int) : ∀ r, ((
    (F_make_From l1).bind fun y3 =>
    (F_make_Source_Signed 6 y3).bind fun y4 =>
    letIn (IntKind.wrap .i64 (y4.1 * 32768) : Int) fun n5 =>
    (F_make_Source_Signed 6 y4.2).bind fun y6 =>
    letIn (IntKind.wrap .i64 (y6.1 * 32768) : Int) fun n7 =>
    (F_make_Source_Signed 3 y6.2).bind fun y8 =>
    letIn (IntKind.wrap .i64 (y8.1 * 32768) : Int) fun n9 =>
    (F_make_Source_Next 5 y8.2).bind fun y10 =>
    letIn (IntKind.wrap .i64 (1 + y10.1) : Int) fun n11 =>
    (L_make_Points_0 width2 n11 y10.2 ((I3.mk n5 n7 n9)) []).bind fun p43 =>
    some p43) : Option ((List I6))) = some r →
    F_make_Points l1 width2 = some r := fun r h =>
  den_of (x := (X_make_Points l1 width2)) injO_make_Points 1 (Lim.cong (fun n => fn10 n ((List.map encI l1)) width2) (by
      refine Lim.call o_make_From (lim_make_From 0 l1) rfl rfl fun y3 => ?_
      refine Lim.call o_make_Source_Signed (lim_make_Source_Signed 0 6 y3) rfl rfl fun y4 => ?_
      refine Lim.letIn rfl fun n5 => ?_
      refine Lim.call o_make_Source_Signed (lim_make_Source_Signed 0 6 y4.2) rfl rfl fun y6 => ?_
      refine Lim.letIn rfl fun n7 => ?_
      refine Lim.call o_make_Source_Signed (lim_make_Source_Signed 0 3 y6.2) rfl rfl fun y8 => ?_
      refine Lim.letIn rfl fun n9 => ?_
      refine Lim.call o_make_Source_Next (lim_make_Source_Next 0 5 y8.2) rfl rfl fun y10 => ?_
      refine Lim.letIn rfl fun n11 => ?_
      refine Lim.bind (show Lim enc_L_make_Points_0 _ (L_make_Points_0 width2 n11 y10.2 ((I3.mk n5 n7 n9)) []) from Lim.loop 0 (by first | with_reducible rfl | (simp [map_upd, o_make_From, o_make_Source_Signed, o_make_Source_Next] <;> rfl) | (simp only [List.map_append, List.map_cons, List.map_nil, List.map_take, List.map_drop, map_upd, List.map_replicate, List.length_map, o_make_From, o_make_Source_Signed, o_make_Source_Next] <;> rfl) | (simp only [List.map_append, List.map_cons, List.map_nil, List.map_take, List.map_drop, map_upd, List.map_replicate, List.length_map, List.length_append, List.length_cons, List.length_nil, o_make_From, o_make_Source_Signed, o_make_Source_Next] <;> rfl) | rfl)) fun p43 => ?_
      refine Lim.exit (.exit 0) S10_0_e0 (((), ()), ((List.map encI6 p43), ())) rfl rfl rfl ?_
      exact Lim.leaf rfl
    )) h

/-! armplan/armplanmake.Weights -/
abbrev E_make_Weights_0 : Type := (Int × LI_I × (List Int))
def enc_L_make_Weights_0 (e : E_make_Weights_0) : Ex × St := (.exit 0, encSt S15_0_e0 ((e.1, (), (), ()), (((List.map encI e.2.1.c0), e.2.1.c1, ()), (List.map encI e.2.2), ())))
theorem inj_L_make_Weights_0 : ∀ a b, enc_L_make_Weights_0 a = enc_L_make_Weights_0 b → a = b := by
  rintro ⟨a0, ⟨a1, a2⟩, a3⟩ ⟨b0, ⟨b1, b2⟩, b3⟩ h
  first | (cases h; done) | (have h2 := encSt_inj rfl (Prod.mk.inj h).2; simp [map_inj encI_inj] at h2; simp [h2]) | (have h2 := (Prod.mk.inj h).1; simp at h2) | rfl
noncomputable abbrev X_L_make_Weights_0 (v4 : Int) (v5 : Int) (c6 : LI_I) (es7 : List Int) (n : Nat) : Option (Ex × St) := (lvl Try.prog HH n).1 ⟨15, 0, true⟩ 0 (loopOf Try.f15 0) (encSt S15_0 ((v4, (), (), v5, ()), (((List.map encI c6.c0), c6.c1, ()), (List.map encI es7), ())))
noncomputable def L_make_Weights_0 (v4 : Int) (v5 : Int) (c6 : LI_I) (es7 : List Int) : Option E_make_Weights_0 := den enc_L_make_Weights_0 (X_L_make_Weights_0 v4 v5 c6 es7)
theorem L_make_Weights_0_of (v4 : Int) (v5 : Int) (c6 : LI_I) (es7 : List Int) : ∀ r, ((
    bif decide (v5 < v4) then (
      (F_make_Source_Next 9 c6).bind fun y8 =>
      bif decide ((es7.length + 1) * 8 ≤ 140737488355328) then (
        letIn (IntKind.wrap .i64 (v5 + 1) : Int) fun n9 =>
        L_make_Weights_0 v4 n9 y8.2 (es7 ++ [y8.1]))
      else
      none)
    else
    some ((v4, c6, es7))) : Option E_make_Weights_0) = some r →
    L_make_Weights_0 v4 v5 c6 es7 = some r := fun r h =>
  den_of (x := (X_L_make_Weights_0 v4 v5 c6 es7)) inj_L_make_Weights_0 1 (Lim.cong (fun n => loop15_0 n v4 v5 ((List.map encI c6.c0)) c6.c1 ((List.map encI es7))) (by
      refine Lim.bif rfl ?_ ?_
      · refine Lim.call o_make_Source_Next (lim_make_Source_Next 0 9 c6) rfl rfl fun y8 => ?_
        refine Lim.bif (by first | with_reducible rfl | (simp [map_upd, o_make_From, o_make_Source_Next] <;> rfl) | (simp only [List.map_append, List.map_cons, List.map_nil, List.map_take, List.map_drop, map_upd, List.map_replicate, List.length_map, o_make_From, o_make_Source_Next] <;> rfl) | (simp only [List.map_append, List.map_cons, List.map_nil, List.map_take, List.map_drop, map_upd, List.map_replicate, List.length_map, List.length_append, List.length_cons, List.length_nil, o_make_From, o_make_Source_Next] <;> rfl) | rfl) ?_ Lim.none_
        refine Lim.letIn rfl fun n9 => ?_
        exact Lim.loop 0 (by first | with_reducible rfl | (simp [map_upd, o_make_From, o_make_Source_Next] <;> rfl) | (simp only [List.map_append, List.map_cons, List.map_nil, List.map_take, List.map_drop, map_upd, List.map_replicate, List.length_map, o_make_From, o_make_Source_Next] <;> rfl) | (simp only [List.map_append, List.map_cons, List.map_nil, List.map_take, List.map_drop, map_upd, List.map_replicate, List.length_map, List.length_append, List.length_cons, List.length_nil, o_make_From, o_make_Source_Next] <;> rfl) | rfl)
      exact Lim.leaf rfl
    )) h
abbrev o_make_Weights (v : (List Int)) : VtsT outs15 × MtsT mouts15 := (((), ()), ((List.map encI v), ()))
abbrev encO_make_Weights (v : (List Int)) : R := (encR outs15 (o_make_Weights v).1, encMts mouts15 (o_make_Weights v).2)
theorem injO_make_Weights : ∀ a b, encO_make_Weights a = encO_make_Weights b → a = b := by
  rintro a0 b0 h
  have h1 := encR_inj (Prod.mk.inj h).1
  have h2 := encMts_inj (Prod.mk.inj h).2
  simp [o_make_Weights, map_inj encI_inj] at h1 h2
  simp [h1, h2]
noncomputable abbrev X_make_Weights (n1 : Int) (l2 : List Int) (n : Nat) : Option R := (lvl Try.prog HH n).2 15 [.s (.one (.v (.int .i64 n1))), .s (.one (.fr 1 (List.map encI l2)))] []
noncomputable def F_make_Weights (n1 : Int) (l2 : List Int) : Option ((List Int)) := den encO_make_Weights (X_make_Weights n1 l2)
theorem lim_make_Weights (k : Nat) (n1 : Int) (l2 : List Int) : Lim (fun v => (encR outs15 (o_make_Weights v).1, encMts mouts15 (o_make_Weights v).2)) (fun n => (lvl Try.prog HH (n + k)).2 15 [.s (.one (.v (.int .i64 n1))), .s (.one (.fr 1 (List.map encI l2)))] []) (F_make_Weights n1 l2) := Lim.den (x := (X_make_Weights n1 l2)) k
theorem F_make_Weights_of (n1 : Int) (l2 : List Int) : ∀ r, ((
    (F_make_From l2).bind fun y3 =>
    (L_make_Weights_0 n1 0 y3 []).bind fun p10 =>
    bif decide (p10.1 > 0) then (
      (F_make_Source_Next p10.1 p10.2.1).bind fun y11 =>
      bif decide (0 ≤ y11.1) then (
        (nth p10.2.2 y11.1.toNat).bind fun x12 =>
        (nth p10.2.2 y11.1.toNat).bind fun x13 =>
        letIn (IntKind.wrap .i64 (x13 + 1) : Int) fun n14 =>
        bif decide (0 ≤ y11.1) then (
          (nth p10.2.2 y11.1.toNat).bind fun x15 =>
          (nth p10.2.2 y11.1.toNat).bind fun x16 =>
          some (upd p10.2.2 y11.1.toNat n14))
        else
        none)
      else
      none)
    else
    some p10.2.2) : Option ((List Int))) = some r →
    F_make_Weights n1 l2 = some r := fun r h =>
  den_of (x := (X_make_Weights n1 l2)) injO_make_Weights 1 (Lim.cong (fun n => fn15 n n1 ((List.map encI l2))) (by
      refine Lim.call o_make_From (lim_make_From 0 l2) rfl rfl fun y3 => ?_
      refine Lim.bind (show Lim enc_L_make_Weights_0 _ (L_make_Weights_0 n1 0 y3 []) from Lim.loop 0 (by first | with_reducible rfl | (simp [map_upd, o_make_From, o_make_Source_Next] <;> rfl) | (simp only [List.map_append, List.map_cons, List.map_nil, List.map_take, List.map_drop, map_upd, List.map_replicate, List.length_map, o_make_From, o_make_Source_Next] <;> rfl) | (simp only [List.map_append, List.map_cons, List.map_nil, List.map_take, List.map_drop, map_upd, List.map_replicate, List.length_map, List.length_append, List.length_cons, List.length_nil, o_make_From, o_make_Source_Next] <;> rfl) | rfl)) fun p10 => ?_
      refine Lim.exit (.exit 0) S15_0_e0 ((p10.1, (), (), ()), (((List.map encI p10.2.1.c0), p10.2.1.c1, ()), (List.map encI p10.2.2), ())) rfl rfl rfl ?_
      refine Lim.bif rfl ?_ ?_
      · refine Lim.call o_make_Source_Next (lim_make_Source_Next 0 p10.1 p10.2.1) rfl rfl fun y11 => ?_
        refine Lim.bif rfl ?_ Lim.none_
        refine Lim.nth encI rfl rfl fun x12 => ?_
        refine Lim.nth encI rfl rfl fun x13 => ?_
        refine Lim.step rfl ?_
        refine Lim.step rfl ?_
        refine Lim.letIn rfl fun n14 => ?_
        refine Lim.bif rfl ?_ Lim.none_
        refine Lim.nth encI rfl rfl fun x15 => ?_
        refine Lim.nth encI rfl rfl fun x16 => ?_
        refine Lim.step rfl ?_
        exact Lim.leaf (by first | rfl | (simp [o_make_Weights, map_upd, o_make_From, o_make_Source_Next] <;> first | rfl | exact ⟨rfl, rfl⟩))
      exact Lim.leaf rfl
    )) h

/-! armplan/armplanmake.Total -/
abbrev E_make_Total_0 : Type := (Int)
def enc_L_make_Total_0 (e : E_make_Total_0) : Ex × St := (.exit 0, encSt S22_0_e0 ((e, ()), ()))
theorem inj_L_make_Total_0 : ∀ a b, enc_L_make_Total_0 a = enc_L_make_Total_0 b → a = b := by
  rintro a0 b0 h
  first | (cases h; done) | (have h2 := encSt_inj rfl (Prod.mk.inj h).2; simp [] at h2; simp [h2]) | (have h2 := (Prod.mk.inj h).1; simp at h2) | rfl
noncomputable abbrev X_L_make_Total_0 (v2 : List Int) (v3 : Int) (v4 : Int) (n : Nat) : Option (Ex × St) := (lvl Try.prog HH n).1 ⟨22, 0, true⟩ 0 (loopOf Try.f22 0) (encSt S22_0 (((List.map encI v2), v3, v4, ()), ()))
noncomputable def L_make_Total_0 (v2 : List Int) (v3 : Int) (v4 : Int) : Option E_make_Total_0 := den enc_L_make_Total_0 (X_L_make_Total_0 v2 v3 v4)
theorem L_make_Total_0_of (v2 : List Int) (v3 : Int) (v4 : Int) : ∀ r, ((
    bif decide (v4 < (((v2.length : Nat) : Int))) then (
      bif decide (0 ≤ v4) then (
        (nth v2 v4.toNat).bind fun x5 =>
        letIn (IntKind.wrap .i64 (v3 + x5) : Int) fun n6 =>
        letIn (IntKind.wrap .i64 (v4 + 1) : Int) fun n7 =>
        L_make_Total_0 v2 n6 n7)
      else
      none)
    else
    some v3) : Option E_make_Total_0) = some r →
    L_make_Total_0 v2 v3 v4 = some r := fun r h =>
  den_of (x := (X_L_make_Total_0 v2 v3 v4)) inj_L_make_Total_0 1 (Lim.cong (fun n => loop22_0 n ((List.map encI v2)) v3 v4) (by
      refine Lim.bif (by first | with_reducible rfl | (simp [map_upd] <;> rfl) | rfl) ?_ ?_
      · refine Lim.bif rfl ?_ Lim.none_
        refine Lim.nth encI rfl rfl fun x5 => ?_
        refine Lim.step rfl ?_
        refine Lim.step rfl ?_
        refine Lim.letIn rfl fun n6 => ?_
        refine Lim.letIn rfl fun n7 => ?_
        exact Lim.loop 0 rfl
      exact Lim.leaf rfl
    )) h
abbrev o_make_Total (v : Int) : VtsT outs22 × MtsT mouts22 := ((v, ()), ())
abbrev encO_make_Total (v : Int) : R := (encR outs22 (o_make_Total v).1, encMts mouts22 (o_make_Total v).2)
theorem injO_make_Total : ∀ a b, encO_make_Total a = encO_make_Total b → a = b := by
  rintro a0 b0 h
  have h1 := encR_inj (Prod.mk.inj h).1
  have h2 := encMts_inj (Prod.mk.inj h).2
  simp [o_make_Total] at h1 h2
  simp [h1, h2]
noncomputable abbrev X_make_Total (l1 : List Int) (n : Nat) : Option R := (lvl Try.prog HH n).2 22 [.s (.one (.fr 1 (List.map encI l1)))] []
noncomputable def F_make_Total (l1 : List Int) : Option Int := den encO_make_Total (X_make_Total l1)
theorem lim_make_Total (k : Nat) (l1 : List Int) : Lim (fun v => (encR outs22 (o_make_Total v).1, encMts mouts22 (o_make_Total v).2)) (fun n => (lvl Try.prog HH (n + k)).2 22 [.s (.one (.fr 1 (List.map encI l1)))] []) (F_make_Total l1) := Lim.den (x := (X_make_Total l1)) k
theorem F_make_Total_of (l1 : List Int) : ∀ r, ((
    (L_make_Total_0 l1 0 0).bind fun p8 =>
    some p8) : Option Int) = some r →
    F_make_Total l1 = some r := fun r h =>
  den_of (x := (X_make_Total l1)) injO_make_Total 1 (Lim.cong (fun n => fn22 n ((List.map encI l1))) (by
      refine Lim.bind (show Lim enc_L_make_Total_0 _ (L_make_Total_0 l1 0 0) from Lim.loop 0 rfl) fun p8 => ?_
      refine Lim.exit (.exit 0) S22_0_e0 ((p8, ()), ()) rfl rfl rfl ?_
      exact Lim.leaf rfl
    )) h

/-! armplan/armplanlaw16.equal -/
abbrev o_law16_equal (v : (List Int) × (List Int)) : VtsT outs11 × MtsT mouts11 := (((List.map encI v.1), (List.map encI v.2), ()), ())
abbrev encO_law16_equal (v : (List Int) × (List Int)) : R := (encR outs11 (o_law16_equal v).1, encMts mouts11 (o_law16_equal v).2)
theorem injO_law16_equal : ∀ a b, encO_law16_equal a = encO_law16_equal b → a = b := by
  rintro ⟨a0, a1⟩ ⟨b0, b1⟩ h
  have h1 := encR_inj (Prod.mk.inj h).1
  have h2 := encMts_inj (Prod.mk.inj h).2
  simp [o_law16_equal, map_inj encI_inj] at h1 h2
  simp [h1, h2]
noncomputable abbrev X_law16_equal (n1 : Int) (k2 : Int) (l3 : List Int) (n : Nat) : Option R := (lvl Try.prog HH n).2 11 [.s (.one (.v (.int .i64 n1))), .s (.one (.v (.int .i64 k2))), .s (.one (.fr 1 (List.map encI l3)))] []
noncomputable def F_law16_equal (n1 : Int) (k2 : Int) (l3 : List Int) : Option ((List Int) × (List Int)) := den encO_law16_equal (X_law16_equal n1 k2 l3)
theorem lim_law16_equal (k : Nat) (n1 : Int) (k2 : Int) (l3 : List Int) : Lim (fun v => (encR outs11 (o_law16_equal v).1, encMts mouts11 (o_law16_equal v).2)) (fun n => (lvl Try.prog HH (n + k)).2 11 [.s (.one (.v (.int .i64 n1))), .s (.one (.v (.int .i64 k2))), .s (.one (.fr 1 (List.map encI l3)))] []) (F_law16_equal n1 k2 l3) := Lim.den (x := (X_law16_equal n1 k2 l3)) k
theorem F_law16_equal_of (n1 : Int) (k2 : Int) (l3 : List Int) : ∀ r, ((
    (F_make_Weights n1 l3).bind fun y4 =>
    bif decide ((0 + l3.length) * 8 ≤ 140737488355328) then (
      bif decide ((([] ++ l3).length + l3.length) * 8 ≤ 140737488355328) then (
        (F_make_Weights k2 (([] ++ l3) ++ l3)).bind fun y5 =>
        (F_make_Total y4).bind fun y6 =>
        (F_make_Total y5).bind fun y7 =>
        letIn (IntKind.wrap .i64 (y6 - y7) : Int) fun n8 =>
        bif decide (n8 < 0) then (
          (nth y4 0).bind fun x9 =>
          (nth y4 0).bind fun x10 =>
          letIn (IntKind.wrap .i64 (x10 - n8) : Int) fun n11 =>
          (nth y4 0).bind fun x12 =>
          (nth y4 0).bind fun x13 =>
          some (upd y4 0 n11, y5))
        else
        (nth y5 0).bind fun x14 =>
        (nth y5 0).bind fun x15 =>
        letIn (IntKind.wrap .i64 (x15 + n8) : Int) fun n16 =>
        (nth y5 0).bind fun x17 =>
        (nth y5 0).bind fun x18 =>
        some (y4, upd y5 0 n16))
      else
      none)
    else
    none) : Option ((List Int) × (List Int))) = some r →
    F_law16_equal n1 k2 l3 = some r := fun r h =>
  den_of (x := (X_law16_equal n1 k2 l3)) injO_law16_equal 1 (Lim.cong (fun n => fn11 n n1 k2 ((List.map encI l3))) (by
      refine Lim.call o_make_Weights (lim_make_Weights 0 n1 l3) rfl rfl fun y4 => ?_
      refine Lim.bif (by first | with_reducible rfl | (simp [map_upd, o_make_Weights] <;> rfl) | (simp only [List.map_append, List.map_cons, List.map_nil, List.map_take, List.map_drop, map_upd, List.map_replicate, List.length_map, o_make_Weights] <;> rfl) | (simp only [List.map_append, List.map_cons, List.map_nil, List.map_take, List.map_drop, map_upd, List.map_replicate, List.length_map, List.length_append, List.length_cons, List.length_nil, o_make_Weights] <;> rfl) | rfl) ?_ Lim.none_
      refine Lim.bif (by first | with_reducible rfl | (simp [map_upd, o_make_Weights] <;> rfl) | (simp only [List.map_append, List.map_cons, List.map_nil, List.map_take, List.map_drop, map_upd, List.map_replicate, List.length_map, o_make_Weights] <;> rfl) | (simp only [List.map_append, List.map_cons, List.map_nil, List.map_take, List.map_drop, map_upd, List.map_replicate, List.length_map, List.length_append, List.length_cons, List.length_nil, o_make_Weights] <;> rfl) | rfl) ?_ Lim.none_
      refine Lim.call o_make_Weights (lim_make_Weights 0 k2 (([] ++ l3) ++ l3)) (by first | with_reducible rfl | (simp [map_upd, o_make_Weights] <;> rfl) | (simp only [List.map_append, List.map_cons, List.map_nil, List.map_take, List.map_drop, map_upd, List.map_replicate, List.length_map, o_make_Weights] <;> rfl) | (simp only [List.map_append, List.map_cons, List.map_nil, List.map_take, List.map_drop, map_upd, List.map_replicate, List.length_map, List.length_append, List.length_cons, List.length_nil, o_make_Weights] <;> rfl) | rfl) (by first | with_reducible rfl | (simp [map_upd, o_make_Weights] <;> rfl) | (simp only [List.map_append, List.map_cons, List.map_nil, List.map_take, List.map_drop, map_upd, List.map_replicate, List.length_map, o_make_Weights] <;> rfl) | (simp only [List.map_append, List.map_cons, List.map_nil, List.map_take, List.map_drop, map_upd, List.map_replicate, List.length_map, List.length_append, List.length_cons, List.length_nil, o_make_Weights] <;> rfl) | rfl) fun y5 => ?_
      refine Lim.call o_make_Total (lim_make_Total 0 y4) rfl rfl fun y6 => ?_
      refine Lim.call o_make_Total (lim_make_Total 0 y5) rfl rfl fun y7 => ?_
      refine Lim.letIn rfl fun n8 => ?_
      refine Lim.bif rfl ?_ ?_
      · refine Lim.nth encI rfl rfl fun x9 => ?_
        refine Lim.nth encI rfl rfl fun x10 => ?_
        refine Lim.step rfl ?_
        refine Lim.step rfl ?_
        refine Lim.letIn rfl fun n11 => ?_
        refine Lim.nth encI rfl rfl fun x12 => ?_
        refine Lim.nth encI rfl rfl fun x13 => ?_
        refine Lim.step rfl ?_
        exact Lim.leaf (by first | rfl | (simp [o_law16_equal, map_upd, o_make_Weights] <;> first | rfl | exact ⟨rfl, rfl⟩))
      refine Lim.nth encI rfl rfl fun x14 => ?_
      refine Lim.nth encI rfl rfl fun x15 => ?_
      refine Lim.step rfl ?_
      refine Lim.step rfl ?_
      refine Lim.letIn rfl fun n16 => ?_
      refine Lim.nth encI rfl rfl fun x17 => ?_
      refine Lim.nth encI rfl rfl fun x18 => ?_
      refine Lim.step rfl ?_
      exact Lim.leaf (by first | rfl | (simp [o_law16_equal, map_upd, o_make_Weights] <;> first | rfl | exact ⟨rfl, rfl⟩))
    )) h

/-! armplan/armplanlaw16.radius -/
abbrev o_law16_radius (v : Int) : VtsT outs14 × MtsT mouts14 := ((v, ()), ())
abbrev encO_law16_radius (v : Int) : R := (encR outs14 (o_law16_radius v).1, encMts mouts14 (o_law16_radius v).2)
theorem injO_law16_radius : ∀ a b, encO_law16_radius a = encO_law16_radius b → a = b := by
  rintro a0 b0 h
  have h1 := encR_inj (Prod.mk.inj h).1
  have h2 := encMts_inj (Prod.mk.inj h).2
  simp [o_law16_radius] at h1 h2
  simp [h1, h2]
noncomputable abbrev X_law16_radius (r1 : Int) (n : Nat) : Option R := (lvl Try.prog HH n).2 14 [.s (.one (.v (.int .i64 r1)))] []
noncomputable def F_law16_radius (r1 : Int) : Option Int := den encO_law16_radius (X_law16_radius r1)
theorem lim_law16_radius (k : Nat) (r1 : Int) : Lim (fun v => (encR outs14 (o_law16_radius v).1, encMts mouts14 (o_law16_radius v).2)) (fun n => (lvl Try.prog HH (n + k)).2 14 [.s (.one (.v (.int .i64 r1)))] []) (F_law16_radius r1) := Lim.den (x := (X_law16_radius r1)) k
theorem F_law16_radius_of (r1 : Int) : ∀ r, ((
    letIn (Int.fdiv r1 4 : Int) fun n2 =>
    letIn (IntKind.wrap .i64 ((BitVec.ofInt 64 r1 &&& BitVec.ofInt 64 3).toNat : Nat) : Int) fun n3 =>
    bif (decide (0 ≤ n3)) && (decide (n3 < 4)) then (
      (nth ([.v (.int .i64 1), .v (.int .i64 30000), .v (.int .i64 200000), .v (.int .i64 1048577)] : List D1) (n3.toNat * 1)).bind fun d4 =>
      (asInt? .i64 d4).bind fun n5 =>
      (F_make_Round n2 n5).bind fun y6 =>
      some y6)
    else
    none) : Option Int) = some r →
    F_law16_radius r1 = some r := fun r h =>
  den_of (x := (X_law16_radius r1)) injO_law16_radius 1 (Lim.cong (fun n => fn14 n r1) (by
      refine Lim.letIn rfl fun n2 => ?_
      refine Lim.letIn rfl fun n3 => ?_
      refine Lim.bif rfl ?_ Lim.none_
      refine Lim.raw rfl fun d4 => ?_
      refine Lim.raw rfl fun n5 => ?_
      refine Lim.call o_make_Round (lim_make_Round 0 n2 n5) rfl rfl fun y6 => ?_
      exact Lim.leaf rfl
    )) h

/-! armplan/shape.reaches -/
abbrev o_shape_reaches (v : Bool) : VtsT outs46 × MtsT mouts46 := ((v, ()), ())
abbrev encO_shape_reaches (v : Bool) : R := (encR outs46 (o_shape_reaches v).1, encMts mouts46 (o_shape_reaches v).2)
theorem injO_shape_reaches : ∀ a b, encO_shape_reaches a = encO_shape_reaches b → a = b := by
  rintro a0 b0 h
  have h1 := encR_inj (Prod.mk.inj h).1
  have h2 := encMts_inj (Prod.mk.inj h).2
  simp [o_shape_reaches] at h1 h2
  simp [h1, h2]
noncomputable abbrev X_shape_reaches (a1 : I2) (n : Nat) : Option R := (lvl Try.prog HH n).2 46 [.s (.agg true [.v (.int .i64 a1.c0), .v (.int .i64 a1.c1)])] []
noncomputable def F_shape_reaches (a1 : I2) : Option Bool := den encO_shape_reaches (X_shape_reaches a1)
theorem lim_shape_reaches (k : Nat) (a1 : I2) : Lim (fun v => (encR outs46 (o_shape_reaches v).1, encMts mouts46 (o_shape_reaches v).2)) (fun n => (lvl Try.prog HH (n + k)).2 46 [.s (.agg true [.v (.int .i64 a1.c0), .v (.int .i64 a1.c1)])] []) (F_shape_reaches a1) := Lim.den (x := (X_shape_reaches a1)) k
theorem F_shape_reaches_of (a1 : I2) : ∀ r, ((
    bif decide (a1.c0 ≥ (-268435456)) then (
      bif decide (a1.c0 ≤ a1.c1) then (
        some (decide (a1.c1 ≤ 268435456)))
      else
      some false)
    else
    some false) : Option Bool) = some r →
    F_shape_reaches a1 = some r := fun r h =>
  den_of (x := (X_shape_reaches a1)) injO_shape_reaches 1 (Lim.cong (fun n => fn46 n a1.c0 a1.c1) (by
      refine Lim.bif rfl ?_ ?_
      · refine Lim.bif rfl ?_ ?_
        · exact Lim.leaf rfl
        exact Lim.leaf rfl
      exact Lim.leaf rfl
    )) h
def G_shape_reaches (a1 : I2) : Bool :=
  bif decide (a1.c0 ≥ (-268435456)) then (
    bif decide (a1.c0 ≤ a1.c1) then (
      (decide (a1.c1 ≤ 268435456)))
    else
    false)
  else
  false
theorem F_shape_reaches_eq (a1 : I2) : F_shape_reaches a1 = some (G_shape_reaches a1) := F_shape_reaches_of a1 _ (by
  unfold G_shape_reaches
  refine Tot.bif ?_ ?_
  · refine Tot.bif ?_ ?_
    · rfl
    rfl
  rfl)

/-! armplan/shape.Placed -/
abbrev E_shape_Placed_0 : Type := (Bool) ⊕ ((List I6))
def enc_L_shape_Placed_0 : E_shape_Placed_0 → Ex × St
  | .inl e => (.ret, encSt S41_0_r ((e, ()), ()))
  | .inr e => (.exit 0, encSt S41_0_e0 (((List.map encI6 e), ()), ()))
theorem inj_L_shape_Placed_0 : ∀ a b, enc_L_shape_Placed_0 a = enc_L_shape_Placed_0 b → a = b := by
  rintro (a0 | a0) (b0 | b0) h <;> (first | (cases h; done) | (have h2 := encSt_inj rfl (Prod.mk.inj h).2; simp [map_inj encI6_inj] at h2; simp [h2]) | (have h2 := (Prod.mk.inj h).1; simp at h2) | rfl)
noncomputable abbrev X_L_shape_Placed_0 (v2 : List I6) (v3 : List I6) (v4 : Int) (v5 : Int) (n : Nat) : Option (Ex × St) := (lvl Try.prog HH n).1 ⟨41, 0, true⟩ 0 (loopOf Try.f41 0) (encSt S41_0 (((List.map encI6 v2), (List.map encI6 v3), v4, v5, ()), ()))
noncomputable def L_shape_Placed_0 (v2 : List I6) (v3 : List I6) (v4 : Int) (v5 : Int) : Option E_shape_Placed_0 := den enc_L_shape_Placed_0 (X_L_shape_Placed_0 v2 v3 v4 v5)
theorem L_shape_Placed_0_of (v2 : List I6) (v3 : List I6) (v4 : Int) (v5 : Int) : ∀ r, ((
    bif decide (v5 < v4) then (
      bif decide (0 ≤ v5) then (
        (nth v3 v5.toNat).bind fun x6 =>
        (F_shape_reaches ((I2.mk x6.c0 x6.c1))).bind fun y7 =>
        bif !y7 then (
          some (.inl false))
        else
        (F_shape_reaches ((I2.mk x6.c2 x6.c3))).bind fun y8 =>
        bif !y8 then (
          some (.inl false))
        else
        (F_shape_reaches ((I2.mk x6.c4 x6.c5))).bind fun y9 =>
        bif !y9 then (
          some (.inl false))
        else
        letIn (IntKind.wrap .i64 (v5 + 1) : Int) fun n10 =>
        L_shape_Placed_0 v2 v3 v4 n10)
      else
      none)
    else
    some (.inr v2)) : Option E_shape_Placed_0) = some r →
    L_shape_Placed_0 v2 v3 v4 v5 = some r := fun r h =>
  den_of (x := (X_L_shape_Placed_0 v2 v3 v4 v5)) inj_L_shape_Placed_0 1 (Lim.cong (fun n => loop41_0 n ((List.map encI6 v2)) ((List.map encI6 v3)) v4 v5) (by
      refine Lim.bif rfl ?_ ?_
      · refine Lim.bif rfl ?_ Lim.none_
        refine Lim.nth encI6 rfl rfl fun x6 => ?_
        refine Lim.bifT rfl ?_
        refine Lim.decC (x6.c0, x6.c1, x6.c2, x6.c3, x6.c4, x6.c5, ()) rfl ?_
        refine Lim.call o_shape_reaches (lim_shape_reaches 0 ((I2.mk x6.c0 x6.c1))) rfl rfl fun y7 => ?_
        refine Lim.bif rfl ?_ ?_
        · exact Lim.leaf rfl
        refine Lim.call o_shape_reaches (lim_shape_reaches 0 ((I2.mk x6.c2 x6.c3))) rfl rfl fun y8 => ?_
        refine Lim.bif rfl ?_ ?_
        · exact Lim.leaf rfl
        refine Lim.call o_shape_reaches (lim_shape_reaches 0 ((I2.mk x6.c4 x6.c5))) rfl rfl fun y9 => ?_
        refine Lim.bif rfl ?_ ?_
        · exact Lim.leaf rfl
        refine Lim.letIn rfl fun n10 => ?_
        exact Lim.loop 0 rfl
      exact Lim.leaf rfl
    )) h
abbrev o_shape_Placed (v : Bool) : VtsT outs41 × MtsT mouts41 := ((v, ()), ())
abbrev encO_shape_Placed (v : Bool) : R := (encR outs41 (o_shape_Placed v).1, encMts mouts41 (o_shape_Placed v).2)
theorem injO_shape_Placed : ∀ a b, encO_shape_Placed a = encO_shape_Placed b → a = b := by
  rintro a0 b0 h
  have h1 := encR_inj (Prod.mk.inj h).1
  have h2 := encMts_inj (Prod.mk.inj h).2
  simp [o_shape_Placed] at h1 h2
  simp [h1, h2]
noncomputable abbrev X_shape_Placed (l1 : List I6) (n : Nat) : Option R := (lvl Try.prog HH n).2 41 [.s (.one (.fr 6 (List.map encI6 l1)))] []
noncomputable def F_shape_Placed (l1 : List I6) : Option Bool := den encO_shape_Placed (X_shape_Placed l1)
theorem lim_shape_Placed (k : Nat) (l1 : List I6) : Lim (fun v => (encR outs41 (o_shape_Placed v).1, encMts mouts41 (o_shape_Placed v).2)) (fun n => (lvl Try.prog HH (n + k)).2 41 [.s (.one (.fr 6 (List.map encI6 l1)))] []) (F_shape_Placed l1) := Lim.den (x := (X_shape_Placed l1)) k
theorem F_shape_Placed_of (l1 : List I6) : ∀ r, ((
    (L_shape_Placed_0 l1 l1 (((l1.length : Nat) : Int)) 0).bind fun p11 =>
    match p11 with
    | .inl e12 => (
      some e12)
    | .inr e13 => (
      bif decide ((((e13.length : Nat) : Int)) ≥ 1) then (
        some (decide ((((e13.length : Nat) : Int)) ≤ 8)))
      else
      some false)) : Option Bool) = some r →
    F_shape_Placed l1 = some r := fun r h =>
  den_of (x := (X_shape_Placed l1)) injO_shape_Placed 1 (Lim.cong (fun n => fn41 n ((List.map encI6 l1))) (by
      refine Lim.bind (show Lim enc_L_shape_Placed_0 _ (L_shape_Placed_0 l1 l1 (((l1.length : Nat) : Int)) 0) from Lim.loop 0 (by first | with_reducible rfl | (simp [map_upd] <;> rfl) | rfl)) fun p11 => ?_
      rcases p11 with e12 | e13
      · refine Lim.exit (.ret) S41_0_r ((e12, ()), ()) rfl rfl rfl ?_
        exact Lim.leaf rfl
      · refine Lim.bifF rfl ?_
        refine Lim.exit (.exit 0) S41_0_e0 (((List.map encI6 e13), ()), ()) rfl rfl rfl ?_
        refine Lim.bif (by first | with_reducible rfl | (simp [map_upd] <;> rfl) | rfl) ?_ ?_
        · exact Lim.leaf (by first | rfl | (simp [o_shape_Placed, map_upd] <;> first | rfl | exact ⟨rfl, rfl⟩))
        exact Lim.leaf rfl
    )) h

/-! armplan/shape.Combine -/
abbrev E_shape_Combine_0 : Type := (Int × Bool × I6) ⊕ (Int × I6 × I6)
def enc_L_shape_Combine_0 : E_shape_Combine_0 → Ex × St
  | .inl e => (.ret, encSt S32_0_r (((), e.1, e.2.1, ()), ((e.2.2.c0, e.2.2.c1, e.2.2.c2, e.2.2.c3, e.2.2.c4, e.2.2.c5, ()), ())))
  | .inr e => (.exit 0, encSt S32_0_e0 (((), (), e.1, ()), ((e.2.1.c0, e.2.1.c1, e.2.1.c2, e.2.1.c3, e.2.1.c4, e.2.1.c5, ()), (e.2.2.c0, e.2.2.c1, e.2.2.c2, e.2.2.c3, e.2.2.c4, e.2.2.c5, ()), ())))
theorem inj_L_shape_Combine_0 : ∀ a b, enc_L_shape_Combine_0 a = enc_L_shape_Combine_0 b → a = b := by
  rintro (⟨a0, a1, ⟨a2, a3, a4, a5, a6, a7⟩⟩ | ⟨a0, ⟨a1, a2, a3, a4, a5, a6⟩, ⟨a7, a8, a9, a10, a11, a12⟩⟩) (⟨b0, b1, ⟨b2, b3, b4, b5, b6, b7⟩⟩ | ⟨b0, ⟨b1, b2, b3, b4, b5, b6⟩, ⟨b7, b8, b9, b10, b11, b12⟩⟩) h <;> (first | (cases h; done) | (have h2 := encSt_inj rfl (Prod.mk.inj h).2; simp [] at h2; simp [h2]) | (have h2 := (Prod.mk.inj h).1; simp at h2) | rfl)
abbrev E_shape_Combine_2 : Type := ((List I6) × Int × (List Int) × Int × Int × I6 × I6)
def enc_L_shape_Combine_2 (e : E_shape_Combine_2) : Ex × St := (.exit 2, encSt S32_2_e2 (((List.map encI6 e.1), (), (), e.2.1, (List.map encI e.2.2.1), e.2.2.2.1, e.2.2.2.2.1, ()), ((e.2.2.2.2.2.1.c0, e.2.2.2.2.2.1.c1, e.2.2.2.2.2.1.c2, e.2.2.2.2.2.1.c3, e.2.2.2.2.2.1.c4, e.2.2.2.2.2.1.c5, ()), (e.2.2.2.2.2.2.c0, e.2.2.2.2.2.2.c1, e.2.2.2.2.2.2.c2, e.2.2.2.2.2.2.c3, e.2.2.2.2.2.2.c4, e.2.2.2.2.2.2.c5, ()), ())))
theorem inj_L_shape_Combine_2 : ∀ a b, enc_L_shape_Combine_2 a = enc_L_shape_Combine_2 b → a = b := by
  rintro ⟨a0, a1, a2, a3, a4, ⟨a5, a6, a7, a8, a9, a10⟩, ⟨a11, a12, a13, a14, a15, a16⟩⟩ ⟨b0, b1, b2, b3, b4, ⟨b5, b6, b7, b8, b9, b10⟩, ⟨b11, b12, b13, b14, b15, b16⟩⟩ h
  first | (cases h; done) | (have h2 := encSt_inj rfl (Prod.mk.inj h).2; simp [map_inj encI6_inj, map_inj encI_inj] at h2; simp [h2]) | (have h2 := (Prod.mk.inj h).1; simp at h2) | rfl
noncomputable abbrev X_L_shape_Combine_0 (v4 : List I6) (v5 : Int) (v6 : List Int) (v7 : Int) (v8 : Int) (c9 : I6) (c10 : I6) (n : Nat) : Option (Ex × St) := (lvl Try.prog HH n).1 ⟨32, 0, true⟩ 0 (loopOf Try.f32 0) (encSt S32_0 (((List.map encI6 v4), (), (), v5, (List.map encI v6), v7, v8, ()), ((c9.c0, c9.c1, c9.c2, c9.c3, c9.c4, c9.c5, ()), (c10.c0, c10.c1, c10.c2, c10.c3, c10.c4, c10.c5, ()), ())))
noncomputable def L_shape_Combine_0 (v4 : List I6) (v5 : Int) (v6 : List Int) (v7 : Int) (v8 : Int) (c9 : I6) (c10 : I6) : Option E_shape_Combine_0 := den enc_L_shape_Combine_0 (X_L_shape_Combine_0 v4 v5 v6 v7 v8 c9 c10)
theorem L_shape_Combine_0_of (v4 : List I6) (v5 : Int) (v6 : List Int) (v7 : Int) (v8 : Int) (c9 : I6) (c10 : I6) : ∀ r, ((
    bif decide (v8 < v7) then (
      bif decide (0 ≤ v8) then (
        (nth v6 v8.toNat).bind fun x11 =>
        bif decide (x11 < 0) then (
          some (.inl ((0, false, (I6.mk 0 0 0 0 0 0)))))
        else
        bif decide (x11 > 65536) then (
          some (.inl ((0, false, (I6.mk 0 0 0 0 0 0)))))
        else
        letIn (IntKind.wrap .i64 (v5 + x11) : Int) fun n12 =>
        Option.bind (α := E_shape_Combine_2) (
          bif decide (0 ≤ v8) then (
            (nth v4 v8.toNat).bind fun x13 =>
            letIn (IntKind.wrap .i64 (x11 * x13.c0) : Int) fun n14 =>
            letIn (IntKind.wrap .i64 (c10.c0 + n14) : Int) fun n15 =>
            bif decide (0 ≤ v8) then (
              (nth v4 v8.toNat).bind fun x16 =>
              letIn (IntKind.wrap .i64 (x11 * x16.c1) : Int) fun n17 =>
              letIn (IntKind.wrap .i64 (c10.c1 + n17) : Int) fun n18 =>
              bif decide (0 ≤ v8) then (
                (nth v4 v8.toNat).bind fun x19 =>
                letIn (IntKind.wrap .i64 (x11 * x19.c2) : Int) fun n20 =>
                letIn (IntKind.wrap .i64 (c10.c2 + n20) : Int) fun n21 =>
                bif decide (0 ≤ v8) then (
                  (nth v4 v8.toNat).bind fun x22 =>
                  letIn (IntKind.wrap .i64 (x11 * x22.c3) : Int) fun n23 =>
                  letIn (IntKind.wrap .i64 (c10.c3 + n23) : Int) fun n24 =>
                  bif decide (0 ≤ v8) then (
                    (nth v4 v8.toNat).bind fun x25 =>
                    letIn (IntKind.wrap .i64 (x11 * x25.c4) : Int) fun n26 =>
                    letIn (IntKind.wrap .i64 (c10.c4 + n26) : Int) fun n27 =>
                    bif decide (0 ≤ v8) then (
                      (nth v4 v8.toNat).bind fun x28 =>
                      letIn (IntKind.wrap .i64 (x11 * x28.c5) : Int) fun n29 =>
                      letIn (IntKind.wrap .i64 (c10.c5 + n29) : Int) fun n30 =>
                      some ((v4, n12, v6, v7, v8, c9, (I6.mk n15 n18 n21 n24 n27 n30))))
                    else
                    none)
                  else
                  none)
                else
                none)
              else
              none)
            else
            none)
          else
          none) fun p31 =>
        letIn (IntKind.wrap .i64 (p31.2.2.2.2.1 + 1) : Int) fun n32 =>
        L_shape_Combine_0 p31.1 p31.2.1 p31.2.2.1 p31.2.2.2.1 n32 p31.2.2.2.2.2.1 p31.2.2.2.2.2.2)
      else
      none)
    else
    some (.inr ((v5, c9, c10)))) : Option E_shape_Combine_0) = some r →
    L_shape_Combine_0 v4 v5 v6 v7 v8 c9 c10 = some r := fun r h =>
  den_of (x := (X_L_shape_Combine_0 v4 v5 v6 v7 v8 c9 c10)) inj_L_shape_Combine_0 5 (Lim.cong (fun n => loop32_0 n ((List.map encI6 v4)) v5 ((List.map encI v6)) v7 v8 c9.c0 c9.c1 c9.c2 c9.c3 c9.c4 c9.c5 c10.c0 c10.c1 c10.c2 c10.c3 c10.c4 c10.c5) (by
      refine Lim.bif rfl ?_ ?_
      · refine Lim.bif rfl ?_ Lim.none_
        refine Lim.nth encI rfl rfl fun x11 => ?_
        refine Lim.step rfl ?_
        refine Lim.step rfl ?_
        refine Lim.bif rfl ?_ ?_
        · exact Lim.leaf rfl
        refine Lim.bif rfl ?_ ?_
        · exact Lim.leaf rfl
        refine Lim.letIn rfl fun n12 => ?_
        refine Lim.bind (e := enc_L_shape_Combine_2) ?_ fun p31 => ?_
        · refine Lim.bif rfl ?_ Lim.none_
          refine Lim.nth encI6 rfl rfl fun x13 => ?_
          refine Lim.step rfl ?_
          refine Lim.step rfl ?_
          refine Lim.letIn rfl fun n14 => ?_
          refine Lim.letIn rfl fun n15 => ?_
          refine Lim.bif rfl ?_ Lim.none_
          refine Lim.nth encI6 rfl rfl fun x16 => ?_
          refine Lim.step rfl ?_
          refine Lim.step rfl ?_
          refine Lim.letIn rfl fun n17 => ?_
          refine Lim.letIn rfl fun n18 => ?_
          refine Lim.bif rfl ?_ Lim.none_
          refine Lim.nth encI6 rfl rfl fun x19 => ?_
          refine Lim.step rfl ?_
          refine Lim.step rfl ?_
          refine Lim.letIn rfl fun n20 => ?_
          refine Lim.letIn rfl fun n21 => ?_
          refine Lim.bif rfl ?_ Lim.none_
          refine Lim.nth encI6 rfl rfl fun x22 => ?_
          refine Lim.step rfl ?_
          refine Lim.step rfl ?_
          refine Lim.letIn rfl fun n23 => ?_
          refine Lim.letIn rfl fun n24 => ?_
          refine Lim.bif rfl ?_ Lim.none_
          refine Lim.nth encI6 rfl rfl fun x25 => ?_
          refine Lim.step rfl ?_
          refine Lim.step rfl ?_
          refine Lim.letIn rfl fun n26 => ?_
          refine Lim.letIn rfl fun n27 => ?_
          refine Lim.bif rfl ?_ Lim.none_
          refine Lim.nth encI6 rfl rfl fun x28 => ?_
          refine Lim.step rfl ?_
          refine Lim.step rfl ?_
          refine Lim.letIn rfl fun n29 => ?_
          refine Lim.letIn rfl fun n30 => ?_
          exact Lim.leaf rfl
        refine Lim.exit (.exit 2) S32_2_e2 (((List.map encI6 p31.1), (), (), p31.2.1, (List.map encI p31.2.2.1), p31.2.2.2.1, p31.2.2.2.2.1, ()), ((p31.2.2.2.2.2.1.c0, p31.2.2.2.2.2.1.c1, p31.2.2.2.2.2.1.c2, p31.2.2.2.2.2.1.c3, p31.2.2.2.2.2.1.c4, p31.2.2.2.2.2.1.c5, ()), (p31.2.2.2.2.2.2.c0, p31.2.2.2.2.2.2.c1, p31.2.2.2.2.2.2.c2, p31.2.2.2.2.2.2.c3, p31.2.2.2.2.2.2.c4, p31.2.2.2.2.2.2.c5, ()), ())) rfl rfl rfl ?_
        refine Lim.letIn rfl fun n32 => ?_
        exact Lim.loop 4 rfl
      exact Lim.leaf rfl
    )) h
abbrev o_shape_Combine (v : I6 × Int × Bool) : VtsT outs32 × MtsT mouts32 := (((v.1.c0, v.1.c1, v.1.c2, v.1.c3, v.1.c4, v.1.c5, ()), v.2.1, v.2.2, ()), ())
abbrev encO_shape_Combine (v : I6 × Int × Bool) : R := (encR outs32 (o_shape_Combine v).1, encMts mouts32 (o_shape_Combine v).2)
theorem injO_shape_Combine : ∀ a b, encO_shape_Combine a = encO_shape_Combine b → a = b := by
  rintro ⟨⟨a0, a1, a2, a3, a4, a5⟩, a6, a7⟩ ⟨⟨b0, b1, b2, b3, b4, b5⟩, b6, b7⟩ h
  have h1 := encR_inj (Prod.mk.inj h).1
  have h2 := encMts_inj (Prod.mk.inj h).2
  simp [o_shape_Combine] at h1 h2
  simp [h1, h2]
noncomputable abbrev X_shape_Combine (l1 : List I6) (weights2 : List Int) (n : Nat) : Option R := (lvl Try.prog HH n).2 32 [.s (.one (.fr 6 (List.map encI6 l1))), .s (.one (.fr 1 (List.map encI weights2)))] []
noncomputable def F_shape_Combine (l1 : List I6) (weights2 : List Int) : Option (I6 × Int × Bool) := den encO_shape_Combine (X_shape_Combine l1 weights2)
theorem lim_shape_Combine (k : Nat) (l1 : List I6) (weights2 : List Int) : Lim (fun v => (encR outs32 (o_shape_Combine v).1, encMts mouts32 (o_shape_Combine v).2)) (fun n => (lvl Try.prog HH (n + k)).2 32 [.s (.one (.fr 6 (List.map encI6 l1))), .s (.one (.fr 1 (List.map encI weights2)))] []) (F_shape_Combine l1 weights2) := Lim.den (x := (X_shape_Combine l1 weights2)) k
theorem F_shape_Combine_of (l1 : List I6) (weights2 : List Int) : ∀ r, ((
    (F_shape_Placed l1).bind fun y3 =>
    bif !y3 then (
      some ((I6.mk 0 0 0 0 0 0), 0, false))
    else
    bif (((weights2.length : Nat) : Int)) != (((l1.length : Nat) : Int)) then (
      some ((I6.mk 0 0 0 0 0 0), 0, false))
    else
    (L_shape_Combine_0 l1 0 weights2 (((weights2.length : Nat) : Int)) 0 ((I6.mk 0 0 0 0 0 0)) ((I6.mk 0 0 0 0 0 0))).bind fun p33 =>
    match p33 with
    | .inl e34 => (
      some (e34.2.2, e34.1, e34.2.1))
    | .inr e35 => (
      bif decide (e35.1 < 1) then (
        some ((I6.mk 0 0 0 0 0 0), 0, false))
      else
      bif decide (e35.1 > 65536) then (
        some ((I6.mk 0 0 0 0 0 0), 0, false))
      else
      some (e35.2.2, e35.1, true))) : Option (I6 × Int × Bool)) = some r →
    F_shape_Combine l1 weights2 = some r := fun r h =>
  den_of (x := (X_shape_Combine l1 weights2)) injO_shape_Combine 1 (Lim.cong (fun n => fn32 n ((List.map encI6 l1)) ((List.map encI weights2))) (by
      refine Lim.call o_shape_Placed (lim_shape_Placed 0 l1) rfl rfl fun y3 => ?_
      refine Lim.bif rfl ?_ ?_
      · exact Lim.leaf rfl
      refine Lim.bif (by first | with_reducible rfl | (simp [map_upd] <;> rfl) | rfl) ?_ ?_
      · exact Lim.leaf rfl
      refine Lim.bind (show Lim enc_L_shape_Combine_0 _ (L_shape_Combine_0 l1 0 weights2 (((weights2.length : Nat) : Int)) 0 ((I6.mk 0 0 0 0 0 0)) ((I6.mk 0 0 0 0 0 0))) from Lim.loop 0 (by first | with_reducible rfl | (simp [map_upd] <;> rfl) | rfl)) fun p33 => ?_
      rcases p33 with e34 | e35
      · refine Lim.exit (.ret) S32_0_r (((), e34.1, e34.2.1, ()), ((e34.2.2.c0, e34.2.2.c1, e34.2.2.c2, e34.2.2.c3, e34.2.2.c4, e34.2.2.c5, ()), ())) rfl rfl rfl ?_
        exact Lim.leaf rfl
      · refine Lim.bifF rfl ?_
        refine Lim.exit (.exit 0) S32_0_e0 (((), (), e35.1, ()), ((e35.2.1.c0, e35.2.1.c1, e35.2.1.c2, e35.2.1.c3, e35.2.1.c4, e35.2.1.c5, ()), (e35.2.2.c0, e35.2.2.c1, e35.2.2.c2, e35.2.2.c3, e35.2.2.c4, e35.2.2.c5, ()), ())) rfl rfl rfl ?_
        refine Lim.bif rfl ?_ ?_
        · exact Lim.leaf rfl
        refine Lim.bif rfl ?_ ?_
        · exact Lim.leaf rfl
        exact Lim.leaf rfl
    )) h

/-! armplan/overlap.greatest -/
abbrev E_overlap_greatest_0 : Type := (Int)
def enc_L_overlap_greatest_0 (e : E_overlap_greatest_0) : Ex × St := (.exit 0, encSt S33_0_e0 ((e, ()), ()))
theorem inj_L_overlap_greatest_0 : ∀ a b, enc_L_overlap_greatest_0 a = enc_L_overlap_greatest_0 b → a = b := by
  rintro a0 b0 h
  first | (cases h; done) | (have h2 := encSt_inj rfl (Prod.mk.inj h).2; simp [] at h2; simp [h2]) | (have h2 := (Prod.mk.inj h).1; simp at h2) | rfl
noncomputable abbrev X_L_overlap_greatest_0 (v2 : Int) (v3 : List Int) (v4 : Int) (v5 : Int) (n : Nat) : Option (Ex × St) := (lvl Try.prog HH n).1 ⟨33, 0, true⟩ 0 (loopOf Try.f33 0) (encSt S33_0 ((v2, (List.map encI v3), v4, v5, ()), ()))
noncomputable def L_overlap_greatest_0 (v2 : Int) (v3 : List Int) (v4 : Int) (v5 : Int) : Option E_overlap_greatest_0 := den enc_L_overlap_greatest_0 (X_L_overlap_greatest_0 v2 v3 v4 v5)
theorem L_overlap_greatest_0_of (v2 : Int) (v3 : List Int) (v4 : Int) (v5 : Int) : ∀ r, ((
    bif decide (v5 < v4) then (
      bif decide (0 ≤ v5) then (
        (nth v3 v5.toNat).bind fun x6 =>
        letIn (IntKind.wrap .i64 (0 - x6) : Int) fun n7 =>
        letIn (if x6 > v2 then x6 else v2 : Int) fun n8 =>
        letIn (if n7 > n8 then n7 else n8 : Int) fun n9 =>
        letIn (IntKind.wrap .i64 (v5 + 1) : Int) fun n10 =>
        L_overlap_greatest_0 n9 v3 v4 n10)
      else
      none)
    else
    some v2) : Option E_overlap_greatest_0) = some r →
    L_overlap_greatest_0 v2 v3 v4 v5 = some r := fun r h =>
  den_of (x := (X_L_overlap_greatest_0 v2 v3 v4 v5)) inj_L_overlap_greatest_0 1 (Lim.cong (fun n => loop33_0 n v2 ((List.map encI v3)) v4 v5) (by
      refine Lim.bif rfl ?_ ?_
      · refine Lim.bif rfl ?_ Lim.none_
        refine Lim.nth encI rfl rfl fun x6 => ?_
        refine Lim.step rfl ?_
        refine Lim.step rfl ?_
        refine Lim.letIn rfl fun n7 => ?_
        refine Lim.letIn rfl fun n8 => ?_
        refine Lim.letIn rfl fun n9 => ?_
        refine Lim.letIn rfl fun n10 => ?_
        exact Lim.loop 0 rfl
      exact Lim.leaf rfl
    )) h
abbrev o_overlap_greatest (v : Int) : VtsT outs33 × MtsT mouts33 := ((v, ()), ())
abbrev encO_overlap_greatest (v : Int) : R := (encR outs33 (o_overlap_greatest v).1, encMts mouts33 (o_overlap_greatest v).2)
theorem injO_overlap_greatest : ∀ a b, encO_overlap_greatest a = encO_overlap_greatest b → a = b := by
  rintro a0 b0 h
  have h1 := encR_inj (Prod.mk.inj h).1
  have h2 := encMts_inj (Prod.mk.inj h).2
  simp [o_overlap_greatest] at h1 h2
  simp [h1, h2]
noncomputable abbrev X_overlap_greatest (l1 : List Int) (n : Nat) : Option R := (lvl Try.prog HH n).2 33 [.s (.one (.fr 1 (List.map encI l1)))] []
noncomputable def F_overlap_greatest (l1 : List Int) : Option Int := den encO_overlap_greatest (X_overlap_greatest l1)
theorem lim_overlap_greatest (k : Nat) (l1 : List Int) : Lim (fun v => (encR outs33 (o_overlap_greatest v).1, encMts mouts33 (o_overlap_greatest v).2)) (fun n => (lvl Try.prog HH (n + k)).2 33 [.s (.one (.fr 1 (List.map encI l1)))] []) (F_overlap_greatest l1) := Lim.den (x := (X_overlap_greatest l1)) k
theorem F_overlap_greatest_of (l1 : List Int) : ∀ r, ((
    (L_overlap_greatest_0 0 l1 (((l1.length : Nat) : Int)) 0).bind fun p11 =>
    some p11) : Option Int) = some r →
    F_overlap_greatest l1 = some r := fun r h =>
  den_of (x := (X_overlap_greatest l1)) injO_overlap_greatest 1 (Lim.cong (fun n => fn33 n ((List.map encI l1))) (by
      refine Lim.bind (show Lim enc_L_overlap_greatest_0 _ (L_overlap_greatest_0 0 l1 (((l1.length : Nat) : Int)) 0) from Lim.loop 0 (by first | with_reducible rfl | (simp [map_upd] <;> rfl) | rfl)) fun p11 => ?_
      refine Lim.exit (.exit 0) S33_0_e0 ((p11, ()), ()) rfl rfl rfl ?_
      exact Lim.leaf rfl
    )) h

/-! armplan/overlap.Excess -/
abbrev E_overlap_Excess_0 : Type := (Int × Bool) ⊕ (Int)
def enc_L_overlap_Excess_0 : E_overlap_Excess_0 → Ex × St
  | .inl e => (.ret, encSt S16_0_r ((e.1, e.2, ()), ()))
  | .inr e => (.exit 0, encSt S16_0_e0 ((e, ()), ()))
theorem inj_L_overlap_Excess_0 : ∀ a b, enc_L_overlap_Excess_0 a = enc_L_overlap_Excess_0 b → a = b := by
  rintro (⟨a0, a1⟩ | a0) (⟨b0, b1⟩ | b0) h <;> (first | (cases h; done) | (have h2 := encSt_inj rfl (Prod.mk.inj h).2; simp [] at h2; simp [h2]) | (have h2 := (Prod.mk.inj h).1; simp at h2) | rfl)
abbrev o_overlap_Excess (v : Int × Bool) : VtsT outs16 × MtsT mouts16 := ((v.1, v.2, ()), ())
abbrev encO_overlap_Excess (v : Int × Bool) : R := (encR outs16 (o_overlap_Excess v).1, encMts mouts16 (o_overlap_Excess v).2)
theorem injO_overlap_Excess : ∀ a b, encO_overlap_Excess a = encO_overlap_Excess b → a = b := by
  rintro ⟨a0, a1⟩ ⟨b0, b1⟩ h
  have h1 := encR_inj (Prod.mk.inj h).1
  have h2 := encMts_inj (Prod.mk.inj h).2
  simp [o_overlap_Excess] at h1 h2
  simp [h1, h2]
noncomputable abbrev X_overlap_Excess (left1 : List Int) (right2 : List Int) (a3 : List I6) (ra4 : Int) (b5 : List I6) (rb6 : Int) (n : Nat) : Option R := (lvl Try.prog HH n).2 16 [.s (.one (.fr 1 (List.map encI left1))), .s (.one (.fr 1 (List.map encI right2))), .s (.one (.fr 6 (List.map encI6 a3))), .s (.one (.v (.int .i64 ra4))), .s (.one (.fr 6 (List.map encI6 b5))), .s (.one (.v (.int .i64 rb6)))] []
noncomputable def F_overlap_Excess (left1 : List Int) (right2 : List Int) (a3 : List I6) (ra4 : Int) (b5 : List I6) (rb6 : Int) : Option (Int × Bool) := den encO_overlap_Excess (X_overlap_Excess left1 right2 a3 ra4 b5 rb6)
theorem lim_overlap_Excess (k : Nat) (left1 : List Int) (right2 : List Int) (a3 : List I6) (ra4 : Int) (b5 : List I6) (rb6 : Int) : Lim (fun v => (encR outs16 (o_overlap_Excess v).1, encMts mouts16 (o_overlap_Excess v).2)) (fun n => (lvl Try.prog HH (n + k)).2 16 [.s (.one (.fr 1 (List.map encI left1))), .s (.one (.fr 1 (List.map encI right2))), .s (.one (.fr 6 (List.map encI6 a3))), .s (.one (.v (.int .i64 ra4))), .s (.one (.fr 6 (List.map encI6 b5))), .s (.one (.v (.int .i64 rb6)))] []) (F_overlap_Excess left1 right2 a3 ra4 b5 rb6) := Lim.den (x := (X_overlap_Excess left1 right2 a3 ra4 b5 rb6)) k
theorem F_overlap_Excess_of (left1 : List Int) (right2 : List Int) (a3 : List I6) (ra4 : Int) (b5 : List I6) (rb6 : Int) : ∀ r, ((
    (F_shape_Combine a3 left1).bind fun y7 =>
    (F_shape_Combine b5 right2).bind fun y8 =>
    bif !y7.2.2 then (
      some (0, false))
    else
    bif !y8.2.2 then (
      some (0, false))
    else
    bif y7.2.1 != y8.2.1 then (
      some (0, false))
    else
    bif decide (ra4 < 0) then (
      some (0, false))
    else
    bif decide (ra4 > 1048576) then (
      some (0, false))
    else
    bif decide (rb6 < 0) then (
      some (0, false))
    else
    bif decide (rb6 > 1048576) then (
      some (0, false))
    else
    letIn (IntKind.wrap .i64 (ra4 + rb6) : Int) fun n9 =>
    letIn (IntKind.wrap .i64 (n9 * n9) : Int) fun n10 =>
    Option.bind (α := E_overlap_Excess_0) (
      letIn (IntKind.wrap .i64 (y7.1.c0 - y8.1.c1) : Int) fun n11 =>
      letIn (IntKind.wrap .i64 (y7.1.c1 - y8.1.c0) : Int) fun n12 =>
      (F_overlap_greatest [n11, n12]).bind fun y13 =>
      letIn (IntKind.wrap .i64 (y13 + y7.2.1) : Int) fun n14 =>
      letIn (IntKind.wrap .i64 (n14 - 1) : Int) fun n15 =>
      bif y7.2.1 == 0 then (
        none)
      else
      letIn (IntKind.wrap .i64 (Int.tdiv n15 y7.2.1) : Int) fun n16 =>
      bif decide (n16 > n9) then (
        some (.inl (((-1), true))))
      else
      letIn (IntKind.wrap .i64 (n16 * n16) : Int) fun n17 =>
      letIn (IntKind.wrap .i64 (n10 - n17) : Int) fun n18 =>
      letIn (IntKind.wrap .i64 (y7.1.c2 - y8.1.c3) : Int) fun n19 =>
      letIn (IntKind.wrap .i64 (y7.1.c3 - y8.1.c2) : Int) fun n20 =>
      (F_overlap_greatest [n19, n20]).bind fun y21 =>
      letIn (IntKind.wrap .i64 (y21 + y7.2.1) : Int) fun n22 =>
      letIn (IntKind.wrap .i64 (n22 - 1) : Int) fun n23 =>
      bif y7.2.1 == 0 then (
        none)
      else
      letIn (IntKind.wrap .i64 (Int.tdiv n23 y7.2.1) : Int) fun n24 =>
      bif decide (n24 > n9) then (
        some (.inl (((-1), true))))
      else
      letIn (IntKind.wrap .i64 (n24 * n24) : Int) fun n25 =>
      letIn (IntKind.wrap .i64 (n18 - n25) : Int) fun n26 =>
      letIn (IntKind.wrap .i64 (y7.1.c4 - y8.1.c5) : Int) fun n27 =>
      letIn (IntKind.wrap .i64 (y7.1.c5 - y8.1.c4) : Int) fun n28 =>
      (F_overlap_greatest [n27, n28]).bind fun y29 =>
      letIn (IntKind.wrap .i64 (y29 + y7.2.1) : Int) fun n30 =>
      letIn (IntKind.wrap .i64 (n30 - 1) : Int) fun n31 =>
      bif y7.2.1 == 0 then (
        none)
      else
      letIn (IntKind.wrap .i64 (Int.tdiv n31 y7.2.1) : Int) fun n32 =>
      bif decide (n32 > n9) then (
        some (.inl (((-1), true))))
      else
      letIn (IntKind.wrap .i64 (n32 * n32) : Int) fun n33 =>
      letIn (IntKind.wrap .i64 (n26 - n33) : Int) fun n34 =>
      some (.inr n34)) fun p35 =>
    match p35 with
    | .inl e36 => (
      some (e36.1, e36.2))
    | .inr e37 => (
      some (e37, true))) : Option (Int × Bool)) = some r →
    F_overlap_Excess left1 right2 a3 ra4 b5 rb6 = some r := fun r h =>
  den_of (x := (X_overlap_Excess left1 right2 a3 ra4 b5 rb6)) injO_overlap_Excess 5 (Lim.cong (fun n => fn16 n ((List.map encI left1)) ((List.map encI right2)) ((List.map encI6 a3)) ra4 ((List.map encI6 b5)) rb6) (by
      refine Lim.call o_shape_Combine (lim_shape_Combine 4 a3 left1) rfl rfl fun y7 => ?_
      refine Lim.call o_shape_Combine (lim_shape_Combine 4 b5 right2) rfl rfl fun y8 => ?_
      refine Lim.bif rfl ?_ ?_
      · exact Lim.leaf rfl
      refine Lim.bif rfl ?_ ?_
      · exact Lim.leaf rfl
      refine Lim.bif rfl ?_ ?_
      · exact Lim.leaf rfl
      refine Lim.bif rfl ?_ ?_
      · exact Lim.leaf rfl
      refine Lim.bif rfl ?_ ?_
      · exact Lim.leaf rfl
      refine Lim.bif rfl ?_ ?_
      · exact Lim.leaf rfl
      refine Lim.bif rfl ?_ ?_
      · exact Lim.leaf rfl
      refine Lim.letIn rfl fun n9 => ?_
      refine Lim.letIn rfl fun n10 => ?_
      refine Lim.bind (e := enc_L_overlap_Excess_0) ?_ fun p35 => ?_
      · refine Lim.letIn rfl fun n11 => ?_
        refine Lim.letIn rfl fun n12 => ?_
        refine Lim.call o_overlap_greatest (lim_overlap_greatest 3 [n11, n12]) (by first | with_reducible rfl | (simp [map_upd, o_shape_Combine] <;> rfl) | (simp only [List.map_append, List.map_cons, List.map_nil, List.map_take, List.map_drop, map_upd, List.map_replicate, List.length_map, o_shape_Combine] <;> rfl) | (simp only [List.map_append, List.map_cons, List.map_nil, List.map_take, List.map_drop, map_upd, List.map_replicate, List.length_map, List.length_append, List.length_cons, List.length_nil, o_shape_Combine] <;> rfl) | rfl) (by first | with_reducible rfl | (simp [map_upd, o_shape_Combine] <;> rfl) | (simp only [List.map_append, List.map_cons, List.map_nil, List.map_take, List.map_drop, map_upd, List.map_replicate, List.length_map, o_shape_Combine] <;> rfl) | (simp only [List.map_append, List.map_cons, List.map_nil, List.map_take, List.map_drop, map_upd, List.map_replicate, List.length_map, List.length_append, List.length_cons, List.length_nil, o_shape_Combine] <;> rfl) | rfl) fun y13 => ?_
        refine Lim.letIn rfl fun n14 => ?_
        refine Lim.letIn rfl fun n15 => ?_
        refine Lim.bif rfl Lim.none_ ?_
        refine Lim.letIn rfl fun n16 => ?_
        refine Lim.bif rfl ?_ ?_
        · exact Lim.leaf rfl
        refine Lim.letIn rfl fun n17 => ?_
        refine Lim.letIn rfl fun n18 => ?_
        refine Lim.letIn rfl fun n19 => ?_
        refine Lim.letIn rfl fun n20 => ?_
        refine Lim.call o_overlap_greatest (lim_overlap_greatest 2 [n19, n20]) (by first | with_reducible rfl | (simp [map_upd, o_shape_Combine] <;> rfl) | (simp only [List.map_append, List.map_cons, List.map_nil, List.map_take, List.map_drop, map_upd, List.map_replicate, List.length_map, o_shape_Combine] <;> rfl) | (simp only [List.map_append, List.map_cons, List.map_nil, List.map_take, List.map_drop, map_upd, List.map_replicate, List.length_map, List.length_append, List.length_cons, List.length_nil, o_shape_Combine] <;> rfl) | rfl) (by first | with_reducible rfl | (simp [map_upd, o_shape_Combine] <;> rfl) | (simp only [List.map_append, List.map_cons, List.map_nil, List.map_take, List.map_drop, map_upd, List.map_replicate, List.length_map, o_shape_Combine] <;> rfl) | (simp only [List.map_append, List.map_cons, List.map_nil, List.map_take, List.map_drop, map_upd, List.map_replicate, List.length_map, List.length_append, List.length_cons, List.length_nil, o_shape_Combine] <;> rfl) | rfl) fun y21 => ?_
        refine Lim.letIn rfl fun n22 => ?_
        refine Lim.letIn rfl fun n23 => ?_
        refine Lim.bif rfl Lim.none_ ?_
        refine Lim.letIn rfl fun n24 => ?_
        refine Lim.bif rfl ?_ ?_
        · exact Lim.leaf rfl
        refine Lim.letIn rfl fun n25 => ?_
        refine Lim.letIn rfl fun n26 => ?_
        refine Lim.letIn rfl fun n27 => ?_
        refine Lim.letIn rfl fun n28 => ?_
        refine Lim.call o_overlap_greatest (lim_overlap_greatest 1 [n27, n28]) (by first | with_reducible rfl | (simp [map_upd, o_shape_Combine] <;> rfl) | (simp only [List.map_append, List.map_cons, List.map_nil, List.map_take, List.map_drop, map_upd, List.map_replicate, List.length_map, o_shape_Combine] <;> rfl) | (simp only [List.map_append, List.map_cons, List.map_nil, List.map_take, List.map_drop, map_upd, List.map_replicate, List.length_map, List.length_append, List.length_cons, List.length_nil, o_shape_Combine] <;> rfl) | rfl) (by first | with_reducible rfl | (simp [map_upd, o_shape_Combine] <;> rfl) | (simp only [List.map_append, List.map_cons, List.map_nil, List.map_take, List.map_drop, map_upd, List.map_replicate, List.length_map, o_shape_Combine] <;> rfl) | (simp only [List.map_append, List.map_cons, List.map_nil, List.map_take, List.map_drop, map_upd, List.map_replicate, List.length_map, List.length_append, List.length_cons, List.length_nil, o_shape_Combine] <;> rfl) | rfl) fun y29 => ?_
        refine Lim.letIn rfl fun n30 => ?_
        refine Lim.letIn rfl fun n31 => ?_
        refine Lim.bif rfl Lim.none_ ?_
        refine Lim.letIn rfl fun n32 => ?_
        refine Lim.bif rfl ?_ ?_
        · exact Lim.leaf rfl
        refine Lim.letIn rfl fun n33 => ?_
        refine Lim.letIn rfl fun n34 => ?_
        exact Lim.leaf rfl
      rcases p35 with e36 | e37
      · refine Lim.exit (.ret) S16_0_r ((e36.1, e36.2, ()), ()) rfl rfl rfl ?_
        exact Lim.leaf rfl
      · refine Lim.bifF rfl ?_
        refine Lim.exit (.exit 0) S16_0_e0 ((e37, ()), ()) rfl rfl rfl ?_
        exact Lim.leaf rfl
    )) h

/-! armplan/overlap.Overlaps -/
abbrev o_overlap_Overlaps (v : Bool) : VtsT outs17 × MtsT mouts17 := ((v, ()), ())
abbrev encO_overlap_Overlaps (v : Bool) : R := (encR outs17 (o_overlap_Overlaps v).1, encMts mouts17 (o_overlap_Overlaps v).2)
theorem injO_overlap_Overlaps : ∀ a b, encO_overlap_Overlaps a = encO_overlap_Overlaps b → a = b := by
  rintro a0 b0 h
  have h1 := encR_inj (Prod.mk.inj h).1
  have h2 := encMts_inj (Prod.mk.inj h).2
  simp [o_overlap_Overlaps] at h1 h2
  simp [h1, h2]
noncomputable abbrev X_overlap_Overlaps (left1 : List Int) (right2 : List Int) (a3 : List I6) (ra4 : Int) (b5 : List I6) (rb6 : Int) (n : Nat) : Option R := (lvl Try.prog HH n).2 17 [.s (.one (.fr 1 (List.map encI left1))), .s (.one (.fr 1 (List.map encI right2))), .s (.one (.fr 6 (List.map encI6 a3))), .s (.one (.v (.int .i64 ra4))), .s (.one (.fr 6 (List.map encI6 b5))), .s (.one (.v (.int .i64 rb6)))] []
noncomputable def F_overlap_Overlaps (left1 : List Int) (right2 : List Int) (a3 : List I6) (ra4 : Int) (b5 : List I6) (rb6 : Int) : Option Bool := den encO_overlap_Overlaps (X_overlap_Overlaps left1 right2 a3 ra4 b5 rb6)
theorem lim_overlap_Overlaps (k : Nat) (left1 : List Int) (right2 : List Int) (a3 : List I6) (ra4 : Int) (b5 : List I6) (rb6 : Int) : Lim (fun v => (encR outs17 (o_overlap_Overlaps v).1, encMts mouts17 (o_overlap_Overlaps v).2)) (fun n => (lvl Try.prog HH (n + k)).2 17 [.s (.one (.fr 1 (List.map encI left1))), .s (.one (.fr 1 (List.map encI right2))), .s (.one (.fr 6 (List.map encI6 a3))), .s (.one (.v (.int .i64 ra4))), .s (.one (.fr 6 (List.map encI6 b5))), .s (.one (.v (.int .i64 rb6)))] []) (F_overlap_Overlaps left1 right2 a3 ra4 b5 rb6) := Lim.den (x := (X_overlap_Overlaps left1 right2 a3 ra4 b5 rb6)) k
theorem F_overlap_Overlaps_of (left1 : List Int) (right2 : List Int) (a3 : List I6) (ra4 : Int) (b5 : List I6) (rb6 : Int) : ∀ r, ((
    (F_overlap_Excess left1 right2 a3 ra4 b5 rb6).bind fun y7 =>
    bif y7.2 then (
      some (decide (y7.1 ≥ 0)))
    else
    some false) : Option Bool) = some r →
    F_overlap_Overlaps left1 right2 a3 ra4 b5 rb6 = some r := fun r h =>
  den_of (x := (X_overlap_Overlaps left1 right2 a3 ra4 b5 rb6)) injO_overlap_Overlaps 1 (Lim.cong (fun n => fn17 n ((List.map encI left1)) ((List.map encI right2)) ((List.map encI6 a3)) ra4 ((List.map encI6 b5)) rb6) (by
      refine Lim.call o_overlap_Excess (lim_overlap_Excess 0 left1 right2 a3 ra4 b5 rb6) rfl rfl fun y7 => ?_
      refine Lim.bif rfl ?_ ?_
      · exact Lim.leaf rfl
      exact Lim.leaf rfl
    )) h

/-! armplan/armplanref1.Clamp -/
abbrev o_ref1_Clamp (v : Int) : VtsT outs52 × MtsT mouts52 := ((v, ()), ())
abbrev encO_ref1_Clamp (v : Int) : R := (encR outs52 (o_ref1_Clamp v).1, encMts mouts52 (o_ref1_Clamp v).2)
theorem injO_ref1_Clamp : ∀ a b, encO_ref1_Clamp a = encO_ref1_Clamp b → a = b := by
  rintro a0 b0 h
  have h1 := encR_inj (Prod.mk.inj h).1
  have h2 := encMts_inj (Prod.mk.inj h).2
  simp [o_ref1_Clamp] at h1 h2
  simp [h1, h2]
noncomputable abbrev X_ref1_Clamp (a1 : Int) (n : Nat) : Option R := (lvl Try.prog HH n).2 52 [.s (.one (.v (.int .i64 a1)))] []
noncomputable def F_ref1_Clamp (a1 : Int) : Option Int := den encO_ref1_Clamp (X_ref1_Clamp a1)
theorem lim_ref1_Clamp (k : Nat) (a1 : Int) : Lim (fun v => (encR outs52 (o_ref1_Clamp v).1, encMts mouts52 (o_ref1_Clamp v).2)) (fun n => (lvl Try.prog HH (n + k)).2 52 [.s (.one (.v (.int .i64 a1)))] []) (F_ref1_Clamp a1) := Lim.den (x := (X_ref1_Clamp a1)) k
theorem F_ref1_Clamp_of (a1 : Int) : ∀ r, ((
    letIn (if 2147483648 < a1 then 2147483648 else a1 : Int) fun n2 =>
    letIn (if n2 > (-2147483648) then n2 else (-2147483648) : Int) fun n3 =>
    some n3) : Option Int) = some r →
    F_ref1_Clamp a1 = some r := fun r h =>
  den_of (x := (X_ref1_Clamp a1)) injO_ref1_Clamp 1 (Lim.cong (fun n => fn52 n a1) (by
      refine Lim.letIn rfl fun n2 => ?_
      refine Lim.letIn rfl fun n3 => ?_
      exact Lim.leaf rfl
    )) h
def G_ref1_Clamp (a1 : Int) : Int :=
  letIn (if 2147483648 < a1 then 2147483648 else a1 : Int) fun n2 =>
  letIn (if n2 > (-2147483648) then n2 else (-2147483648) : Int) fun n3 =>
  n3
theorem F_ref1_Clamp_eq (a1 : Int) : F_ref1_Clamp a1 = some (G_ref1_Clamp a1) := F_ref1_Clamp_of a1 _ (by
  unfold G_ref1_Clamp
  refine Tot.letIn fun n2 => ?_
  refine Tot.letIn fun n3 => ?_
  rfl)

/-! armplan/armplanref1.Of -/
abbrev o_ref1_Of (v : I2) : VtsT outs44 × MtsT mouts44 := (((v.c0, v.c1, ()), ()), ())
abbrev encO_ref1_Of (v : I2) : R := (encR outs44 (o_ref1_Of v).1, encMts mouts44 (o_ref1_Of v).2)
theorem injO_ref1_Of : ∀ a b, encO_ref1_Of a = encO_ref1_Of b → a = b := by
  rintro ⟨a0, a1⟩ ⟨b0, b1⟩ h
  have h1 := encR_inj (Prod.mk.inj h).1
  have h2 := encMts_inj (Prod.mk.inj h).2
  simp [o_ref1_Of] at h1 h2
  simp [h1, h2]
noncomputable abbrev X_ref1_Of (x1 : Int) (n : Nat) : Option R := (lvl Try.prog HH n).2 44 [.s (.one (.v (.int .i64 x1)))] []
noncomputable def F_ref1_Of (x1 : Int) : Option I2 := den encO_ref1_Of (X_ref1_Of x1)
theorem lim_ref1_Of (k : Nat) (x1 : Int) : Lim (fun v => (encR outs44 (o_ref1_Of v).1, encMts mouts44 (o_ref1_Of v).2)) (fun n => (lvl Try.prog HH (n + k)).2 44 [.s (.one (.v (.int .i64 x1)))] []) (F_ref1_Of x1) := Lim.den (x := (X_ref1_Of x1)) k
theorem F_ref1_Of_of (x1 : Int) : ∀ r, ((
    (F_ref1_Clamp x1).bind fun y2 =>
    (F_ref1_Clamp x1).bind fun y3 =>
    some ((I2.mk y2 y3))) : Option I2) = some r →
    F_ref1_Of x1 = some r := fun r h =>
  den_of (x := (X_ref1_Of x1)) injO_ref1_Of 1 (Lim.cong (fun n => fn44 n x1) (by
      refine Lim.call o_ref1_Clamp (lim_ref1_Clamp 0 x1) rfl rfl fun y2 => ?_
      refine Lim.call o_ref1_Clamp (lim_ref1_Clamp 0 x1) rfl rfl fun y3 => ?_
      exact Lim.leaf rfl
    )) h
def G_ref1_Of (x1 : Int) : I2 :=
  letIn (G_ref1_Clamp x1) fun y2 =>
  letIn (G_ref1_Clamp x1) fun y3 =>
  ((I2.mk y2 y3))
theorem F_ref1_Of_eq (x1 : Int) : F_ref1_Of x1 = some (G_ref1_Of x1) := F_ref1_Of_of x1 _ (by
  unfold G_ref1_Of
  refine Tot.bind (F_ref1_Clamp_eq x1) fun y2 => ?_
  refine Tot.bind (F_ref1_Clamp_eq x1) fun y3 => ?_
  rfl)

/-! armplan/armplanref1.Point -/
abbrev o_ref1_Point (v : I6) : VtsT outs37 × MtsT mouts37 := (((v.c0, v.c1, v.c2, v.c3, v.c4, v.c5, ()), ()), ())
abbrev encO_ref1_Point (v : I6) : R := (encR outs37 (o_ref1_Point v).1, encMts mouts37 (o_ref1_Point v).2)
theorem injO_ref1_Point : ∀ a b, encO_ref1_Point a = encO_ref1_Point b → a = b := by
  rintro ⟨a0, a1, a2, a3, a4, a5⟩ ⟨b0, b1, b2, b3, b4, b5⟩ h
  have h1 := encR_inj (Prod.mk.inj h).1
  have h2 := encMts_inj (Prod.mk.inj h).2
  simp [o_ref1_Point] at h1 h2
  simp [h1, h2]
noncomputable abbrev X_ref1_Point (v1 : I3) (n : Nat) : Option R := (lvl Try.prog HH n).2 37 [.s (.agg true [.v (.int .i64 v1.c0), .v (.int .i64 v1.c1), .v (.int .i64 v1.c2)])] []
noncomputable def F_ref1_Point (v1 : I3) : Option I6 := den encO_ref1_Point (X_ref1_Point v1)
theorem lim_ref1_Point (k : Nat) (v1 : I3) : Lim (fun v => (encR outs37 (o_ref1_Point v).1, encMts mouts37 (o_ref1_Point v).2)) (fun n => (lvl Try.prog HH (n + k)).2 37 [.s (.agg true [.v (.int .i64 v1.c0), .v (.int .i64 v1.c1), .v (.int .i64 v1.c2)])] []) (F_ref1_Point v1) := Lim.den (x := (X_ref1_Point v1)) k
theorem F_ref1_Point_of (v1 : I3) : ∀ r, ((
    (F_ref1_Of v1.c0).bind fun y2 =>
    (F_ref1_Of v1.c1).bind fun y3 =>
    (F_ref1_Of v1.c2).bind fun y4 =>
    some ((I6.mk y2.c0 y2.c1 y3.c0 y3.c1 y4.c0 y4.c1))) : Option I6) = some r →
    F_ref1_Point v1 = some r := fun r h =>
  den_of (x := (X_ref1_Point v1)) injO_ref1_Point 1 (Lim.cong (fun n => fn37 n v1.c0 v1.c1 v1.c2) (by
      refine Lim.call o_ref1_Of (lim_ref1_Of 0 v1.c0) rfl rfl fun y2 => ?_
      refine Lim.call o_ref1_Of (lim_ref1_Of 0 v1.c1) rfl rfl fun y3 => ?_
      refine Lim.call o_ref1_Of (lim_ref1_Of 0 v1.c2) rfl rfl fun y4 => ?_
      exact Lim.leaf rfl
    )) h
def G_ref1_Point (v1 : I3) : I6 :=
  letIn (G_ref1_Of v1.c0) fun y2 =>
  letIn (G_ref1_Of v1.c1) fun y3 =>
  letIn (G_ref1_Of v1.c2) fun y4 =>
  ((I6.mk y2.c0 y2.c1 y3.c0 y3.c1 y4.c0 y4.c1))
theorem F_ref1_Point_eq (v1 : I3) : F_ref1_Point v1 = some (G_ref1_Point v1) := F_ref1_Point_of v1 _ (by
  unfold G_ref1_Point
  refine Tot.bind (F_ref1_Of_eq v1.c0) fun y2 => ?_
  refine Tot.bind (F_ref1_Of_eq v1.c1) fun y3 => ?_
  refine Tot.bind (F_ref1_Of_eq v1.c2) fun y4 => ?_
  rfl)

/-! armplan/armplanmake.Boxed -/
abbrev E_make_Boxed_0 : Type := ((List I6))
def enc_L_make_Boxed_0 (e : E_make_Boxed_0) : Ex × St := (.exit 0, encSt S29_0_e0 (((), ()), ((List.map encI6 e), ())))
theorem inj_L_make_Boxed_0 : ∀ a b, enc_L_make_Boxed_0 a = enc_L_make_Boxed_0 b → a = b := by
  rintro a0 b0 h
  first | (cases h; done) | (have h2 := encSt_inj rfl (Prod.mk.inj h).2; simp [map_inj encI6_inj] at h2; simp [h2]) | (have h2 := (Prod.mk.inj h).1; simp at h2) | rfl
noncomputable abbrev X_L_make_Boxed_0 (v2 : List I3) (v3 : Int) (es4 : List I6) (n : Nat) : Option (Ex × St) := (lvl Try.prog HH n).1 ⟨29, 0, true⟩ 0 (loopOf Try.f29 0) (encSt S29_0 (((List.map encI3 v2), (), v3, ()), ((List.map encI6 es4), ())))
noncomputable def L_make_Boxed_0 (v2 : List I3) (v3 : Int) (es4 : List I6) : Option E_make_Boxed_0 := den enc_L_make_Boxed_0 (X_L_make_Boxed_0 v2 v3 es4)
theorem L_make_Boxed_0_of (v2 : List I3) (v3 : Int) (es4 : List I6) : ∀ r, ((
    bif decide (v3 < (((v2.length : Nat) : Int))) then (
      bif decide (0 ≤ v3) then (
        (nth v2 v3.toNat).bind fun x5 =>
        (F_ref1_Point x5).bind fun y6 =>
        bif decide ((es4.length + 1) * 48 ≤ 140737488355328) then (
          letIn (IntKind.wrap .i64 (v3 + 1) : Int) fun n7 =>
          L_make_Boxed_0 v2 n7 (es4 ++ [y6]))
        else
        none)
      else
      none)
    else
    some es4) : Option E_make_Boxed_0) = some r →
    L_make_Boxed_0 v2 v3 es4 = some r := fun r h =>
  den_of (x := (X_L_make_Boxed_0 v2 v3 es4)) inj_L_make_Boxed_0 1 (Lim.cong (fun n => loop29_0 n ((List.map encI3 v2)) v3 ((List.map encI6 es4))) (by
      refine Lim.bif (by first | with_reducible rfl | (simp [map_upd, o_ref1_Point] <;> rfl) | (simp only [List.map_append, List.map_cons, List.map_nil, List.map_take, List.map_drop, map_upd, List.map_replicate, List.length_map, o_ref1_Point] <;> rfl) | (simp only [List.map_append, List.map_cons, List.map_nil, List.map_take, List.map_drop, map_upd, List.map_replicate, List.length_map, List.length_append, List.length_cons, List.length_nil, o_ref1_Point] <;> rfl) | rfl) ?_ ?_
      · refine Lim.bif rfl ?_ Lim.none_
        refine Lim.nth encI3 rfl rfl fun x5 => ?_
        refine Lim.bifT rfl ?_
        refine Lim.decC (x5.c0, x5.c1, x5.c2, ()) rfl ?_
        refine Lim.call o_ref1_Point (lim_ref1_Point 0 x5) rfl rfl fun y6 => ?_
        refine Lim.bif (by first | with_reducible rfl | (simp [map_upd, o_ref1_Point] <;> rfl) | (simp only [List.map_append, List.map_cons, List.map_nil, List.map_take, List.map_drop, map_upd, List.map_replicate, List.length_map, o_ref1_Point] <;> rfl) | (simp only [List.map_append, List.map_cons, List.map_nil, List.map_take, List.map_drop, map_upd, List.map_replicate, List.length_map, List.length_append, List.length_cons, List.length_nil, o_ref1_Point] <;> rfl) | rfl) ?_ Lim.none_
        refine Lim.letIn rfl fun n7 => ?_
        exact Lim.loop 0 (by first | with_reducible rfl | (simp [map_upd, o_ref1_Point] <;> rfl) | (simp only [List.map_append, List.map_cons, List.map_nil, List.map_take, List.map_drop, map_upd, List.map_replicate, List.length_map, o_ref1_Point] <;> rfl) | (simp only [List.map_append, List.map_cons, List.map_nil, List.map_take, List.map_drop, map_upd, List.map_replicate, List.length_map, List.length_append, List.length_cons, List.length_nil, o_ref1_Point] <;> rfl) | rfl)
      exact Lim.leaf rfl
    )) h
abbrev o_make_Boxed (v : (List I6)) : VtsT outs29 × MtsT mouts29 := (((List.map encI6 v), ()), ())
abbrev encO_make_Boxed (v : (List I6)) : R := (encR outs29 (o_make_Boxed v).1, encMts mouts29 (o_make_Boxed v).2)
theorem injO_make_Boxed : ∀ a b, encO_make_Boxed a = encO_make_Boxed b → a = b := by
  rintro a0 b0 h
  have h1 := encR_inj (Prod.mk.inj h).1
  have h2 := encMts_inj (Prod.mk.inj h).2
  simp [o_make_Boxed, map_inj encI6_inj] at h1 h2
  simp [h1, h2]
noncomputable abbrev X_make_Boxed (l1 : List I3) (n : Nat) : Option R := (lvl Try.prog HH n).2 29 [.s (.one (.fr 3 (List.map encI3 l1)))] []
noncomputable def F_make_Boxed (l1 : List I3) : Option ((List I6)) := den encO_make_Boxed (X_make_Boxed l1)
theorem lim_make_Boxed (k : Nat) (l1 : List I3) : Lim (fun v => (encR outs29 (o_make_Boxed v).1, encMts mouts29 (o_make_Boxed v).2)) (fun n => (lvl Try.prog HH (n + k)).2 29 [.s (.one (.fr 3 (List.map encI3 l1)))] []) (F_make_Boxed l1) := Lim.den (x := (X_make_Boxed l1)) k
theorem F_make_Boxed_of (l1 : List I3) : ∀ r, ((
    (L_make_Boxed_0 l1 0 []).bind fun p8 =>
    some p8) : Option ((List I6))) = some r →
    F_make_Boxed l1 = some r := fun r h =>
  den_of (x := (X_make_Boxed l1)) injO_make_Boxed 1 (Lim.cong (fun n => fn29 n ((List.map encI3 l1))) (by
      refine Lim.bind (show Lim enc_L_make_Boxed_0 _ (L_make_Boxed_0 l1 0 []) from Lim.loop 0 (by first | with_reducible rfl | (simp [map_upd, o_ref1_Point] <;> rfl) | (simp only [List.map_append, List.map_cons, List.map_nil, List.map_take, List.map_drop, map_upd, List.map_replicate, List.length_map, o_ref1_Point] <;> rfl) | (simp only [List.map_append, List.map_cons, List.map_nil, List.map_take, List.map_drop, map_upd, List.map_replicate, List.length_map, List.length_append, List.length_cons, List.length_nil, o_ref1_Point] <;> rfl) | rfl)) fun p8 => ?_
      refine Lim.exit (.exit 0) S29_0_e0 (((), ()), ((List.map encI6 p8), ())) rfl rfl rfl ?_
      exact Lim.leaf rfl
    )) h

/-! armplan/armplanlaw16.awake -/
abbrev o_law16_awake (v : Bool) : VtsT outs12 × MtsT mouts12 := ((v, ()), ())
abbrev encO_law16_awake (v : Bool) : R := (encR outs12 (o_law16_awake v).1, encMts mouts12 (o_law16_awake v).2)
theorem injO_law16_awake : ∀ a b, encO_law16_awake a = encO_law16_awake b → a = b := by
  rintro a0 b0 h
  have h1 := encR_inj (Prod.mk.inj h).1
  have h2 := encMts_inj (Prod.mk.inj h).2
  simp [o_law16_awake] at h1 h2
  simp [h1, h2]
noncomputable abbrev X_law16_awake  (n : Nat) : Option R := (lvl Try.prog HH n).2 12 [] []
noncomputable def F_law16_awake  : Option Bool := den encO_law16_awake X_law16_awake
theorem lim_law16_awake (k : Nat)  : Lim (fun v => (encR outs12 (o_law16_awake v).1, encMts mouts12 (o_law16_awake v).2)) (fun n => (lvl Try.prog HH (n + k)).2 12 [] []) (F_law16_awake) := Lim.den (x := X_law16_awake) k
theorem F_law16_awake_of  : ∀ r, ((
    (F_make_Boxed [(I3.mk 0 0 0)]).bind fun y1 =>
    (F_overlap_Excess [1] [1] y1 3 [(I6.mk 3 4 0 0 0 0)] 1).bind fun y2 =>
    (F_overlap_Excess [1] [1] y1 3 [(I6.mk 3 4 0 0 0 0)] 0).bind fun y3 =>
    bif y2.2 then (
      bif y3.2 then (
        bif y2.1 == 0 then (
          bif y3.1 == (-1) then (
            (F_overlap_Overlaps [1] [1] y1 3 [(I6.mk 3 4 0 0 0 0)] 1).bind fun y4 =>
            some y4)
          else
          some false)
        else
        some false)
      else
      some false)
    else
    some false) : Option Bool) = some r →
    F_law16_awake = some r := fun r h =>
  den_of (x := X_law16_awake) injO_law16_awake 1 (Lim.cong (fun n => fn12 n ) (by
      refine Lim.call o_make_Boxed (lim_make_Boxed 0 [(I3.mk 0 0 0)]) (by first | with_reducible rfl | (simp [map_upd, o_make_Boxed] <;> rfl) | (simp only [List.map_append, List.map_cons, List.map_nil, List.map_take, List.map_drop, map_upd, List.map_replicate, List.length_map, o_make_Boxed] <;> rfl) | (simp only [List.map_append, List.map_cons, List.map_nil, List.map_take, List.map_drop, map_upd, List.map_replicate, List.length_map, List.length_append, List.length_cons, List.length_nil, o_make_Boxed] <;> rfl) | rfl) (by first | with_reducible rfl | (simp [map_upd, o_make_Boxed] <;> rfl) | (simp only [List.map_append, List.map_cons, List.map_nil, List.map_take, List.map_drop, map_upd, List.map_replicate, List.length_map, o_make_Boxed] <;> rfl) | (simp only [List.map_append, List.map_cons, List.map_nil, List.map_take, List.map_drop, map_upd, List.map_replicate, List.length_map, List.length_append, List.length_cons, List.length_nil, o_make_Boxed] <;> rfl) | rfl) fun y1 => ?_
      refine Lim.call o_overlap_Excess (lim_overlap_Excess 0 [1] [1] y1 3 [(I6.mk 3 4 0 0 0 0)] 1) (by first | with_reducible rfl | (simp [map_upd, o_make_Boxed] <;> rfl) | (simp only [List.map_append, List.map_cons, List.map_nil, List.map_take, List.map_drop, map_upd, List.map_replicate, List.length_map, o_make_Boxed] <;> rfl) | (simp only [List.map_append, List.map_cons, List.map_nil, List.map_take, List.map_drop, map_upd, List.map_replicate, List.length_map, List.length_append, List.length_cons, List.length_nil, o_make_Boxed] <;> rfl) | rfl) (by first | with_reducible rfl | (simp [map_upd, o_make_Boxed] <;> rfl) | (simp only [List.map_append, List.map_cons, List.map_nil, List.map_take, List.map_drop, map_upd, List.map_replicate, List.length_map, o_make_Boxed] <;> rfl) | (simp only [List.map_append, List.map_cons, List.map_nil, List.map_take, List.map_drop, map_upd, List.map_replicate, List.length_map, List.length_append, List.length_cons, List.length_nil, o_make_Boxed] <;> rfl) | rfl) fun y2 => ?_
      refine Lim.call o_overlap_Excess (lim_overlap_Excess 0 [1] [1] y1 3 [(I6.mk 3 4 0 0 0 0)] 0) (by first | with_reducible rfl | (simp [map_upd, o_make_Boxed] <;> rfl) | (simp only [List.map_append, List.map_cons, List.map_nil, List.map_take, List.map_drop, map_upd, List.map_replicate, List.length_map, o_make_Boxed] <;> rfl) | (simp only [List.map_append, List.map_cons, List.map_nil, List.map_take, List.map_drop, map_upd, List.map_replicate, List.length_map, List.length_append, List.length_cons, List.length_nil, o_make_Boxed] <;> rfl) | rfl) (by first | with_reducible rfl | (simp [map_upd, o_make_Boxed] <;> rfl) | (simp only [List.map_append, List.map_cons, List.map_nil, List.map_take, List.map_drop, map_upd, List.map_replicate, List.length_map, o_make_Boxed] <;> rfl) | (simp only [List.map_append, List.map_cons, List.map_nil, List.map_take, List.map_drop, map_upd, List.map_replicate, List.length_map, List.length_append, List.length_cons, List.length_nil, o_make_Boxed] <;> rfl) | rfl) fun y3 => ?_
      refine Lim.bif rfl ?_ ?_
      · refine Lim.bif rfl ?_ ?_
        · refine Lim.bif rfl ?_ ?_
          · refine Lim.bif rfl ?_ ?_
            · refine Lim.call o_overlap_Overlaps (lim_overlap_Overlaps 0 [1] [1] y1 3 [(I6.mk 3 4 0 0 0 0)] 1) (by first | with_reducible rfl | (simp [map_upd, o_make_Boxed] <;> rfl) | (simp only [List.map_append, List.map_cons, List.map_nil, List.map_take, List.map_drop, map_upd, List.map_replicate, List.length_map, o_make_Boxed] <;> rfl) | (simp only [List.map_append, List.map_cons, List.map_nil, List.map_take, List.map_drop, map_upd, List.map_replicate, List.length_map, List.length_append, List.length_cons, List.length_nil, o_make_Boxed] <;> rfl) | rfl) (by first | with_reducible rfl | (simp [map_upd, o_make_Boxed] <;> rfl) | (simp only [List.map_append, List.map_cons, List.map_nil, List.map_take, List.map_drop, map_upd, List.map_replicate, List.length_map, o_make_Boxed] <;> rfl) | (simp only [List.map_append, List.map_cons, List.map_nil, List.map_take, List.map_drop, map_upd, List.map_replicate, List.length_map, List.length_append, List.length_cons, List.length_nil, o_make_Boxed] <;> rfl) | rfl) fun y4 => ?_
              exact Lim.leaf rfl
            exact Lim.leaf rfl
          exact Lim.leaf rfl
        exact Lim.leaf rfl
      exact Lim.leaf rfl
    )) h

/-! armplan/armplanmake.Part -/
abbrev o_make_Part (v : I2) : VtsT outs34 × MtsT mouts34 := (((v.c0, v.c1, ()), ()), ())
abbrev encO_make_Part (v : I2) : R := (encR outs34 (o_make_Part v).1, encMts mouts34 (o_make_Part v).2)
theorem injO_make_Part : ∀ a b, encO_make_Part a = encO_make_Part b → a = b := by
  rintro ⟨a0, a1⟩ ⟨b0, b1⟩ h
  have h1 := encR_inj (Prod.mk.inj h).1
  have h2 := encMts_inj (Prod.mk.inj h).2
  simp [o_make_Part] at h1 h2
  simp [h1, h2]
noncomputable abbrev X_make_Part (a1 : I2) (m2 : Int) (n3 : Int) (n : Nat) : Option R := (lvl Try.prog HH n).2 34 [.s (.agg true [.v (.int .i64 a1.c0), .v (.int .i64 a1.c1)]), .s (.one (.v (.int .i64 m2))), .s (.one (.v (.int .i64 n3)))] []
noncomputable def F_make_Part (a1 : I2) (m2 : Int) (n3 : Int) : Option I2 := den encO_make_Part (X_make_Part a1 m2 n3)
theorem lim_make_Part (k : Nat) (a1 : I2) (m2 : Int) (n3 : Int) : Lim (fun v => (encR outs34 (o_make_Part v).1, encMts mouts34 (o_make_Part v).2)) (fun n => (lvl Try.prog HH (n + k)).2 34 [.s (.agg true [.v (.int .i64 a1.c0), .v (.int .i64 a1.c1)]), .s (.one (.v (.int .i64 m2))), .s (.one (.v (.int .i64 n3)))] []) (F_make_Part a1 m2 n3) := Lim.den (x := (X_make_Part a1 m2 n3)) k
theorem F_make_Part_of (a1 : I2) (m2 : Int) (n3 : Int) : ∀ r, ((
    letIn (IntKind.wrap .i64 (a1.c1 - a1.c0) : Int) fun n4 =>
    letIn (IntKind.wrap .i64 (n4 + 1) : Int) fun n5 =>
    (F_make_Round m2 n5).bind fun y6 =>
    letIn (IntKind.wrap .i64 (a1.c0 + y6) : Int) fun n7 =>
    letIn (IntKind.wrap .i64 ((BitVec.ofInt 64 n3 &&& BitVec.ofInt 64 1).toNat : Nat) : Int) fun n8 =>
    bif n8 == 0 then (
      some ((I2.mk n7 n7)))
    else
    letIn (Int.fdiv n3 2 : Int) fun n9 =>
    (F_make_Round n9 n5).bind fun y10 =>
    letIn (IntKind.wrap .i64 (a1.c0 + y10) : Int) fun n11 =>
    letIn (if n11 < n7 then n11 else n7 : Int) fun n12 =>
    letIn (if n11 > n7 then n11 else n7 : Int) fun n13 =>
    some ((I2.mk n12 n13))) : Option I2) = some r →
    F_make_Part a1 m2 n3 = some r := fun r h =>
  den_of (x := (X_make_Part a1 m2 n3)) injO_make_Part 1 (Lim.cong (fun n => fn34 n a1.c0 a1.c1 m2 n3) (by
      refine Lim.letIn rfl fun n4 => ?_
      refine Lim.letIn rfl fun n5 => ?_
      refine Lim.call o_make_Round (lim_make_Round 0 m2 n5) rfl rfl fun y6 => ?_
      refine Lim.letIn rfl fun n7 => ?_
      refine Lim.letIn rfl fun n8 => ?_
      refine Lim.bif rfl ?_ ?_
      · exact Lim.leaf rfl
      refine Lim.letIn rfl fun n9 => ?_
      refine Lim.call o_make_Round (lim_make_Round 0 n9 n5) rfl rfl fun y10 => ?_
      refine Lim.letIn rfl fun n11 => ?_
      refine Lim.letIn rfl fun n12 => ?_
      refine Lim.letIn rfl fun n13 => ?_
      exact Lim.leaf rfl
    )) h

/-! armplan/armplanmake.Chosen -/
abbrev E_make_Chosen_0 : Type := ((List I6))
def enc_L_make_Chosen_0 (e : E_make_Chosen_0) : Ex × St := (.exit 0, encSt S18_0_e0 (((), ()), ((List.map encI6 e), ())))
theorem inj_L_make_Chosen_0 : ∀ a b, enc_L_make_Chosen_0 a = enc_L_make_Chosen_0 b → a = b := by
  rintro a0 b0 h
  first | (cases h; done) | (have h2 := encSt_inj rfl (Prod.mk.inj h).2; simp [map_inj encI6_inj] at h2; simp [h2]) | (have h2 := (Prod.mk.inj h).1; simp at h2) | rfl
abbrev E_make_Chosen_2 : Type := ((List I6) × Int × LI_I × (List I6) × I6)
def enc_L_make_Chosen_2 (e : E_make_Chosen_2) : Ex × St := (.exit 2, encSt S18_2_e2 (((List.map encI6 e.1), (), (), e.2.1, (), ()), (((List.map encI e.2.2.1.c0), e.2.2.1.c1, ()), (List.map encI6 e.2.2.2.1), (e.2.2.2.2.c0, e.2.2.2.2.c1, e.2.2.2.2.c2, e.2.2.2.2.c3, e.2.2.2.2.c4, e.2.2.2.2.c5, ()), ())))
theorem inj_L_make_Chosen_2 : ∀ a b, enc_L_make_Chosen_2 a = enc_L_make_Chosen_2 b → a = b := by
  rintro ⟨a0, a1, ⟨a2, a3⟩, a4, ⟨a5, a6, a7, a8, a9, a10⟩⟩ ⟨b0, b1, ⟨b2, b3⟩, b4, ⟨b5, b6, b7, b8, b9, b10⟩⟩ h
  first | (cases h; done) | (have h2 := encSt_inj rfl (Prod.mk.inj h).2; simp [map_inj encI6_inj, map_inj encI_inj] at h2; simp [h2]) | (have h2 := (Prod.mk.inj h).1; simp at h2) | rfl
noncomputable abbrev X_L_make_Chosen_0 (v4 : List I6) (v5 : Int) (c6 : LI_I) (es7 : List I6) (n : Nat) : Option (Ex × St) := (lvl Try.prog HH n).1 ⟨18, 0, true⟩ 0 (loopOf Try.f18 0) (encSt S18_0 (((List.map encI6 v4), (), (), v5, ()), (((List.map encI c6.c0), c6.c1, ()), (List.map encI6 es7), ())))
noncomputable def L_make_Chosen_0 (v4 : List I6) (v5 : Int) (c6 : LI_I) (es7 : List I6) : Option E_make_Chosen_0 := den enc_L_make_Chosen_0 (X_L_make_Chosen_0 v4 v5 c6 es7)
theorem L_make_Chosen_0_of (v4 : List I6) (v5 : Int) (c6 : LI_I) (es7 : List I6) : ∀ r, ((
    bif decide (v5 < (((v4.length : Nat) : Int))) then (
      Option.bind (α := E_make_Chosen_2) (
        bif decide (0 ≤ v5) then (
          (nth v4 v5.toNat).bind fun x8 =>
          (F_make_Source_Next 1073741824 c6).bind fun y9 =>
          (F_make_Part ((I2.mk x8.c0 x8.c1)) y9.1 0).bind fun y10 =>
          bif decide (0 ≤ v5) then (
            (nth v4 v5.toNat).bind fun x11 =>
            (F_make_Source_Next 1073741824 y9.2).bind fun y12 =>
            (F_make_Part ((I2.mk x11.c2 x11.c3)) y12.1 0).bind fun y13 =>
            bif decide (0 ≤ v5) then (
              (nth v4 v5.toNat).bind fun x14 =>
              (F_make_Source_Next 1073741824 y12.2).bind fun y15 =>
              (F_make_Part ((I2.mk x14.c4 x14.c5)) y15.1 0).bind fun y16 =>
              some ((v4, v5, y15.2, es7, (I6.mk y10.c0 y10.c1 y13.c0 y13.c1 y16.c0 y16.c1))))
            else
            none)
          else
          none)
        else
        none) fun p17 =>
      bif decide ((p17.2.2.2.1.length + 1) * 48 ≤ 140737488355328) then (
        letIn (IntKind.wrap .i64 (p17.2.1 + 1) : Int) fun n18 =>
        L_make_Chosen_0 p17.1 n18 p17.2.2.1 (p17.2.2.2.1 ++ [p17.2.2.2.2]))
      else
      none)
    else
    some es7) : Option E_make_Chosen_0) = some r →
    L_make_Chosen_0 v4 v5 c6 es7 = some r := fun r h =>
  den_of (x := (X_L_make_Chosen_0 v4 v5 c6 es7)) inj_L_make_Chosen_0 5 (Lim.cong (fun n => loop18_0 n ((List.map encI6 v4)) v5 ((List.map encI c6.c0)) c6.c1 ((List.map encI6 es7))) (by
      refine Lim.bif (by first | with_reducible rfl | (simp [map_upd, o_make_From, o_make_Source_Next, o_make_Part] <;> rfl) | (simp only [List.map_append, List.map_cons, List.map_nil, List.map_take, List.map_drop, map_upd, List.map_replicate, List.length_map, o_make_From, o_make_Source_Next, o_make_Part] <;> rfl) | (simp only [List.map_append, List.map_cons, List.map_nil, List.map_take, List.map_drop, map_upd, List.map_replicate, List.length_map, List.length_append, List.length_cons, List.length_nil, o_make_From, o_make_Source_Next, o_make_Part] <;> rfl) | rfl) ?_ ?_
      · refine Lim.bind (e := enc_L_make_Chosen_2) ?_ fun p17 => ?_
        · refine Lim.bif rfl ?_ Lim.none_
          refine Lim.nth encI6 rfl rfl fun x8 => ?_
          refine Lim.bifT rfl ?_
          refine Lim.decC (x8.c0, x8.c1, ()) rfl ?_
          refine Lim.call o_make_Source_Next (lim_make_Source_Next 3 1073741824 c6) rfl rfl fun y9 => ?_
          refine Lim.call o_make_Part (lim_make_Part 3 ((I2.mk x8.c0 x8.c1)) y9.1 0) rfl rfl fun y10 => ?_
          refine Lim.bif rfl ?_ Lim.none_
          refine Lim.nth encI6 rfl rfl fun x11 => ?_
          refine Lim.bifT rfl ?_
          refine Lim.decC (x11.c2, x11.c3, ()) rfl ?_
          refine Lim.call o_make_Source_Next (lim_make_Source_Next 2 1073741824 y9.2) rfl rfl fun y12 => ?_
          refine Lim.call o_make_Part (lim_make_Part 2 ((I2.mk x11.c2 x11.c3)) y12.1 0) rfl rfl fun y13 => ?_
          refine Lim.bif rfl ?_ Lim.none_
          refine Lim.nth encI6 rfl rfl fun x14 => ?_
          refine Lim.bifT rfl ?_
          refine Lim.decC (x14.c4, x14.c5, ()) rfl ?_
          refine Lim.call o_make_Source_Next (lim_make_Source_Next 1 1073741824 y12.2) rfl rfl fun y15 => ?_
          refine Lim.call o_make_Part (lim_make_Part 1 ((I2.mk x14.c4 x14.c5)) y15.1 0) rfl rfl fun y16 => ?_
          exact Lim.leaf rfl
        refine Lim.exit (.exit 2) S18_2_e2 (((List.map encI6 p17.1), (), (), p17.2.1, (), ()), (((List.map encI p17.2.2.1.c0), p17.2.2.1.c1, ()), (List.map encI6 p17.2.2.2.1), (p17.2.2.2.2.c0, p17.2.2.2.2.c1, p17.2.2.2.2.c2, p17.2.2.2.2.c3, p17.2.2.2.2.c4, p17.2.2.2.2.c5, ()), ())) rfl rfl rfl ?_
        refine Lim.bif (by first | with_reducible rfl | (simp [map_upd, o_make_From, o_make_Source_Next, o_make_Part] <;> rfl) | (simp only [List.map_append, List.map_cons, List.map_nil, List.map_take, List.map_drop, map_upd, List.map_replicate, List.length_map, o_make_From, o_make_Source_Next, o_make_Part] <;> rfl) | (simp only [List.map_append, List.map_cons, List.map_nil, List.map_take, List.map_drop, map_upd, List.map_replicate, List.length_map, List.length_append, List.length_cons, List.length_nil, o_make_From, o_make_Source_Next, o_make_Part] <;> rfl) | rfl) ?_ Lim.none_
        refine Lim.letIn rfl fun n18 => ?_
        exact Lim.loop 4 (by first | with_reducible rfl | (simp [map_upd, o_make_From, o_make_Source_Next, o_make_Part] <;> rfl) | (simp only [List.map_append, List.map_cons, List.map_nil, List.map_take, List.map_drop, map_upd, List.map_replicate, List.length_map, o_make_From, o_make_Source_Next, o_make_Part] <;> rfl) | (simp only [List.map_append, List.map_cons, List.map_nil, List.map_take, List.map_drop, map_upd, List.map_replicate, List.length_map, List.length_append, List.length_cons, List.length_nil, o_make_From, o_make_Source_Next, o_make_Part] <;> rfl) | rfl)
      exact Lim.leaf rfl
    )) h
abbrev o_make_Chosen (v : (List I6)) : VtsT outs18 × MtsT mouts18 := (((List.map encI6 v), ()), ())
abbrev encO_make_Chosen (v : (List I6)) : R := (encR outs18 (o_make_Chosen v).1, encMts mouts18 (o_make_Chosen v).2)
theorem injO_make_Chosen : ∀ a b, encO_make_Chosen a = encO_make_Chosen b → a = b := by
  rintro a0 b0 h
  have h1 := encR_inj (Prod.mk.inj h).1
  have h2 := encMts_inj (Prod.mk.inj h).2
  simp [o_make_Chosen, map_inj encI6_inj] at h1 h2
  simp [h1, h2]
noncomputable abbrev X_make_Chosen (l1 : List I6) (m2 : List Int) (n : Nat) : Option R := (lvl Try.prog HH n).2 18 [.s (.one (.fr 6 (List.map encI6 l1))), .s (.one (.fr 1 (List.map encI m2)))] []
noncomputable def F_make_Chosen (l1 : List I6) (m2 : List Int) : Option ((List I6)) := den encO_make_Chosen (X_make_Chosen l1 m2)
theorem lim_make_Chosen (k : Nat) (l1 : List I6) (m2 : List Int) : Lim (fun v => (encR outs18 (o_make_Chosen v).1, encMts mouts18 (o_make_Chosen v).2)) (fun n => (lvl Try.prog HH (n + k)).2 18 [.s (.one (.fr 6 (List.map encI6 l1))), .s (.one (.fr 1 (List.map encI m2)))] []) (F_make_Chosen l1 m2) := Lim.den (x := (X_make_Chosen l1 m2)) k
theorem F_make_Chosen_of (l1 : List I6) (m2 : List Int) : ∀ r, ((
    (F_make_From m2).bind fun y3 =>
    (L_make_Chosen_0 l1 0 y3 []).bind fun p19 =>
    some p19) : Option ((List I6))) = some r →
    F_make_Chosen l1 m2 = some r := fun r h =>
  den_of (x := (X_make_Chosen l1 m2)) injO_make_Chosen 1 (Lim.cong (fun n => fn18 n ((List.map encI6 l1)) ((List.map encI m2))) (by
      refine Lim.call o_make_From (lim_make_From 0 m2) rfl rfl fun y3 => ?_
      refine Lim.bind (show Lim enc_L_make_Chosen_0 _ (L_make_Chosen_0 l1 0 y3 []) from Lim.loop 0 (by first | with_reducible rfl | (simp [map_upd, o_make_From, o_make_Source_Next, o_make_Part] <;> rfl) | (simp only [List.map_append, List.map_cons, List.map_nil, List.map_take, List.map_drop, map_upd, List.map_replicate, List.length_map, o_make_From, o_make_Source_Next, o_make_Part] <;> rfl) | (simp only [List.map_append, List.map_cons, List.map_nil, List.map_take, List.map_drop, map_upd, List.map_replicate, List.length_map, List.length_append, List.length_cons, List.length_nil, o_make_From, o_make_Source_Next, o_make_Part] <;> rfl) | rfl)) fun p19 => ?_
      refine Lim.exit (.exit 0) S18_0_e0 (((), ()), ((List.map encI6 p19), ())) rfl rfl rfl ?_
      exact Lim.leaf rfl
    )) h

/-! armplan/armplanlaw16.OverlapMonotone -/
abbrev o_law16_OverlapMonotone (v : Bool) : VtsT outs5 × MtsT mouts5 := ((v, ()), ())
abbrev encO_law16_OverlapMonotone (v : Bool) : R := (encR outs5 (o_law16_OverlapMonotone v).1, encMts mouts5 (o_law16_OverlapMonotone v).2)
theorem injO_law16_OverlapMonotone : ∀ a b, encO_law16_OverlapMonotone a = encO_law16_OverlapMonotone b → a = b := by
  rintro a0 b0 h
  have h1 := encR_inj (Prod.mk.inj h).1
  have h2 := encMts_inj (Prod.mk.inj h).2
  simp [o_law16_OverlapMonotone] at h1 h2
  simp [h1, h2]
noncomputable abbrev X_law16_OverlapMonotone (l1 : List Int) (m2 : List Int) (w3 : List Int) (o4 : List Int) (r5 : List Int) (p6 : Int) (q7 : Int) (n : Nat) : Option R := (lvl Try.prog HH n).2 5 [.s (.one (.fr 1 (List.map encI l1))), .s (.one (.fr 1 (List.map encI m2))), .s (.one (.fr 1 (List.map encI w3))), .s (.one (.fr 1 (List.map encI o4))), .s (.one (.fr 1 (List.map encI r5))), .s (.one (.v (.int .i64 p6))), .s (.one (.v (.int .i64 q7)))] []
noncomputable def F_law16_OverlapMonotone (l1 : List Int) (m2 : List Int) (w3 : List Int) (o4 : List Int) (r5 : List Int) (p6 : Int) (q7 : Int) : Option Bool := den encO_law16_OverlapMonotone (X_law16_OverlapMonotone l1 m2 w3 o4 r5 p6 q7)
theorem lim_law16_OverlapMonotone (k : Nat) (l1 : List Int) (m2 : List Int) (w3 : List Int) (o4 : List Int) (r5 : List Int) (p6 : Int) (q7 : Int) : Lim (fun v => (encR outs5 (o_law16_OverlapMonotone v).1, encMts mouts5 (o_law16_OverlapMonotone v).2)) (fun n => (lvl Try.prog HH (n + k)).2 5 [.s (.one (.fr 1 (List.map encI l1))), .s (.one (.fr 1 (List.map encI m2))), .s (.one (.fr 1 (List.map encI w3))), .s (.one (.fr 1 (List.map encI o4))), .s (.one (.fr 1 (List.map encI r5))), .s (.one (.v (.int .i64 p6))), .s (.one (.v (.int .i64 q7)))] []) (F_law16_OverlapMonotone l1 m2 w3 o4 r5 p6 q7) := Lim.den (x := (X_law16_OverlapMonotone l1 m2 w3 o4 r5 p6 q7)) k
theorem F_law16_OverlapMonotone_of (l1 : List Int) (m2 : List Int) (w3 : List Int) (o4 : List Int) (r5 : List Int) (p6 : Int) (q7 : Int) : ∀ r, ((
    (F_make_Points l1 3000).bind fun y8 =>
    (F_make_Points m2 3000).bind fun y9 =>
    (F_law16_equal (((y8.length : Nat) : Int)) (((y9.length : Nat) : Int)) w3).bind fun y10 =>
    (F_law16_radius p6).bind fun y11 =>
    (F_law16_radius q7).bind fun y12 =>
    (F_overlap_Overlaps y10.1 y10.2 y8 y11 y9 y12).bind fun y13 =>
    bif !y13 then (
      (F_law16_awake).bind fun y14 =>
      some y14)
    else
    (F_law16_awake).bind fun y15 =>
    bif y15 then (
      (F_make_Chosen y8 o4).bind fun y16 =>
      (F_law16_radius p6).bind fun y17 =>
      (F_make_Chosen y9 r5).bind fun y18 =>
      (F_law16_radius q7).bind fun y19 =>
      (F_overlap_Overlaps y10.1 y10.2 y16 y17 y18 y19).bind fun y20 =>
      some y20)
    else
    some false) : Option Bool) = some r →
    F_law16_OverlapMonotone l1 m2 w3 o4 r5 p6 q7 = some r := fun r h =>
  den_of (x := (X_law16_OverlapMonotone l1 m2 w3 o4 r5 p6 q7)) injO_law16_OverlapMonotone 1 (Lim.cong (fun n => fn5 n ((List.map encI l1)) ((List.map encI m2)) ((List.map encI w3)) ((List.map encI o4)) ((List.map encI r5)) p6 q7) (by
      refine Lim.call o_make_Points (lim_make_Points 0 l1 3000) rfl rfl fun y8 => ?_
      refine Lim.call o_make_Points (lim_make_Points 0 m2 3000) rfl rfl fun y9 => ?_
      refine Lim.call o_law16_equal (lim_law16_equal 0 (((y8.length : Nat) : Int)) (((y9.length : Nat) : Int)) w3) (by first | with_reducible rfl | (simp [map_upd, o_make_Points, o_law16_equal, o_make_Chosen] <;> rfl) | (simp only [List.map_append, List.map_cons, List.map_nil, List.map_take, List.map_drop, map_upd, List.map_replicate, List.length_map, o_make_Points, o_law16_equal, o_make_Chosen] <;> rfl) | (simp only [List.map_append, List.map_cons, List.map_nil, List.map_take, List.map_drop, map_upd, List.map_replicate, List.length_map, List.length_append, List.length_cons, List.length_nil, o_make_Points, o_law16_equal, o_make_Chosen] <;> rfl) | rfl) (by first | with_reducible rfl | (simp [map_upd, o_make_Points, o_law16_equal, o_make_Chosen] <;> rfl) | (simp only [List.map_append, List.map_cons, List.map_nil, List.map_take, List.map_drop, map_upd, List.map_replicate, List.length_map, o_make_Points, o_law16_equal, o_make_Chosen] <;> rfl) | (simp only [List.map_append, List.map_cons, List.map_nil, List.map_take, List.map_drop, map_upd, List.map_replicate, List.length_map, List.length_append, List.length_cons, List.length_nil, o_make_Points, o_law16_equal, o_make_Chosen] <;> rfl) | rfl) fun y10 => ?_
      refine Lim.call o_law16_radius (lim_law16_radius 0 p6) rfl rfl fun y11 => ?_
      refine Lim.call o_law16_radius (lim_law16_radius 0 q7) rfl rfl fun y12 => ?_
      refine Lim.call o_overlap_Overlaps (lim_overlap_Overlaps 0 y10.1 y10.2 y8 y11 y9 y12) rfl rfl fun y13 => ?_
      refine Lim.bif rfl ?_ ?_
      · refine Lim.call o_law16_awake (lim_law16_awake 0 ) rfl rfl fun y14 => ?_
        exact Lim.leaf rfl
      refine Lim.call o_law16_awake (lim_law16_awake 0 ) rfl rfl fun y15 => ?_
      refine Lim.bif rfl ?_ ?_
      · refine Lim.call o_make_Chosen (lim_make_Chosen 0 y8 o4) rfl rfl fun y16 => ?_
        refine Lim.call o_law16_radius (lim_law16_radius 0 p6) rfl rfl fun y17 => ?_
        refine Lim.call o_make_Chosen (lim_make_Chosen 0 y9 r5) rfl rfl fun y18 => ?_
        refine Lim.call o_law16_radius (lim_law16_radius 0 q7) rfl rfl fun y19 => ?_
        refine Lim.call o_overlap_Overlaps (lim_overlap_Overlaps 0 y10.1 y10.2 y16 y17 y18 y19) rfl rfl fun y20 => ?_
        exact Lim.leaf rfl
      exact Lim.leaf rfl
    )) h
end Go.Proofs.Ytilffjjibcebmaa.Am
