/- PRINTED: the functions without levels. -/
import Derived.Test.YtilffjjibcebmaaE0
import Derived.Test.YtilffjjibcebmaaE1
import Derived.Test.YtilffjjibcebmaaE2
import Derived.Test.YtilffjjibcebmaaE3
import Derived.Test.YtilffjjibcebmaaV
set_option linter.unusedVariables false
set_option linter.unusedSimpArgs false
set_option maxRecDepth 100000
namespace Go.Proofs.Ytilffjjibcebmaa.Am
open Go Go.Proofs
/-! armplan/armplanmake.From -/
abbrev o_make_From (v : LI_I) : VtsT outs26 × MtsT mouts26 := (((), ()), (((List.map encI v.c0), v.c1, ()), ()))
abbrev encO_make_From (v : LI_I) : R := (encR outs26 (o_make_From v).1, encMts mouts26 (o_make_From v).2)
theorem injO_make_From : ∀ a b, encO_make_From a = encO_make_From b → a = b := by
  rintro ⟨a0, a1⟩ ⟨b0, b1⟩ h
  have h1 := encR_inj (Prod.mk.inj h).1
  have h2 := encMts_inj (Prod.mk.inj h).2
  simp [o_make_From, map_inj encI_inj] at h1 h2
  simp [h1, h2]
noncomputable abbrev X_make_From (l1 : List Int) (n : Nat) : Option R := (lvl Try.prog HH n).2 26 [.s (.one (.fr 1 (List.map encI l1)))] []
noncomputable def F_make_From (l1 : List Int) : Option LI_I := den encO_make_From (X_make_From l1)
theorem lim_make_From (k : Nat) (l1 : List Int) : Lim (fun v => (encR outs26 (o_make_From v).1, encMts mouts26 (o_make_From v).2)) (fun n => (lvl Try.prog HH (n + k)).2 26 [.s (.one (.fr 1 (List.map encI l1)))] []) (F_make_From l1) := Lim.den (x := (X_make_From l1)) k
theorem F_make_From_of (l1 : List Int) : ∀ r, ((
    some ((LI_I.mk l1 0))) : Option LI_I) = some r →
    F_make_From l1 = some r := fun r h =>
  den_of (x := (X_make_From l1)) injO_make_From 1 (Lim.cong (fun n => fn26 n ((List.map encI l1))) (by
      exact Lim.leaf rfl
    )) h
def G_make_From (l1 : List Int) : LI_I :=
  ((LI_I.mk l1 0))
theorem F_make_From_eq (l1 : List Int) : F_make_From l1 = some (G_make_From l1) := F_make_From_of l1 _ (by
  unfold G_make_From
  rfl)

/-! armplan/armplanmake.Round -/
abbrev o_make_Round (v : Int) : VtsT outs19 × MtsT mouts19 := ((v, ()), ())
abbrev encO_make_Round (v : Int) : R := (encR outs19 (o_make_Round v).1, encMts mouts19 (o_make_Round v).2)
theorem injO_make_Round : ∀ a b, encO_make_Round a = encO_make_Round b → a = b := by
  rintro a0 b0 h
  have h1 := encR_inj (Prod.mk.inj h).1
  have h2 := encMts_inj (Prod.mk.inj h).2
  simp [o_make_Round] at h1 h2
  simp [h1, h2]
noncomputable abbrev X_make_Round (n1 : Int) (k2 : Int) (n : Nat) : Option R := (lvl Try.prog HH n).2 19 [.s (.one (.v (.int .i64 n1))), .s (.one (.v (.int .i64 k2)))] []
noncomputable def F_make_Round (n1 : Int) (k2 : Int) : Option Int := den encO_make_Round (X_make_Round n1 k2)
theorem lim_make_Round (k : Nat) (n1 : Int) (k2 : Int) : Lim (fun v => (encR outs19 (o_make_Round v).1, encMts mouts19 (o_make_Round v).2)) (fun n => (lvl Try.prog HH (n + k)).2 19 [.s (.one (.v (.int .i64 n1))), .s (.one (.v (.int .i64 k2)))] []) (F_make_Round n1 k2) := Lim.den (x := (X_make_Round n1 k2)) k
theorem F_make_Round_of (n1 : Int) (k2 : Int) : ∀ r, ((
    bif k2 == 0 then (
      none)
    else
    letIn (Int.tmod n1 k2 : Int) fun n3 =>
    bif decide (n3 < 0) then (
      letIn (IntKind.wrap .i64 (n3 + k2) : Int) fun n4 =>
      some n4)
    else
    some n3) : Option Int) = some r →
    F_make_Round n1 k2 = some r := fun r h =>
  den_of (x := (X_make_Round n1 k2)) injO_make_Round 1 (Lim.cong (fun n => fn19 n n1 k2) (by
      refine Lim.bif rfl Lim.none_ ?_
      refine Lim.letIn rfl fun n3 => ?_
      refine Lim.bif rfl ?_ ?_
      · refine Lim.letIn rfl fun n4 => ?_
        exact Lim.leaf rfl
      exact Lim.leaf rfl
    )) h

/-! (*armplan/armplanmake.Source).Next -/
abbrev o_make_Source_Next (v : Int × LI_I) : VtsT outs28 × MtsT mouts28 := ((v.1, ()), (((List.map encI v.2.c0), v.2.c1, ()), ()))
abbrev encO_make_Source_Next (v : Int × LI_I) : R := (encR outs28 (o_make_Source_Next v).1, encMts mouts28 (o_make_Source_Next v).2)
theorem injO_make_Source_Next : ∀ a b, encO_make_Source_Next a = encO_make_Source_Next b → a = b := by
  rintro ⟨a0, ⟨a1, a2⟩⟩ ⟨b0, ⟨b1, b2⟩⟩ h
  have h1 := encR_inj (Prod.mk.inj h).1
  have h2 := encMts_inj (Prod.mk.inj h).2
  simp [o_make_Source_Next, map_inj encI_inj] at h1 h2
  simp [h1, h2]
noncomputable abbrev X_make_Source_Next (k1 : Int) (c2 : LI_I) (n : Nat) : Option R := (lvl Try.prog HH n).2 28 [.s (.one (.ptr 0 0 0)), .s (.one (.v (.int .i64 k1)))] [.own 2 true [[.fr 1 (List.map encI c2.c0), .v (.int .i64 c2.c1)]]]
noncomputable def F_make_Source_Next (k1 : Int) (c2 : LI_I) : Option (Int × LI_I) := den encO_make_Source_Next (X_make_Source_Next k1 c2)
theorem lim_make_Source_Next (k : Nat) (k1 : Int) (c2 : LI_I) : Lim (fun v => (encR outs28 (o_make_Source_Next v).1, encMts mouts28 (o_make_Source_Next v).2)) (fun n => (lvl Try.prog HH (n + k)).2 28 [.s (.one (.ptr 0 0 0)), .s (.one (.v (.int .i64 k1)))] [.own 2 true [[.fr 1 (List.map encI c2.c0), .v (.int .i64 c2.c1)]]]) (F_make_Source_Next k1 c2) := Lim.den (x := (X_make_Source_Next k1 c2)) k
theorem F_make_Source_Next_of (k1 : Int) (c2 : LI_I) : ∀ r, ((
    bif decide (c2.c1 ≥ (((c2.c0.length : Nat) : Int))) then (
      some (0, (LI_I.mk c2.c0 c2.c1)))
    else
    letIn (IntKind.wrap .i64 (c2.c1 + 1) : Int) fun n3 =>
    letIn (IntKind.wrap .i64 (n3 - 1) : Int) fun n4 =>
    bif decide (0 ≤ n4) then (
      (nth c2.c0 n4.toNat).bind fun x5 =>
      (F_make_Round x5 k1).bind fun y6 =>
      some (y6, (LI_I.mk c2.c0 n3)))
    else
    none) : Option (Int × LI_I)) = some r →
    F_make_Source_Next k1 c2 = some r := fun r h =>
  den_of (x := (X_make_Source_Next k1 c2)) injO_make_Source_Next 1 (Lim.cong (fun n => fn28s0 n k1 ((List.map encI c2.c0)) c2.c1) (by
      refine Lim.bif (by first | with_reducible rfl | (simp [map_upd] <;> rfl) | rfl) ?_ ?_
      · exact Lim.leaf rfl
      refine Lim.letIn rfl fun n3 => ?_
      refine Lim.letIn rfl fun n4 => ?_
      refine Lim.bif rfl ?_ Lim.none_
      refine Lim.nth encI rfl rfl fun x5 => ?_
      refine Lim.step rfl ?_
      refine Lim.step rfl ?_
      refine Lim.call o_make_Round (lim_make_Round 0 x5 k1) rfl rfl fun y6 => ?_
      exact Lim.leaf rfl
    )) h

/-! (*armplan/armplanmake.Source).Signed -/
abbrev o_make_Source_Signed (v : Int × LI_I) : VtsT outs27 × MtsT mouts27 := ((v.1, ()), (((List.map encI v.2.c0), v.2.c1, ()), ()))
abbrev encO_make_Source_Signed (v : Int × LI_I) : R := (encR outs27 (o_make_Source_Signed v).1, encMts mouts27 (o_make_Source_Signed v).2)
theorem injO_make_Source_Signed : ∀ a b, encO_make_Source_Signed a = encO_make_Source_Signed b → a = b := by
  rintro ⟨a0, ⟨a1, a2⟩⟩ ⟨b0, ⟨b1, b2⟩⟩ h
  have h1 := encR_inj (Prod.mk.inj h).1
  have h2 := encMts_inj (Prod.mk.inj h).2
  simp [o_make_Source_Signed, map_inj encI_inj] at h1 h2
  simp [h1, h2]
noncomputable abbrev X_make_Source_Signed (k1 : Int) (c2 : LI_I) (n : Nat) : Option R := (lvl Try.prog HH n).2 27 [.s (.one (.ptr 0 0 0)), .s (.one (.v (.int .i64 k1)))] [.own 2 true [[.fr 1 (List.map encI c2.c0), .v (.int .i64 c2.c1)]]]
noncomputable def F_make_Source_Signed (k1 : Int) (c2 : LI_I) : Option (Int × LI_I) := den encO_make_Source_Signed (X_make_Source_Signed k1 c2)
theorem lim_make_Source_Signed (k : Nat) (k1 : Int) (c2 : LI_I) : Lim (fun v => (encR outs27 (o_make_Source_Signed v).1, encMts mouts27 (o_make_Source_Signed v).2)) (fun n => (lvl Try.prog HH (n + k)).2 27 [.s (.one (.ptr 0 0 0)), .s (.one (.v (.int .i64 k1)))] [.own 2 true [[.fr 1 (List.map encI c2.c0), .v (.int .i64 c2.c1)]]]) (F_make_Source_Signed k1 c2) := Lim.den (x := (X_make_Source_Signed k1 c2)) k
theorem F_make_Source_Signed_of (k1 : Int) (c2 : LI_I) : ∀ r, ((
    letIn (IntKind.wrap .i64 (2 * k1) : Int) fun n3 =>
    letIn (IntKind.wrap .i64 (n3 + 1) : Int) fun n4 =>
    (F_make_Source_Next n4 c2).bind fun y5 =>
    letIn (IntKind.wrap .i64 (y5.1 - k1) : Int) fun n6 =>
    some (n6, y5.2)) : Option (Int × LI_I)) = some r →
    F_make_Source_Signed k1 c2 = some r := fun r h =>
  den_of (x := (X_make_Source_Signed k1 c2)) injO_make_Source_Signed 1 (Lim.cong (fun n => fn27s0 n k1 ((List.map encI c2.c0)) c2.c1) (by
      refine Lim.letIn rfl fun n3 => ?_
      refine Lim.letIn rfl fun n4 => ?_
      refine Lim.call o_make_Source_Next (lim_make_Source_Next 0 n4 c2) rfl rfl fun y5 => ?_
      refine Lim.letIn rfl fun n6 => ?_
      exact Lim.leaf rfl
    )) h

/-! armplan/armplanmake.Points -/
abbrev E_make_Points_0 : Type := ((List I6))
def enc_L_make_Points_0 (e : E_make_Points_0) : Ex × St := (.exit 0, encSt S10_0_e0 (((), ()), ((List.map encI6 e), ())))
theorem inj_L_make_Points_0 : ∀ a b, enc_L_make_Points_0 a = enc_L_make_Points_0 b → a = b := by
  rintro a0 b0 h
  first | (cases h; done) | (have h2 := encSt_inj rfl (Prod.mk.inj h).2; simp [map_inj encI6_inj] at h2; simp [h2]) | (have h2 := (Prod.mk.inj h).1; simp at h2) | rfl
abbrev E_make_Points_2 : Type := (Int × Int × LI_I × I3 × (List I6) × I6)
def enc_L_make_Points_2 (e : E_make_Points_2) : Ex × St := (.exit 2, encSt S10_2_e2 ((e.1, (), (), (), e.2.1, (), ()), (((List.map encI e.2.2.1.c0), e.2.2.1.c1, ()), (e.2.2.2.1.c0, e.2.2.2.1.c1, e.2.2.2.1.c2, ()), (List.map encI6 e.2.2.2.2.1), (e.2.2.2.2.2.c0, e.2.2.2.2.2.c1, e.2.2.2.2.2.c2, e.2.2.2.2.2.c3, e.2.2.2.2.2.c4, e.2.2.2.2.2.c5, ()), ())))
theorem inj_L_make_Points_2 : ∀ a b, enc_L_make_Points_2 a = enc_L_make_Points_2 b → a = b := by
  rintro ⟨a0, a1, ⟨a2, a3⟩, ⟨a4, a5, a6⟩, a7, ⟨a8, a9, a10, a11, a12, a13⟩⟩ ⟨b0, b1, ⟨b2, b3⟩, ⟨b4, b5, b6⟩, b7, ⟨b8, b9, b10, b11, b12, b13⟩⟩ h
  first | (cases h; done) | (have h2 := encSt_inj rfl (Prod.mk.inj h).2; simp [map_inj encI6_inj, map_inj encI_inj] at h2; simp [h2]) | (have h2 := (Prod.mk.inj h).1; simp at h2) | rfl
noncomputable abbrev X_L_make_Points_0 (v12 : Int) (v13 : Int) (c14 : LI_I) (c15 : I3) (es16 : List I6) (n : Nat) : Option (Ex × St) := (lvl Try.prog HH n).1 ⟨10, 0, true⟩ 0 (loopOf Try.f10 0) (encSt S10_0 ((v12, (), (), (), v13, ()), (((List.map encI c14.c0), c14.c1, ()), (c15.c0, c15.c1, c15.c2, ()), (List.map encI6 es16), ())))
noncomputable def L_make_Points_0 (v12 : Int) (v13 : Int) (c14 : LI_I) (c15 : I3) (es16 : List I6) : Option E_make_Points_0 := den enc_L_make_Points_0 (X_L_make_Points_0 v12 v13 c14 c15 es16)
theorem L_make_Points_0_of (v12 : Int) (v13 : Int) (c14 : LI_I) (c15 : I3) (es16 : List I6) : ∀ r, ((
    bif decide (v13 > 0) then (
      Option.bind (α := E_make_Points_2) (
        (F_make_Source_Signed 4 c14).bind fun y17 =>
        letIn (IntKind.wrap .i64 (y17.1 * 32768) : Int) fun n18 =>
        letIn (IntKind.wrap .i64 (c15.c0 + n18) : Int) fun n19 =>
        (F_make_Source_Signed 9 y17.2).bind fun y20 =>
        letIn (IntKind.wrap .i64 (n19 + y20.1) : Int) fun n21 =>
        letIn (IntKind.wrap .i64 (v12 + 1) : Int) fun n22 =>
        (F_make_Source_Next n22 y20.2).bind fun y23 =>
        letIn (IntKind.wrap .i64 (n21 + y23.1) : Int) fun n24 =>
        (F_make_Source_Signed 4 y23.2).bind fun y25 =>
        letIn (IntKind.wrap .i64 (y25.1 * 32768) : Int) fun n26 =>
        letIn (IntKind.wrap .i64 (c15.c1 + n26) : Int) fun n27 =>
        (F_make_Source_Signed 9 y25.2).bind fun y28 =>
        letIn (IntKind.wrap .i64 (n27 + y28.1) : Int) fun n29 =>
        letIn (IntKind.wrap .i64 (v12 + 1) : Int) fun n30 =>
        (F_make_Source_Next n30 y28.2).bind fun y31 =>
        letIn (IntKind.wrap .i64 (n29 + y31.1) : Int) fun n32 =>
        (F_make_Source_Signed 4 y31.2).bind fun y33 =>
        letIn (IntKind.wrap .i64 (y33.1 * 32768) : Int) fun n34 =>
        letIn (IntKind.wrap .i64 (c15.c2 + n34) : Int) fun n35 =>
        (F_make_Source_Signed 9 y33.2).bind fun y36 =>
        letIn (IntKind.wrap .i64 (n35 + y36.1) : Int) fun n37 =>
        letIn (IntKind.wrap .i64 (v12 + 1) : Int) fun n38 =>
        (F_make_Source_Next n38 y36.2).bind fun y39 =>
        letIn (IntKind.wrap .i64 (n37 + y39.1) : Int) fun n40 =>
        some ((v12, v13, y39.2, c15, es16, (I6.mk n21 n24 n29 n32 n37 n40)))) fun p41 =>
      bif decide ((p41.2.2.2.2.1.length + 1) * 48 ≤ 140737488355328) then (
        letIn (IntKind.wrap .i64 (p41.2.1 - 1) : Int) fun n42 =>
        L_make_Points_0 p41.1 n42 p41.2.2.1 p41.2.2.2.1 (p41.2.2.2.2.1 ++ [p41.2.2.2.2.2]))
      else
      none)
    else
    some es16) : Option E_make_Points_0) = some r →
    L_make_Points_0 v12 v13 c14 c15 es16 = some r := fun r h =>
  den_of (x := (X_L_make_Points_0 v12 v13 c14 c15 es16)) inj_L_make_Points_0 5 (Lim.cong (fun n => loop10_0 n v12 v13 ((List.map encI c14.c0)) c14.c1 c15.c0 c15.c1 c15.c2 ((List.map encI6 es16))) (by
      refine Lim.bif rfl ?_ ?_
      · refine Lim.bind (e := enc_L_make_Points_2) ?_ fun p41 => ?_
        · refine Lim.call o_make_Source_Signed (lim_make_Source_Signed 3 4 c14) rfl rfl fun y17 => ?_
          refine Lim.letIn rfl fun n18 => ?_
          refine Lim.letIn rfl fun n19 => ?_
          refine Lim.call o_make_Source_Signed (lim_make_Source_Signed 3 9 y17.2) rfl rfl fun y20 => ?_
          refine Lim.letIn rfl fun n21 => ?_
          refine Lim.letIn rfl fun n22 => ?_
          refine Lim.call o_make_Source_Next (lim_make_Source_Next 3 n22 y20.2) rfl rfl fun y23 => ?_
          refine Lim.letIn rfl fun n24 => ?_
          refine Lim.call o_make_Source_Signed (lim_make_Source_Signed 2 4 y23.2) rfl rfl fun y25 => ?_
          refine Lim.letIn rfl fun n26 => ?_
          refine Lim.letIn rfl fun n27 => ?_
          refine Lim.call o_make_Source_Signed (lim_make_Source_Signed 2 9 y25.2) rfl rfl fun y28 => ?_
          refine Lim.letIn rfl fun n29 => ?_
          refine Lim.letIn rfl fun n30 => ?_
          refine Lim.call o_make_Source_Next (lim_make_Source_Next 2 n30 y28.2) rfl rfl fun y31 => ?_
          refine Lim.letIn rfl fun n32 => ?_
          refine Lim.call o_make_Source_Signed (lim_make_Source_Signed 1 4 y31.2) rfl rfl fun y33 => ?_
          refine Lim.letIn rfl fun n34 => ?_
          refine Lim.letIn rfl fun n35 => ?_
          refine Lim.call o_make_Source_Signed (lim_make_Source_Signed 1 9 y33.2) rfl rfl fun y36 => ?_
          refine Lim.letIn rfl fun n37 => ?_
          refine Lim.letIn rfl fun n38 => ?_
          refine Lim.call o_make_Source_Next (lim_make_Source_Next 1 n38 y36.2) rfl rfl fun y39 => ?_
          refine Lim.letIn rfl fun n40 => ?_
          exact Lim.leaf rfl
        refine Lim.exit (.exit 2) S10_2_e2 ((p41.1, (), (), (), p41.2.1, (), ()), (((List.map encI p41.2.2.1.c0), p41.2.2.1.c1, ()), (p41.2.2.2.1.c0, p41.2.2.2.1.c1, p41.2.2.2.1.c2, ()), (List.map encI6 p41.2.2.2.2.1), (p41.2.2.2.2.2.c0, p41.2.2.2.2.2.c1, p41.2.2.2.2.2.c2, p41.2.2.2.2.2.c3, p41.2.2.2.2.2.c4, p41.2.2.2.2.2.c5, ()), ())) rfl rfl rfl ?_
        refine Lim.bif (by first | with_reducible rfl | (simp [map_upd, o_make_From, o_make_Source_Signed, o_make_Source_Next] <;> rfl) | (simp only [List.map_append, List.map_cons, List.map_nil, List.map_take, List.map_drop, map_upd, List.map_replicate, List.length_map, o_make_From, o_make_Source_Signed, o_make_Source_Next] <;> rfl) | (simp only [List.map_append, List.map_cons, List.map_nil, List.map_take, List.map_drop, map_upd, List.map_replicate, List.length_map, List.length_append, List.length_cons, List.length_nil, o_make_From, o_make_Source_Signed, o_make_Source_Next] <;> rfl) | rfl) ?_ Lim.none_
        refine Lim.letIn rfl fun n42 => ?_
        exact Lim.loop 4 (by first | with_reducible rfl | (simp [map_upd, o_make_From, o_make_Source_Signed, o_make_Source_Next] <;> rfl) | (simp only [List.map_append, List.map_cons, List.map_nil, List.map_take, List.map_drop, map_upd, List.map_replicate, List.length_map, o_make_From, o_make_Source_Signed, o_make_Source_Next] <;> rfl) | (simp only [List.map_append, List.map_cons, List.map_nil, List.map_take, List.map_drop, map_upd, List.map_replicate, List.length_map, List.length_append, List.length_cons, List.length_nil, o_make_From, o_make_Source_Signed, o_make_Source_Next] <;> rfl) | rfl)
      exact Lim.leaf rfl
    )) h
abbrev o_make_Points (v : (List I6)) : VtsT outs10 × MtsT mouts10 := (((List.map encI6 v), ()), ())
abbrev encO_make_Points (v : (List I6)) : R := (encR outs10 (o_make_Points v).1, encMts mouts10 (o_make_Points v).2)
theorem injO_make_Points : ∀ a b, encO_make_Points a = encO_make_Points b → a = b := by
  rintro a0 b0 h
  have h1 := encR_inj (Prod.mk.inj h).1
  have h2 := encMts_inj (Prod.mk.inj h).2
  simp [o_make_Points, map_inj encI6_inj] at h1 h2
  simp [h1, h2]
noncomputable abbrev X_make_Points (l1 : List Int) (width2 : Int) (n : Nat) : Option R := (lvl Try.prog HH n).2 10 [.s (.one (.fr 1 (List.map encI l1))), .s (.one (.v (.int .i64 width2)))] []
noncomputable def F_make_Points (l1 : List Int) (width2 : Int) : Option ((List I6)) := den encO_make_Points (X_make_Points l1 width2)
theorem lim_make_Points (k : Nat) (l1 : List Int) (width2 : Int) : Lim (fun v => (encR outs10 (o_make_Points v).1, encMts mouts10 (o_make_Points v).2)) (fun n => (lvl Try.prog HH (n + k)).2 10 [.s (.one (.fr 1 (List.map encI l1))), .s (.one (.v (.int .i64 width2)))] []) (F_make_Points l1 width2) := Lim.den (x := (X_make_Points l1 width2)) k
theorem F_make_Points_of (l1 : List Int) (width2 : Int) : ∀ r, ((
    (F_make_From l1).bind fun y3 =>
    (F_make_Source_Signed 6 y3).bind fun y4 =>
    letIn (IntKind.wrap .i64 (y4.1 * 32768) : Int) fun n5 =>
    (F_make_Source_Signed 6 y4.2).bind fun y6 =>
    letIn (IntKind.wrap .i64 (y6.1 * 32768) : Int) fun n7 =>
    (F_make_Source_Signed 3 y6.2).bind fun y8 =>
    letIn (IntKind.wrap .i64 (y8.1 * 32768) : Int) fun n9 =>
    (F_make_Source_Next 5 y8.2).bind fun y10 =>
    letIn (IntKind.wrap .i64 (1 + y10.1) : Int) fun n11 =>
    (L_make_Points_0 width2 n11 y10.2 ((I3.mk n5 n7 n9)) []).bind fun p43 =>
    some p43) : Option ((List I6))) = some r →
    F_make_Points l1 width2 = some r := fun r h =>
  den_of (x := (X_make_Points l1 width2)) injO_make_Points 1 (Lim.cong (fun n => fn10 n ((List.map encI l1)) width2) (by
      refine Lim.call o_make_From (lim_make_From 0 l1) rfl rfl fun y3 => ?_
      refine Lim.call o_make_Source_Signed (lim_make_Source_Signed 0 6 y3) rfl rfl fun y4 => ?_
      refine Lim.letIn rfl fun n5 => ?_
      refine Lim.call o_make_Source_Signed (lim_make_Source_Signed 0 6 y4.2) rfl rfl fun y6 => ?_
      refine Lim.letIn rfl fun n7 => ?_
      refine Lim.call o_make_Source_Signed (lim_make_Source_Signed 0 3 y6.2) rfl rfl fun y8 => ?_
      refine Lim.letIn rfl fun n9 => ?_
      refine Lim.call o_make_Source_Next (lim_make_Source_Next 0 5 y8.2) rfl rfl fun y10 => ?_
      refine Lim.letIn rfl fun n11 => ?_
      refine Lim.bind (show Lim enc_L_make_Points_0 _ (L_make_Points_0 width2 n11 y10.2 ((I3.mk n5 n7 n9)) []) from Lim.loop 0 (by first | with_reducible rfl | (simp [map_upd, o_make_From, o_make_Source_Signed, o_make_Source_Next] <;> rfl) | (simp only [List.map_append, List.map_cons, List.map_nil, List.map_take, List.map_drop, map_upd, List.map_replicate, List.length_map, o_make_From, o_make_Source_Signed, o_make_Source_Next] <;> rfl) | (simp only [List.map_append, List.map_cons, List.map_nil, List.map_take, List.map_drop, map_upd, List.map_replicate, List.length_map, List.length_append, List.length_cons, List.length_nil, o_make_From, o_make_Source_Signed, o_make_Source_Next] <;> rfl) | rfl)) fun p43 => ?_
      refine Lim.exit (.exit 0) S10_0_e0 (((), ()), ((List.map encI6 p43), ())) rfl rfl rfl ?_
      exact Lim.leaf rfl
    )) h

/-! armplan/armplanmake.Weights -/
abbrev E_make_Weights_0 : Type := (Int × LI_I × (List Int))
def enc_L_make_Weights_0 (e : E_make_Weights_0) : Ex × St := (.exit 0, encSt S15_0_e0 ((e.1, (), (), ()), (((List.map encI e.2.1.c0), e.2.1.c1, ()), (List.map encI e.2.2), ())))
theorem inj_L_make_Weights_0 : ∀ a b, enc_L_make_Weights_0 a = enc_L_make_Weights_0 b → a = b := by
  rintro ⟨a0, ⟨a1, a2⟩, a3⟩ ⟨b0, ⟨b1, b2⟩, b3⟩ h
  first | (cases h; done) | (have h2 := encSt_inj rfl (Prod.mk.inj h).2; simp [map_inj encI_inj] at h2; simp [h2]) | (have h2 := (Prod.mk.inj h).1; simp at h2) | rfl
noncomputable abbrev X_L_make_Weights_0 (v4 : Int) (v5 : Int) (c6 : LI_I) (es7 : List Int) (n : Nat) : Option (Ex × St) := (lvl Try.prog HH n).1 ⟨15, 0, true⟩ 0 (loopOf Try.f15 0) (encSt S15_0 ((v4, (), (), v5, ()), (((List.map encI c6.c0), c6.c1, ()), (List.map encI es7), ())))
noncomputable def L_make_Weights_0 (v4 : Int) (v5 : Int) (c6 : LI_I) (es7 : List Int) : Option E_make_Weights_0 := den enc_L_make_Weights_0 (X_L_make_Weights_0 v4 v5 c6 es7)
theorem L_make_Weights_0_of (v4 : Int) (v5 : Int) (c6 : LI_I) (es7 : List Int) : ∀ r, ((
    bif decide (v5 < v4) then (
      (F_make_Source_Next 9 c6).bind fun y8 =>
      bif decide ((es7.length + 1) * 8 ≤ 140737488355328) then (
        letIn (IntKind.wrap .i64 (v5 + 1) : Int) fun n9 =>
        L_make_Weights_0 v4 n9 y8.2 (es7 ++ [y8.1]))
      else
      none)
    else
    some ((v4, c6, es7))) : Option E_make_Weights_0) = some r →
    L_make_Weights_0 v4 v5 c6 es7 = some r := fun r h =>
  den_of (x := (X_L_make_Weights_0 v4 v5 c6 es7)) inj_L_make_Weights_0 1 (Lim.cong (fun n => loop15_0 n v4 v5 ((List.map encI c6.c0)) c6.c1 ((List.map encI es7))) (by
      refine Lim.bif rfl ?_ ?_
      · refine Lim.call o_make_Source_Next (lim_make_Source_Next 0 9 c6) rfl rfl fun y8 => ?_
        refine Lim.bif (by first | with_reducible rfl | (simp [map_upd, o_make_From, o_make_Source_Next] <;> rfl) | (simp only [List.map_append, List.map_cons, List.map_nil, List.map_take, List.map_drop, map_upd, List.map_replicate, List.length_map, o_make_From, o_make_Source_Next] <;> rfl) | (simp only [List.map_append, List.map_cons, List.map_nil, List.map_take, List.map_drop, map_upd, List.map_replicate, List.length_map, List.length_append, List.length_cons, List.length_nil, o_make_From, o_make_Source_Next] <;> rfl) | rfl) ?_ Lim.none_
        refine Lim.letIn rfl fun n9 => ?_
        exact Lim.loop 0 (by first | with_reducible rfl | (simp [map_upd, o_make_From, o_make_Source_Next] <;> rfl) | (simp only [List.map_append, List.map_cons, List.map_nil, List.map_take, List.map_drop, map_upd, List.map_replicate, List.length_map, o_make_From, o_make_Source_Next] <;> rfl) | (simp only [List.map_append, List.map_cons, List.map_nil, List.map_take, List.map_drop, map_upd, List.map_replicate, List.length_map, List.length_append, List.length_cons, List.length_nil, o_make_From, o_make_Source_Next] <;> rfl) | rfl)
      exact Lim.leaf rfl
    )) h
abbrev o_make_Weights (v : (List Int)) : VtsT outs15 × MtsT mouts15 := (((), ()), ((List.map encI v), ()))
abbrev encO_make_Weights (v : (List Int)) : R := (encR outs15 (o_make_Weights v).1, encMts mouts15 (o_make_Weights v).2)
theorem injO_make_Weights : ∀ a b, encO_make_Weights a = encO_make_Weights b → a = b := by
  rintro a0 b0 h
  have h1 := encR_inj (Prod.mk.inj h).1
  have h2 := encMts_inj (Prod.mk.inj h).2
  simp [o_make_Weights, map_inj encI_inj] at h1 h2
  simp [h1, h2]
noncomputable abbrev X_make_Weights (n1 : Int) (l2 : List Int) (n : Nat) : Option R := (lvl Try.prog HH n).2 15 [.s (.one (.v (.int .i64 n1))), .s (.one (.fr 1 (List.map encI l2)))] []
noncomputable def F_make_Weights (n1 : Int) (l2 : List Int) : Option ((List Int)) := den encO_make_Weights (X_make_Weights n1 l2)
theorem lim_make_Weights (k : Nat) (n1 : Int) (l2 : List Int) : Lim (fun v => (encR outs15 (o_make_Weights v).1, encMts mouts15 (o_make_Weights v).2)) (fun n => (lvl Try.prog HH (n + k)).2 15 [.s (.one (.v (.int .i64 n1))), .s (.one (.fr 1 (List.map encI l2)))] []) (F_make_Weights n1 l2) := Lim.den (x := (X_make_Weights n1 l2)) k
theorem F_make_Weights_of (n1 : Int) (l2 : List Int) : ∀ r, ((
    (F_make_From l2).bind fun y3 =>
    (L_make_Weights_0 n1 0 y3 []).bind fun p10 =>
    bif decide (p10.1 > 0) then (
      (F_make_Source_Next p10.1 p10.2.1).bind fun y11 =>
      bif decide (0 ≤ y11.1) then (
        (nth p10.2.2 y11.1.toNat).bind fun x12 =>
        (nth p10.2.2 y11.1.toNat).bind fun x13 =>
        letIn (IntKind.wrap .i64 (x13 + 1) : Int) fun n14 =>
        bif decide (0 ≤ y11.1) then (
          (nth p10.2.2 y11.1.toNat).bind fun x15 =>
          (nth p10.2.2 y11.1.toNat).bind fun x16 =>
          some (upd p10.2.2 y11.1.toNat n14))
        else
        none)
      else
      none)
    else
    some p10.2.2) : Option ((List Int))) = some r →
    F_make_Weights n1 l2 = some r := fun r h =>
  den_of (x := (X_make_Weights n1 l2)) injO_make_Weights 1 (Lim.cong (fun n => fn15 n n1 ((List.map encI l2))) (by
      refine Lim.call o_make_From (lim_make_From 0 l2) rfl rfl fun y3 => ?_
      refine Lim.bind (show Lim enc_L_make_Weights_0 _ (L_make_Weights_0 n1 0 y3 []) from Lim.loop 0 (by first | with_reducible rfl | (simp [map_upd, o_make_From, o_make_Source_Next] <;> rfl) | (simp only [List.map_append, List.map_cons, List.map_nil, List.map_take, List.map_drop, map_upd, List.map_replicate, List.length_map, o_make_From, o_make_Source_Next] <;> rfl) | (simp only [List.map_append, List.map_cons, List.map_nil, List.map_take, List.map_drop, map_upd, List.map_replicate, List.length_map, List.length_append, List.length_cons, List.length_nil, o_make_From, o_make_Source_Next] <;> rfl) | rfl)) fun p10 => ?_
      refine Lim.exit (.exit 0) S15_0_e0 ((p10.1, (), (), ()), (((List.map encI p10.2.1.c0), p10.2.1.c1, ()), (List.map encI p10.2.2), ())) rfl rfl rfl ?_
      refine Lim.bif rfl ?_ ?_
      · refine Lim.call o_make_Source_Next (lim_make_Source_Next 0 p10.1 p10.2.1) rfl rfl fun y11 => ?_
        refine Lim.bif rfl ?_ Lim.none_
        refine Lim.nth encI rfl rfl fun x12 => ?_
        refine Lim.nth encI rfl rfl fun x13 => ?_
        refine Lim.step rfl ?_
        refine Lim.step rfl ?_
        refine Lim.letIn rfl fun n14 => ?_
        refine Lim.bif rfl ?_ Lim.none_
        refine Lim.nth encI rfl rfl fun x15 => ?_
        refine Lim.nth encI rfl rfl fun x16 => ?_
        refine Lim.step rfl ?_
        exact Lim.leaf (by first | rfl | (simp [o_make_Weights, map_upd, o_make_From, o_make_Source_Next] <;> first | rfl | exact ⟨rfl, rfl⟩))
      exact Lim.leaf rfl
    )) h

/-! armplan/armplanmake.Total -/
abbrev E_make_Total_0 : Type := (Int)
def enc_L_make_Total_0 (e : E_make_Total_0) : Ex × St := (.exit 0, encSt S22_0_e0 ((e, ()), ()))
theorem inj_L_make_Total_0 : ∀ a b, enc_L_make_Total_0 a = enc_L_make_Total_0 b → a = b := by
  rintro a0 b0 h
  first | (cases h; done) | (have h2 := encSt_inj rfl (Prod.mk.inj h).2; simp [] at h2; simp [h2]) | (have h2 := (Prod.mk.inj h).1; simp at h2) | rfl
noncomputable abbrev X_L_make_Total_0 (v2 : List Int) (v3 : Int) (v4 : Int) (n : Nat) : Option (Ex × St) := (lvl Try.prog HH n).1 ⟨22, 0, true⟩ 0 (loopOf Try.f22 0) (encSt S22_0 (((List.map encI v2), v3, v4, ()), ()))
noncomputable def L_make_Total_0 (v2 : List Int) (v3 : Int) (v4 : Int) : Option E_make_Total_0 := den enc_L_make_Total_0 (X_L_make_Total_0 v2 v3 v4)
theorem L_make_Total_0_of (v2 : List Int) (v3 : Int) (v4 : Int) : ∀ r, ((
    bif decide (v4 < (((v2.length : Nat) : Int))) then (
      bif decide (0 ≤ v4) then (
        (nth v2 v4.toNat).bind fun x5 =>
        letIn (IntKind.wrap .i64 (v3 + x5) : Int) fun n6 =>
        letIn (IntKind.wrap .i64 (v4 + 1) : Int) fun n7 =>
        L_make_Total_0 v2 n6 n7)
      else
      none)
    else
    some v3) : Option E_make_Total_0) = some r →
    L_make_Total_0 v2 v3 v4 = some r := fun r h =>
  den_of (x := (X_L_make_Total_0 v2 v3 v4)) inj_L_make_Total_0 1 (Lim.cong (fun n => loop22_0 n ((List.map encI v2)) v3 v4) (by
      refine Lim.bif (by first | with_reducible rfl | (simp [map_upd] <;> rfl) | rfl) ?_ ?_
      · refine Lim.bif rfl ?_ Lim.none_
        refine Lim.nth encI rfl rfl fun x5 => ?_
        refine Lim.step rfl ?_
        refine Lim.step rfl ?_
        refine Lim.letIn rfl fun n6 => ?_
        refine Lim.letIn rfl fun n7 => ?_
        exact Lim.loop 0 rfl
      exact Lim.leaf rfl
    )) h
abbrev o_make_Total (v : Int) : VtsT outs22 × MtsT mouts22 := ((v, ()), ())
abbrev encO_make_Total (v : Int) : R := (encR outs22 (o_make_Total v).1, encMts mouts22 (o_make_Total v).2)
theorem injO_make_Total : ∀ a b, encO_make_Total a = encO_make_Total b → a = b := by
  rintro a0 b0 h
  have h1 := encR_inj (Prod.mk.inj h).1
  have h2 := encMts_inj (Prod.mk.inj h).2
  simp [o_make_Total] at h1 h2
  simp [h1, h2]
noncomputable abbrev X_make_Total (l1 : List Int) (n : Nat) : Option R := (lvl Try.prog HH n).2 22 [.s (.one (.fr 1 (List.map encI l1)))] []
noncomputable def F_make_Total (l1 : List Int) : Option Int := den encO_make_Total (X_make_Total l1)
theorem lim_make_Total (k : Nat) (l1 : List Int) : Lim (fun v => (encR outs22 (o_make_Total v).1, encMts mouts22 (o_make_Total v).2)) (fun n => (lvl Try.prog HH (n + k)).2 22 [.s (.one (.fr 1 (List.map encI l1)))] []) (F_make_Total l1) := Lim.den (x := (X_make_Total l1)) k
theorem F_make_Total_of (l1 : List Int) : ∀ r, ((
    (L_make_Total_0 l1 0 0).bind fun p8 =>
    some p8) : Option Int) = some r →
    F_make_Total l1 = some r := fun r h =>
  den_of (x := (X_make_Total l1)) injO_make_Total 1 (Lim.cong (fun n => fn22 n ((List.map encI l1))) (by
      refine Lim.bind (show Lim enc_L_make_Total_0 _ (L_make_Total_0 l1 0 0) from Lim.loop 0 rfl) fun p8 => ?_
      refine Lim.exit (.exit 0) S22_0_e0 ((p8, ()), ()) rfl rfl rfl ?_
      exact Lim.leaf rfl
    )) h

/-! armplan/armplanlaw16.equal -/
abbrev o_law16_equal (v : (List Int) × (List Int)) : VtsT outs11 × MtsT mouts11 := (((List.map encI v.1), (List.map encI v.2), ()), ())
abbrev encO_law16_equal (v : (List Int) × (List Int)) : R := (encR outs11 (o_law16_equal v).1, encMts mouts11 (o_law16_equal v).2)
theorem injO_law16_equal : ∀ a b, encO_law16_equal a = encO_law16_equal b → a = b := by
  rintro ⟨a0, a1⟩ ⟨b0, b1⟩ h
  have h1 := encR_inj (Prod.mk.inj h).1
  have h2 := encMts_inj (Prod.mk.inj h).2
  simp [o_law16_equal, map_inj encI_inj] at h1 h2
  simp [h1, h2]
noncomputable abbrev X_law16_equal (n1 : Int) (k2 : Int) (l3 : List Int) (n : Nat) : Option R := (lvl Try.prog HH n).2 11 [.s (.one (.v (.int .i64 n1))), .s (.one (.v (.int .i64 k2))), .s (.one (.fr 1 (List.map encI l3)))] []
noncomputable def F_law16_equal (n1 : Int) (k2 : Int) (l3 : List Int) : Option ((List Int) × (List Int)) := den encO_law16_equal (X_law16_equal n1 k2 l3)
theorem lim_law16_equal (k : Nat) (n1 : Int) (k2 : Int) (l3 : List Int) : Lim (fun v => (encR outs11 (o_law16_equal v).1, encMts mouts11 (o_law16_equal v).2)) (fun n => (lvl Try.prog HH (n + k)).2 11 [.s (.one (.v (.int .i64 n1))), .s (.one (.v (.int .i64 k2))), .s (.one (.fr 1 (List.map encI l3)))] []) (F_law16_equal n1 k2 l3) := Lim.den (x := (X_law16_equal n1 k2 l3)) k
theorem F_law16_equal_of (n1 : Int) (k2 : Int) (l3 : List Int) : ∀ r, ((
    (F_make_Weights n1 l3).bind fun y4 =>
    bif decide ((0 + l3.length) * 8 ≤ 140737488355328) then (
      bif decide ((([] ++ l3).length + l3.length) * 8 ≤ 140737488355328) then (
        (F_make_Weights k2 (([] ++ l3) ++ l3)).bind fun y5 =>
        (F_make_Total y4).bind fun y6 =>
        (F_make_Total y5).bind fun y7 =>
        letIn (IntKind.wrap .i64 (y6 - y7) : Int) fun n8 =>
        bif decide (n8 < 0) then (
          (nth y4 0).bind fun x9 =>
          (nth y4 0).bind fun x10 =>
          letIn (IntKind.wrap .i64 (x10 - n8) : Int) fun n11 =>
          (nth y4 0).bind fun x12 =>
          (nth y4 0).bind fun x13 =>
          some (upd y4 0 n11, y5))
        else
        (nth y5 0).bind fun x14 =>
        (nth y5 0).bind fun x15 =>
        letIn (IntKind.wrap .i64 (x15 + n8) : Int) fun n16 =>
        (nth y5 0).bind fun x17 =>
        (nth y5 0).bind fun x18 =>
        some (y4, upd y5 0 n16))
      else
      none)
    else
    none) : Option ((List Int) × (List Int))) = some r →
    F_law16_equal n1 k2 l3 = some r := fun r h =>
  den_of (x := (X_law16_equal n1 k2 l3)) injO_law16_equal 1 (Lim.cong (fun n => fn11 n n1 k2 ((List.map encI l3))) (by
      refine Lim.call o_make_Weights (lim_make_Weights 0 n1 l3) rfl rfl fun y4 => ?_
      refine Lim.bif (by first | with_reducible rfl | (simp [map_upd, o_make_Weights] <;> rfl) | (simp only [List.map_append, List.map_cons, List.map_nil, List.map_take, List.map_drop, map_upd, List.map_replicate, List.length_map, o_make_Weights] <;> rfl) | (simp only [List.map_append, List.map_cons, List.map_nil, List.map_take, List.map_drop, map_upd, List.map_replicate, List.length_map, List.length_append, List.length_cons, List.length_nil, o_make_Weights] <;> rfl) | rfl) ?_ Lim.none_
      refine Lim.bif (by first | with_reducible rfl | (simp [map_upd, o_make_Weights] <;> rfl) | (simp only [List.map_append, List.map_cons, List.map_nil, List.map_take, List.map_drop, map_upd, List.map_replicate, List.length_map, o_make_Weights] <;> rfl) | (simp only [List.map_append, List.map_cons, List.map_nil, List.map_take, List.map_drop, map_upd, List.map_replicate, List.length_map, List.length_append, List.length_cons, List.length_nil, o_make_Weights] <;> rfl) | rfl) ?_ Lim.none_
      refine Lim.call o_make_Weights (lim_make_Weights 0 k2 (([] ++ l3) ++ l3)) (by first | with_reducible rfl | (simp [map_upd, o_make_Weights] <;> rfl) | (simp only [List.map_append, List.map_cons, List.map_nil, List.map_take, List.map_drop, map_upd, List.map_replicate, List.length_map, o_make_Weights] <;> rfl) | (simp only [List.map_append, List.map_cons, List.map_nil, List.map_take, List.map_drop, map_upd, List.map_replicate, List.length_map, List.length_append, List.length_cons, List.length_nil, o_make_Weights] <;> rfl) | rfl) (by first | with_reducible rfl | (simp [map_upd, o_make_Weights] <;> rfl) | (simp only [List.map_append, List.map_cons, List.map_nil, List.map_take, List.map_drop, map_upd, List.map_replicate, List.length_map, o_make_Weights] <;> rfl) | (simp only [List.map_append, List.map_cons, List.map_nil, List.map_take, List.map_drop, map_upd, List.map_replicate, List.length_map, List.length_append, List.length_cons, List.length_nil, o_make_Weights] <;> rfl) | rfl) fun y5 => ?_
      refine Lim.call o_make_Total (lim_make_Total 0 y4) rfl rfl fun y6 => ?_
      refine Lim.call o_make_Total (lim_make_Total 0 y5) rfl rfl fun y7 => ?_
      refine Lim.letIn rfl fun n8 => ?_
      refine Lim.bif rfl ?_ ?_
      · refine Lim.nth encI rfl rfl fun x9 => ?_
        refine Lim.nth encI rfl rfl fun x10 => ?_
        refine Lim.step rfl ?_
        refine Lim.step rfl ?_
        refine Lim.letIn rfl fun n11 => ?_
        refine Lim.nth encI rfl rfl fun x12 => ?_
        refine Lim.nth encI rfl rfl fun x13 => ?_
        refine Lim.step rfl ?_
        exact Lim.leaf (by first | rfl | (simp [o_law16_equal, map_upd, o_make_Weights] <;> first | rfl | exact ⟨rfl, rfl⟩))
      refine Lim.nth encI rfl rfl fun x14 => ?_
      refine Lim.nth encI rfl rfl fun x15 => ?_
      refine Lim.step rfl ?_
      refine Lim.step rfl ?_
      refine Lim.letIn rfl fun n16 => ?_
      refine Lim.nth encI rfl rfl fun x17 => ?_
      refine Lim.nth encI rfl rfl fun x18 => ?_
      refine Lim.step rfl ?_
      exact Lim.leaf (by first | rfl | (simp [o_law16_equal, map_upd, o_make_Weights] <;> first | rfl | exact ⟨rfl, rfl⟩))
    )) h

/-! armplan/armplanref6.Near -/
abbrev E_ref6_Near_0 : Type := (Bool) ⊕ (Unit)
def enc_L_ref6_Near_0 : E_ref6_Near_0 → Ex × St
  | .inl e => (.ret, encSt S42_0_r ((e, ()), ()))
  | .inr e => (.exit 0, encSt S42_0_e0 ((), ()))
theorem inj_L_ref6_Near_0 : ∀ a b, enc_L_ref6_Near_0 a = enc_L_ref6_Near_0 b → a = b := by
  rintro (a0 | _) (b0 | _) h <;> (first | (cases h; done) | (have h2 := encSt_inj rfl (Prod.mk.inj h).2; simp [] at h2; simp [h2]) | (have h2 := (Prod.mk.inj h).1; simp at h2) | rfl)
abbrev o_ref6_Near (v : Bool) : VtsT outs42 × MtsT mouts42 := ((v, ()), ())
abbrev encO_ref6_Near (v : Bool) : R := (encR outs42 (o_ref6_Near v).1, encMts mouts42 (o_ref6_Near v).2)
theorem injO_ref6_Near : ∀ a b, encO_ref6_Near a = encO_ref6_Near b → a = b := by
  rintro a0 b0 h
  have h1 := encR_inj (Prod.mk.inj h).1
  have h2 := encMts_inj (Prod.mk.inj h).2
  simp [o_ref6_Near] at h1 h2
  simp [h1, h2]
noncomputable abbrev X_ref6_Near (v1 : I3) (most2 : Int) (n : Nat) : Option R := (lvl Try.prog HH n).2 42 [.s (.agg true [.v (.int .i64 v1.c0), .v (.int .i64 v1.c1), .v (.int .i64 v1.c2)]), .s (.one (.v (.int .i64 most2)))] []
noncomputable def F_ref6_Near (v1 : I3) (most2 : Int) : Option Bool := den encO_ref6_Near (X_ref6_Near v1 most2)
theorem lim_ref6_Near (k : Nat) (v1 : I3) (most2 : Int) : Lim (fun v => (encR outs42 (o_ref6_Near v).1, encMts mouts42 (o_ref6_Near v).2)) (fun n => (lvl Try.prog HH (n + k)).2 42 [.s (.agg true [.v (.int .i64 v1.c0), .v (.int .i64 v1.c1), .v (.int .i64 v1.c2)]), .s (.one (.v (.int .i64 most2)))] []) (F_ref6_Near v1 most2) := Lim.den (x := (X_ref6_Near v1 most2)) k
theorem F_ref6_Near_of (v1 : I3) (most2 : Int) : ∀ r, ((
    Option.bind (α := E_ref6_Near_0) (
      letIn (IntKind.wrap .i64 (0 - most2) : Int) fun n3 =>
      bif decide (v1.c0 < n3) then (
        some (.inl false))
      else
      bif decide (v1.c0 > most2) then (
        some (.inl false))
      else
      letIn (IntKind.wrap .i64 (0 - most2) : Int) fun n4 =>
      bif decide (v1.c1 < n4) then (
        some (.inl false))
      else
      bif decide (v1.c1 > most2) then (
        some (.inl false))
      else
      letIn (IntKind.wrap .i64 (0 - most2) : Int) fun n5 =>
      bif decide (v1.c2 < n5) then (
        some (.inl false))
      else
      bif decide (v1.c2 > most2) then (
        some (.inl false))
      else
      some (.inr (()))) fun p6 =>
    match p6 with
    | .inl e7 => (
      some e7)
    | .inr e8 => (
      some true)) : Option Bool) = some r →
    F_ref6_Near v1 most2 = some r := fun r h =>
  den_of (x := (X_ref6_Near v1 most2)) injO_ref6_Near 5 (Lim.cong (fun n => fn42 n v1.c0 v1.c1 v1.c2 most2) (by
      refine Lim.bind (e := enc_L_ref6_Near_0) ?_ fun p6 => ?_
      · refine Lim.letIn rfl fun n3 => ?_
        refine Lim.bif rfl ?_ ?_
        · exact Lim.leaf rfl
        refine Lim.bif rfl ?_ ?_
        · exact Lim.leaf rfl
        refine Lim.letIn rfl fun n4 => ?_
        refine Lim.bif rfl ?_ ?_
        · exact Lim.leaf rfl
        refine Lim.bif rfl ?_ ?_
        · exact Lim.leaf rfl
        refine Lim.letIn rfl fun n5 => ?_
        refine Lim.bif rfl ?_ ?_
        · exact Lim.leaf rfl
        refine Lim.bif rfl ?_ ?_
        · exact Lim.leaf rfl
        exact Lim.leaf rfl
      rcases p6 with e7 | e8
      · refine Lim.exit (.ret) S42_0_r ((e7, ()), ()) rfl rfl rfl ?_
        exact Lim.leaf rfl
      · refine Lim.bifF rfl ?_
        refine Lim.exit (.exit 0) S42_0_e0 ((), ()) rfl rfl rfl ?_
        exact Lim.leaf rfl
    )) h
def G_ref6_Near (v1 : I3) (most2 : Int) : Bool :=
  letIn (α := E_ref6_Near_0) (
    letIn (IntKind.wrap .i64 (0 - most2) : Int) fun n3 =>
    bif decide (v1.c0 < n3) then (
      (.inl false))
    else
    bif decide (v1.c0 > most2) then (
      (.inl false))
    else
    letIn (IntKind.wrap .i64 (0 - most2) : Int) fun n4 =>
    bif decide (v1.c1 < n4) then (
      (.inl false))
    else
    bif decide (v1.c1 > most2) then (
      (.inl false))
    else
    letIn (IntKind.wrap .i64 (0 - most2) : Int) fun n5 =>
    bif decide (v1.c2 < n5) then (
      (.inl false))
    else
    bif decide (v1.c2 > most2) then (
      (.inl false))
    else
    (.inr (()))) fun p6 =>
  match p6 with
  | .inl e7 => (
    e7)
  | .inr e8 => (
    true)
theorem F_ref6_Near_eq (v1 : I3) (most2 : Int) : F_ref6_Near v1 most2 = some (G_ref6_Near v1 most2) := F_ref6_Near_of v1 most2 _ (by
  unfold G_ref6_Near
  refine Tot.bind ?_ fun p6 => ?_
  · refine Tot.letIn fun n3 => ?_
    refine Tot.bif ?_ ?_
    · rfl
    refine Tot.bif ?_ ?_
    · rfl
    refine Tot.letIn fun n4 => ?_
    refine Tot.bif ?_ ?_
    · rfl
    refine Tot.bif ?_ ?_
    · rfl
    refine Tot.letIn fun n5 => ?_
    refine Tot.bif ?_ ?_
    · rfl
    refine Tot.bif ?_ ?_
    · rfl
    rfl
  rcases p6 with e7 | e8
  · rfl
  · rfl)

/-! armplan/armplanref10.Usable -/
abbrev o_ref10_Usable (v : Bool) : VtsT outs35 × MtsT mouts35 := ((v, ()), ())
abbrev encO_ref10_Usable (v : Bool) : R := (encR outs35 (o_ref10_Usable v).1, encMts mouts35 (o_ref10_Usable v).2)
theorem injO_ref10_Usable : ∀ a b, encO_ref10_Usable a = encO_ref10_Usable b → a = b := by
  rintro a0 b0 h
  have h1 := encR_inj (Prod.mk.inj h).1
  have h2 := encMts_inj (Prod.mk.inj h).2
  simp [o_ref10_Usable] at h1 h2
  simp [h1, h2]
noncomputable abbrev X_ref10_Usable (n1 : I3) (n : Nat) : Option R := (lvl Try.prog HH n).2 35 [.s (.agg true [.v (.int .i64 n1.c0), .v (.int .i64 n1.c1), .v (.int .i64 n1.c2)])] []
noncomputable def F_ref10_Usable (n1 : I3) : Option Bool := den encO_ref10_Usable (X_ref10_Usable n1)
theorem lim_ref10_Usable (k : Nat) (n1 : I3) : Lim (fun v => (encR outs35 (o_ref10_Usable v).1, encMts mouts35 (o_ref10_Usable v).2)) (fun n => (lvl Try.prog HH (n + k)).2 35 [.s (.agg true [.v (.int .i64 n1.c0), .v (.int .i64 n1.c1), .v (.int .i64 n1.c2)])] []) (F_ref10_Usable n1) := Lim.den (x := (X_ref10_Usable n1)) k
theorem F_ref10_Usable_of (n1 : I3) : ∀ r, ((
    letIn (!((n1.c0 == 0) && ((n1.c1 == 0) && ((n1.c2 == 0) && true))) : Bool) fun b2 =>
    bif b2 then (
      (F_ref6_Near n1 16384).bind fun y3 =>
      some y3)
    else
    some false) : Option Bool) = some r →
    F_ref10_Usable n1 = some r := fun r h =>
  den_of (x := (X_ref10_Usable n1)) injO_ref10_Usable 1 (Lim.cong (fun n => fn35 n n1.c0 n1.c1 n1.c2) (by
      refine Lim.letIn rfl fun b2 => ?_
      refine Lim.bif rfl ?_ ?_
      · refine Lim.call o_ref6_Near (lim_ref6_Near 0 n1 16384) rfl rfl fun y3 => ?_
        exact Lim.leaf rfl
      exact Lim.leaf rfl
    )) h
def G_ref10_Usable (n1 : I3) : Bool :=
  letIn (!((n1.c0 == 0) && ((n1.c1 == 0) && ((n1.c2 == 0) && true))) : Bool) fun b2 =>
  bif b2 then (
    letIn (G_ref6_Near n1 16384) fun y3 =>
    y3)
  else
  false
theorem F_ref10_Usable_eq (n1 : I3) : F_ref10_Usable n1 = some (G_ref10_Usable n1) := F_ref10_Usable_of n1 _ (by
  unfold G_ref10_Usable
  refine Tot.letIn fun b2 => ?_
  refine Tot.bif ?_ ?_
  · refine Tot.bind (F_ref6_Near_eq n1 16384) fun y3 => ?_
    rfl
  rfl)

/-! armplan/armplanmake.Normal -/
abbrev o_make_Normal (v : I3) : VtsT outs24 × MtsT mouts24 := (((v.c0, v.c1, v.c2, ()), ()), ())
abbrev encO_make_Normal (v : I3) : R := (encR outs24 (o_make_Normal v).1, encMts mouts24 (o_make_Normal v).2)
theorem injO_make_Normal : ∀ a b, encO_make_Normal a = encO_make_Normal b → a = b := by
  rintro ⟨a0, a1, a2⟩ ⟨b0, b1, b2⟩ h
  have h1 := encR_inj (Prod.mk.inj h).1
  have h2 := encMts_inj (Prod.mk.inj h).2
  simp [o_make_Normal] at h1 h2
  simp [h1, h2]
noncomputable abbrev X_make_Normal (a1 : Int) (b2 : Int) (c3 : Int) (n : Nat) : Option R := (lvl Try.prog HH n).2 24 [.s (.one (.v (.int .i64 a1))), .s (.one (.v (.int .i64 b2))), .s (.one (.v (.int .i64 c3)))] []
noncomputable def F_make_Normal (a1 : Int) (b2 : Int) (c3 : Int) : Option I3 := den encO_make_Normal (X_make_Normal a1 b2 c3)
theorem lim_make_Normal (k : Nat) (a1 : Int) (b2 : Int) (c3 : Int) : Lim (fun v => (encR outs24 (o_make_Normal v).1, encMts mouts24 (o_make_Normal v).2)) (fun n => (lvl Try.prog HH (n + k)).2 24 [.s (.one (.v (.int .i64 a1))), .s (.one (.v (.int .i64 b2))), .s (.one (.v (.int .i64 c3)))] []) (F_make_Normal a1 b2 c3) := Lim.den (x := (X_make_Normal a1 b2 c3)) k
theorem F_make_Normal_of (a1 : Int) (b2 : Int) (c3 : Int) : ∀ r, ((
    (F_make_Round a1 41).bind fun y4 =>
    letIn (IntKind.wrap .i64 (y4 - 20) : Int) fun n5 =>
    (F_make_Round b2 41).bind fun y6 =>
    letIn (IntKind.wrap .i64 (y6 - 20) : Int) fun n7 =>
    (F_make_Round c3 41).bind fun y8 =>
    letIn (IntKind.wrap .i64 (y8 - 20) : Int) fun n9 =>
    letIn (IntKind.wrap .i64 ((BitVec.ofInt 64 a1 &&& BitVec.ofInt 64 8).toNat : Nat) : Int) fun n10 =>
    bif n10 == 8 then (
      (F_make_Round a1 32769).bind fun y11 =>
      letIn (IntKind.wrap .i64 (y11 - 16384) : Int) fun n12 =>
      (F_make_Round b2 32769).bind fun y13 =>
      letIn (IntKind.wrap .i64 (y13 - 16384) : Int) fun n14 =>
      (F_make_Round c3 32769).bind fun y15 =>
      letIn (IntKind.wrap .i64 (y15 - 16384) : Int) fun n16 =>
      (F_ref10_Usable ((I3.mk n12 n14 n16))).bind fun y17 =>
      bif !y17 then (
        some ((I3.mk 1 0 0)))
      else
      some ((I3.mk n12 n14 n16)))
    else
    (F_ref10_Usable ((I3.mk n5 n7 n9))).bind fun y18 =>
    bif !y18 then (
      some ((I3.mk 1 0 0)))
    else
    some ((I3.mk n5 n7 n9))) : Option I3) = some r →
    F_make_Normal a1 b2 c3 = some r := fun r h =>
  den_of (x := (X_make_Normal a1 b2 c3)) injO_make_Normal 1 (Lim.cong (fun n => fn24 n a1 b2 c3) (by
      refine Lim.call o_make_Round (lim_make_Round 0 a1 41) rfl rfl fun y4 => ?_
      refine Lim.letIn rfl fun n5 => ?_
      refine Lim.call o_make_Round (lim_make_Round 0 b2 41) rfl rfl fun y6 => ?_
      refine Lim.letIn rfl fun n7 => ?_
      refine Lim.call o_make_Round (lim_make_Round 0 c3 41) rfl rfl fun y8 => ?_
      refine Lim.letIn rfl fun n9 => ?_
      refine Lim.letIn rfl fun n10 => ?_
      refine Lim.bif rfl ?_ ?_
      · refine Lim.call o_make_Round (lim_make_Round 0 a1 32769) rfl rfl fun y11 => ?_
        refine Lim.letIn rfl fun n12 => ?_
        refine Lim.call o_make_Round (lim_make_Round 0 b2 32769) rfl rfl fun y13 => ?_
        refine Lim.letIn rfl fun n14 => ?_
        refine Lim.call o_make_Round (lim_make_Round 0 c3 32769) rfl rfl fun y15 => ?_
        refine Lim.letIn rfl fun n16 => ?_
        refine Lim.call o_ref10_Usable (lim_ref10_Usable 0 ((I3.mk n12 n14 n16))) rfl rfl fun y17 => ?_
        refine Lim.bif rfl ?_ ?_
        · exact Lim.leaf rfl
        exact Lim.leaf rfl
      refine Lim.call o_ref10_Usable (lim_ref10_Usable 0 ((I3.mk n5 n7 n9))) rfl rfl fun y18 => ?_
      refine Lim.bif rfl ?_ ?_
      · exact Lim.leaf rfl
      exact Lim.leaf rfl
    )) h

/-! armplan/armplanref1.Clamp -/
abbrev o_ref1_Clamp (v : Int) : VtsT outs52 × MtsT mouts52 := ((v, ()), ())
abbrev encO_ref1_Clamp (v : Int) : R := (encR outs52 (o_ref1_Clamp v).1, encMts mouts52 (o_ref1_Clamp v).2)
theorem injO_ref1_Clamp : ∀ a b, encO_ref1_Clamp a = encO_ref1_Clamp b → a = b := by
  rintro a0 b0 h
  have h1 := encR_inj (Prod.mk.inj h).1
  have h2 := encMts_inj (Prod.mk.inj h).2
  simp [o_ref1_Clamp] at h1 h2
  simp [h1, h2]
noncomputable abbrev X_ref1_Clamp (a1 : Int) (n : Nat) : Option R := (lvl Try.prog HH n).2 52 [.s (.one (.v (.int .i64 a1)))] []
noncomputable def F_ref1_Clamp (a1 : Int) : Option Int := den encO_ref1_Clamp (X_ref1_Clamp a1)
theorem lim_ref1_Clamp (k : Nat) (a1 : Int) : Lim (fun v => (encR outs52 (o_ref1_Clamp v).1, encMts mouts52 (o_ref1_Clamp v).2)) (fun n => (lvl Try.prog HH (n + k)).2 52 [.s (.one (.v (.int .i64 a1)))] []) (F_ref1_Clamp a1) := Lim.den (x := (X_ref1_Clamp a1)) k
theorem F_ref1_Clamp_of (a1 : Int) : ∀ r, ((
    letIn (if 2147483648 < a1 then 2147483648 else a1 : Int) fun n2 =>
    letIn (if n2 > (-2147483648) then n2 else (-2147483648) : Int) fun n3 =>
    some n3) : Option Int) = some r →
    F_ref1_Clamp a1 = some r := fun r h =>
  den_of (x := (X_ref1_Clamp a1)) injO_ref1_Clamp 1 (Lim.cong (fun n => fn52 n a1) (by
      refine Lim.letIn rfl fun n2 => ?_
      refine Lim.letIn rfl fun n3 => ?_
      exact Lim.leaf rfl
    )) h
def G_ref1_Clamp (a1 : Int) : Int :=
  letIn (if 2147483648 < a1 then 2147483648 else a1 : Int) fun n2 =>
  letIn (if n2 > (-2147483648) then n2 else (-2147483648) : Int) fun n3 =>
  n3
theorem F_ref1_Clamp_eq (a1 : Int) : F_ref1_Clamp a1 = some (G_ref1_Clamp a1) := F_ref1_Clamp_of a1 _ (by
  unfold G_ref1_Clamp
  refine Tot.letIn fun n2 => ?_
  refine Tot.letIn fun n3 => ?_
  rfl)

/-! armplan/armplanref1.Of -/
abbrev o_ref1_Of (v : I2) : VtsT outs44 × MtsT mouts44 := (((v.c0, v.c1, ()), ()), ())
abbrev encO_ref1_Of (v : I2) : R := (encR outs44 (o_ref1_Of v).1, encMts mouts44 (o_ref1_Of v).2)
theorem injO_ref1_Of : ∀ a b, encO_ref1_Of a = encO_ref1_Of b → a = b := by
  rintro ⟨a0, a1⟩ ⟨b0, b1⟩ h
  have h1 := encR_inj (Prod.mk.inj h).1
  have h2 := encMts_inj (Prod.mk.inj h).2
  simp [o_ref1_Of] at h1 h2
  simp [h1, h2]
noncomputable abbrev X_ref1_Of (x1 : Int) (n : Nat) : Option R := (lvl Try.prog HH n).2 44 [.s (.one (.v (.int .i64 x1)))] []
noncomputable def F_ref1_Of (x1 : Int) : Option I2 := den encO_ref1_Of (X_ref1_Of x1)
theorem lim_ref1_Of (k : Nat) (x1 : Int) : Lim (fun v => (encR outs44 (o_ref1_Of v).1, encMts mouts44 (o_ref1_Of v).2)) (fun n => (lvl Try.prog HH (n + k)).2 44 [.s (.one (.v (.int .i64 x1)))] []) (F_ref1_Of x1) := Lim.den (x := (X_ref1_Of x1)) k
theorem F_ref1_Of_of (x1 : Int) : ∀ r, ((
    (F_ref1_Clamp x1).bind fun y2 =>
    (F_ref1_Clamp x1).bind fun y3 =>
    some ((I2.mk y2 y3))) : Option I2) = some r →
    F_ref1_Of x1 = some r := fun r h =>
  den_of (x := (X_ref1_Of x1)) injO_ref1_Of 1 (Lim.cong (fun n => fn44 n x1) (by
      refine Lim.call o_ref1_Clamp (lim_ref1_Clamp 0 x1) rfl rfl fun y2 => ?_
      refine Lim.call o_ref1_Clamp (lim_ref1_Clamp 0 x1) rfl rfl fun y3 => ?_
      exact Lim.leaf rfl
    )) h
def G_ref1_Of (x1 : Int) : I2 :=
  letIn (G_ref1_Clamp x1) fun y2 =>
  letIn (G_ref1_Clamp x1) fun y3 =>
  ((I2.mk y2 y3))
theorem F_ref1_Of_eq (x1 : Int) : F_ref1_Of x1 = some (G_ref1_Of x1) := F_ref1_Of_of x1 _ (by
  unfold G_ref1_Of
  refine Tot.bind (F_ref1_Clamp_eq x1) fun y2 => ?_
  refine Tot.bind (F_ref1_Clamp_eq x1) fun y3 => ?_
  rfl)

/-! armplan/armplanref1.Point -/
abbrev o_ref1_Point (v : I6) : VtsT outs37 × MtsT mouts37 := (((v.c0, v.c1, v.c2, v.c3, v.c4, v.c5, ()), ()), ())
abbrev encO_ref1_Point (v : I6) : R := (encR outs37 (o_ref1_Point v).1, encMts mouts37 (o_ref1_Point v).2)
theorem injO_ref1_Point : ∀ a b, encO_ref1_Point a = encO_ref1_Point b → a = b := by
  rintro ⟨a0, a1, a2, a3, a4, a5⟩ ⟨b0, b1, b2, b3, b4, b5⟩ h
  have h1 := encR_inj (Prod.mk.inj h).1
  have h2 := encMts_inj (Prod.mk.inj h).2
  simp [o_ref1_Point] at h1 h2
  simp [h1, h2]
noncomputable abbrev X_ref1_Point (v1 : I3) (n : Nat) : Option R := (lvl Try.prog HH n).2 37 [.s (.agg true [.v (.int .i64 v1.c0), .v (.int .i64 v1.c1), .v (.int .i64 v1.c2)])] []
noncomputable def F_ref1_Point (v1 : I3) : Option I6 := den encO_ref1_Point (X_ref1_Point v1)
theorem lim_ref1_Point (k : Nat) (v1 : I3) : Lim (fun v => (encR outs37 (o_ref1_Point v).1, encMts mouts37 (o_ref1_Point v).2)) (fun n => (lvl Try.prog HH (n + k)).2 37 [.s (.agg true [.v (.int .i64 v1.c0), .v (.int .i64 v1.c1), .v (.int .i64 v1.c2)])] []) (F_ref1_Point v1) := Lim.den (x := (X_ref1_Point v1)) k
theorem F_ref1_Point_of (v1 : I3) : ∀ r, ((
    (F_ref1_Of v1.c0).bind fun y2 =>
    (F_ref1_Of v1.c1).bind fun y3 =>
    (F_ref1_Of v1.c2).bind fun y4 =>
    some ((I6.mk y2.c0 y2.c1 y3.c0 y3.c1 y4.c0 y4.c1))) : Option I6) = some r →
    F_ref1_Point v1 = some r := fun r h =>
  den_of (x := (X_ref1_Point v1)) injO_ref1_Point 1 (Lim.cong (fun n => fn37 n v1.c0 v1.c1 v1.c2) (by
      refine Lim.call o_ref1_Of (lim_ref1_Of 0 v1.c0) rfl rfl fun y2 => ?_
      refine Lim.call o_ref1_Of (lim_ref1_Of 0 v1.c1) rfl rfl fun y3 => ?_
      refine Lim.call o_ref1_Of (lim_ref1_Of 0 v1.c2) rfl rfl fun y4 => ?_
      exact Lim.leaf rfl
    )) h
def G_ref1_Point (v1 : I3) : I6 :=
  letIn (G_ref1_Of v1.c0) fun y2 =>
  letIn (G_ref1_Of v1.c1) fun y3 =>
  letIn (G_ref1_Of v1.c2) fun y4 =>
  ((I6.mk y2.c0 y2.c1 y3.c0 y3.c1 y4.c0 y4.c1))
theorem F_ref1_Point_eq (v1 : I3) : F_ref1_Point v1 = some (G_ref1_Point v1) := F_ref1_Point_of v1 _ (by
  unfold G_ref1_Point
  refine Tot.bind (F_ref1_Of_eq v1.c0) fun y2 => ?_
  refine Tot.bind (F_ref1_Of_eq v1.c1) fun y3 => ?_
  refine Tot.bind (F_ref1_Of_eq v1.c2) fun y4 => ?_
  rfl)

/-! armplan/armplanmake.Boxed -/
abbrev E_make_Boxed_0 : Type := ((List I6))
def enc_L_make_Boxed_0 (e : E_make_Boxed_0) : Ex × St := (.exit 0, encSt S29_0_e0 (((), ()), ((List.map encI6 e), ())))
theorem inj_L_make_Boxed_0 : ∀ a b, enc_L_make_Boxed_0 a = enc_L_make_Boxed_0 b → a = b := by
  rintro a0 b0 h
  first | (cases h; done) | (have h2 := encSt_inj rfl (Prod.mk.inj h).2; simp [map_inj encI6_inj] at h2; simp [h2]) | (have h2 := (Prod.mk.inj h).1; simp at h2) | rfl
noncomputable abbrev X_L_make_Boxed_0 (v2 : List I3) (v3 : Int) (es4 : List I6) (n : Nat) : Option (Ex × St) := (lvl Try.prog HH n).1 ⟨29, 0, true⟩ 0 (loopOf Try.f29 0) (encSt S29_0 (((List.map encI3 v2), (), v3, ()), ((List.map encI6 es4), ())))
noncomputable def L_make_Boxed_0 (v2 : List I3) (v3 : Int) (es4 : List I6) : Option E_make_Boxed_0 := den enc_L_make_Boxed_0 (X_L_make_Boxed_0 v2 v3 es4)
theorem L_make_Boxed_0_of (v2 : List I3) (v3 : Int) (es4 : List I6) : ∀ r, ((
    bif decide (v3 < (((v2.length : Nat) : Int))) then (
      bif decide (0 ≤ v3) then (
        (nth v2 v3.toNat).bind fun x5 =>
        (F_ref1_Point x5).bind fun y6 =>
        bif decide ((es4.length + 1) * 48 ≤ 140737488355328) then (
          letIn (IntKind.wrap .i64 (v3 + 1) : Int) fun n7 =>
          L_make_Boxed_0 v2 n7 (es4 ++ [y6]))
        else
        none)
      else
      none)
    else
    some es4) : Option E_make_Boxed_0) = some r →
    L_make_Boxed_0 v2 v3 es4 = some r := fun r h =>
  den_of (x := (X_L_make_Boxed_0 v2 v3 es4)) inj_L_make_Boxed_0 1 (Lim.cong (fun n => loop29_0 n ((List.map encI3 v2)) v3 ((List.map encI6 es4))) (by
      refine Lim.bif (by first | with_reducible rfl | (simp [map_upd, o_ref1_Point] <;> rfl) | (simp only [List.map_append, List.map_cons, List.map_nil, List.map_take, List.map_drop, map_upd, List.map_replicate, List.length_map, o_ref1_Point] <;> rfl) | (simp only [List.map_append, List.map_cons, List.map_nil, List.map_take, List.map_drop, map_upd, List.map_replicate, List.length_map, List.length_append, List.length_cons, List.length_nil, o_ref1_Point] <;> rfl) | rfl) ?_ ?_
      · refine Lim.bif rfl ?_ Lim.none_
        refine Lim.nth encI3 rfl rfl fun x5 => ?_
        refine Lim.bifT rfl ?_
        refine Lim.decC (x5.c0, x5.c1, x5.c2, ()) rfl ?_
        refine Lim.call o_ref1_Point (lim_ref1_Point 0 x5) rfl rfl fun y6 => ?_
        refine Lim.bif (by first | with_reducible rfl | (simp [map_upd, o_ref1_Point] <;> rfl) | (simp only [List.map_append, List.map_cons, List.map_nil, List.map_take, List.map_drop, map_upd, List.map_replicate, List.length_map, o_ref1_Point] <;> rfl) | (simp only [List.map_append, List.map_cons, List.map_nil, List.map_take, List.map_drop, map_upd, List.map_replicate, List.length_map, List.length_append, List.length_cons, List.length_nil, o_ref1_Point] <;> rfl) | rfl) ?_ Lim.none_
        refine Lim.letIn rfl fun n7 => ?_
        exact Lim.loop 0 (by first | with_reducible rfl | (simp [map_upd, o_ref1_Point] <;> rfl) | (simp only [List.map_append, List.map_cons, List.map_nil, List.map_take, List.map_drop, map_upd, List.map_replicate, List.length_map, o_ref1_Point] <;> rfl) | (simp only [List.map_append, List.map_cons, List.map_nil, List.map_take, List.map_drop, map_upd, List.map_replicate, List.length_map, List.length_append, List.length_cons, List.length_nil, o_ref1_Point] <;> rfl) | rfl)
      exact Lim.leaf rfl
    )) h
abbrev o_make_Boxed (v : (List I6)) : VtsT outs29 × MtsT mouts29 := (((List.map encI6 v), ()), ())
abbrev encO_make_Boxed (v : (List I6)) : R := (encR outs29 (o_make_Boxed v).1, encMts mouts29 (o_make_Boxed v).2)
theorem injO_make_Boxed : ∀ a b, encO_make_Boxed a = encO_make_Boxed b → a = b := by
  rintro a0 b0 h
  have h1 := encR_inj (Prod.mk.inj h).1
  have h2 := encMts_inj (Prod.mk.inj h).2
  simp [o_make_Boxed, map_inj encI6_inj] at h1 h2
  simp [h1, h2]
noncomputable abbrev X_make_Boxed (l1 : List I3) (n : Nat) : Option R := (lvl Try.prog HH n).2 29 [.s (.one (.fr 3 (List.map encI3 l1)))] []
noncomputable def F_make_Boxed (l1 : List I3) : Option ((List I6)) := den encO_make_Boxed (X_make_Boxed l1)
theorem lim_make_Boxed (k : Nat) (l1 : List I3) : Lim (fun v => (encR outs29 (o_make_Boxed v).1, encMts mouts29 (o_make_Boxed v).2)) (fun n => (lvl Try.prog HH (n + k)).2 29 [.s (.one (.fr 3 (List.map encI3 l1)))] []) (F_make_Boxed l1) := Lim.den (x := (X_make_Boxed l1)) k
theorem F_make_Boxed_of (l1 : List I3) : ∀ r, ((
    (L_make_Boxed_0 l1 0 []).bind fun p8 =>
    some p8) : Option ((List I6))) = some r →
    F_make_Boxed l1 = some r := fun r h =>
  den_of (x := (X_make_Boxed l1)) injO_make_Boxed 1 (Lim.cong (fun n => fn29 n ((List.map encI3 l1))) (by
      refine Lim.bind (show Lim enc_L_make_Boxed_0 _ (L_make_Boxed_0 l1 0 []) from Lim.loop 0 (by first | with_reducible rfl | (simp [map_upd, o_ref1_Point] <;> rfl) | (simp only [List.map_append, List.map_cons, List.map_nil, List.map_take, List.map_drop, map_upd, List.map_replicate, List.length_map, o_ref1_Point] <;> rfl) | (simp only [List.map_append, List.map_cons, List.map_nil, List.map_take, List.map_drop, map_upd, List.map_replicate, List.length_map, List.length_append, List.length_cons, List.length_nil, o_ref1_Point] <;> rfl) | rfl)) fun p8 => ?_
      refine Lim.exit (.exit 0) S29_0_e0 (((), ()), ((List.map encI6 p8), ())) rfl rfl rfl ?_
      exact Lim.leaf rfl
    )) h

/-! armplan/shape.reaches -/
abbrev o_shape_reaches (v : Bool) : VtsT outs46 × MtsT mouts46 := ((v, ()), ())
abbrev encO_shape_reaches (v : Bool) : R := (encR outs46 (o_shape_reaches v).1, encMts mouts46 (o_shape_reaches v).2)
theorem injO_shape_reaches : ∀ a b, encO_shape_reaches a = encO_shape_reaches b → a = b := by
  rintro a0 b0 h
  have h1 := encR_inj (Prod.mk.inj h).1
  have h2 := encMts_inj (Prod.mk.inj h).2
  simp [o_shape_reaches] at h1 h2
  simp [h1, h2]
noncomputable abbrev X_shape_reaches (a1 : I2) (n : Nat) : Option R := (lvl Try.prog HH n).2 46 [.s (.agg true [.v (.int .i64 a1.c0), .v (.int .i64 a1.c1)])] []
noncomputable def F_shape_reaches (a1 : I2) : Option Bool := den encO_shape_reaches (X_shape_reaches a1)
theorem lim_shape_reaches (k : Nat) (a1 : I2) : Lim (fun v => (encR outs46 (o_shape_reaches v).1, encMts mouts46 (o_shape_reaches v).2)) (fun n => (lvl Try.prog HH (n + k)).2 46 [.s (.agg true [.v (.int .i64 a1.c0), .v (.int .i64 a1.c1)])] []) (F_shape_reaches a1) := Lim.den (x := (X_shape_reaches a1)) k
theorem F_shape_reaches_of (a1 : I2) : ∀ r, ((
    bif decide (a1.c0 ≥ (-268435456)) then (
      bif decide (a1.c0 ≤ a1.c1) then (
        some (decide (a1.c1 ≤ 268435456)))
      else
      some false)
    else
    some false) : Option Bool) = some r →
    F_shape_reaches a1 = some r := fun r h =>
  den_of (x := (X_shape_reaches a1)) injO_shape_reaches 1 (Lim.cong (fun n => fn46 n a1.c0 a1.c1) (by
      refine Lim.bif rfl ?_ ?_
      · refine Lim.bif rfl ?_ ?_
        · exact Lim.leaf rfl
        exact Lim.leaf rfl
      exact Lim.leaf rfl
    )) h
def G_shape_reaches (a1 : I2) : Bool :=
  bif decide (a1.c0 ≥ (-268435456)) then (
    bif decide (a1.c0 ≤ a1.c1) then (
      (decide (a1.c1 ≤ 268435456)))
    else
    false)
  else
  false
theorem F_shape_reaches_eq (a1 : I2) : F_shape_reaches a1 = some (G_shape_reaches a1) := F_shape_reaches_of a1 _ (by
  unfold G_shape_reaches
  refine Tot.bif ?_ ?_
  · refine Tot.bif ?_ ?_
    · rfl
    rfl
  rfl)

/-! armplan/shape.Placed -/
abbrev E_shape_Placed_0 : Type := (Bool) ⊕ ((List I6))
def enc_L_shape_Placed_0 : E_shape_Placed_0 → Ex × St
  | .inl e => (.ret, encSt S41_0_r ((e, ()), ()))
  | .inr e => (.exit 0, encSt S41_0_e0 (((List.map encI6 e), ()), ()))
theorem inj_L_shape_Placed_0 : ∀ a b, enc_L_shape_Placed_0 a = enc_L_shape_Placed_0 b → a = b := by
  rintro (a0 | a0) (b0 | b0) h <;> (first | (cases h; done) | (have h2 := encSt_inj rfl (Prod.mk.inj h).2; simp [map_inj encI6_inj] at h2; simp [h2]) | (have h2 := (Prod.mk.inj h).1; simp at h2) | rfl)
noncomputable abbrev X_L_shape_Placed_0 (v2 : List I6) (v3 : List I6) (v4 : Int) (v5 : Int) (n : Nat) : Option (Ex × St) := (lvl Try.prog HH n).1 ⟨41, 0, true⟩ 0 (loopOf Try.f41 0) (encSt S41_0 (((List.map encI6 v2), (List.map encI6 v3), v4, v5, ()), ()))
noncomputable def L_shape_Placed_0 (v2 : List I6) (v3 : List I6) (v4 : Int) (v5 : Int) : Option E_shape_Placed_0 := den enc_L_shape_Placed_0 (X_L_shape_Placed_0 v2 v3 v4 v5)
theorem L_shape_Placed_0_of (v2 : List I6) (v3 : List I6) (v4 : Int) (v5 : Int) : ∀ r, ((
    bif decide (v5 < v4) then (
      bif decide (0 ≤ v5) then (
        (nth v3 v5.toNat).bind fun x6 =>
        (F_shape_reaches ((I2.mk x6.c0 x6.c1))).bind fun y7 =>
        bif !y7 then (
          some (.inl false))
        else
        (F_shape_reaches ((I2.mk x6.c2 x6.c3))).bind fun y8 =>
        bif !y8 then (
          some (.inl false))
        else
        (F_shape_reaches ((I2.mk x6.c4 x6.c5))).bind fun y9 =>
        bif !y9 then (
          some (.inl false))
        else
        letIn (IntKind.wrap .i64 (v5 + 1) : Int) fun n10 =>
        L_shape_Placed_0 v2 v3 v4 n10)
      else
      none)
    else
    some (.inr v2)) : Option E_shape_Placed_0) = some r →
    L_shape_Placed_0 v2 v3 v4 v5 = some r := fun r h =>
  den_of (x := (X_L_shape_Placed_0 v2 v3 v4 v5)) inj_L_shape_Placed_0 1 (Lim.cong (fun n => loop41_0 n ((List.map encI6 v2)) ((List.map encI6 v3)) v4 v5) (by
      refine Lim.bif rfl ?_ ?_
      · refine Lim.bif rfl ?_ Lim.none_
        refine Lim.nth encI6 rfl rfl fun x6 => ?_
        refine Lim.bifT rfl ?_
        refine Lim.decC (x6.c0, x6.c1, x6.c2, x6.c3, x6.c4, x6.c5, ()) rfl ?_
        refine Lim.call o_shape_reaches (lim_shape_reaches 0 ((I2.mk x6.c0 x6.c1))) rfl rfl fun y7 => ?_
        refine Lim.bif rfl ?_ ?_
        · exact Lim.leaf rfl
        refine Lim.call o_shape_reaches (lim_shape_reaches 0 ((I2.mk x6.c2 x6.c3))) rfl rfl fun y8 => ?_
        refine Lim.bif rfl ?_ ?_
        · exact Lim.leaf rfl
        refine Lim.call o_shape_reaches (lim_shape_reaches 0 ((I2.mk x6.c4 x6.c5))) rfl rfl fun y9 => ?_
        refine Lim.bif rfl ?_ ?_
        · exact Lim.leaf rfl
        refine Lim.letIn rfl fun n10 => ?_
        exact Lim.loop 0 rfl
      exact Lim.leaf rfl
    )) h
abbrev o_shape_Placed (v : Bool) : VtsT outs41 × MtsT mouts41 := ((v, ()), ())
abbrev encO_shape_Placed (v : Bool) : R := (encR outs41 (o_shape_Placed v).1, encMts mouts41 (o_shape_Placed v).2)
theorem injO_shape_Placed : ∀ a b, encO_shape_Placed a = encO_shape_Placed b → a = b := by
  rintro a0 b0 h
  have h1 := encR_inj (Prod.mk.inj h).1
  have h2 := encMts_inj (Prod.mk.inj h).2
  simp [o_shape_Placed] at h1 h2
  simp [h1, h2]
noncomputable abbrev X_shape_Placed (l1 : List I6) (n : Nat) : Option R := (lvl Try.prog HH n).2 41 [.s (.one (.fr 6 (List.map encI6 l1)))] []
noncomputable def F_shape_Placed (l1 : List I6) : Option Bool := den encO_shape_Placed (X_shape_Placed l1)
theorem lim_shape_Placed (k : Nat) (l1 : List I6) : Lim (fun v => (encR outs41 (o_shape_Placed v).1, encMts mouts41 (o_shape_Placed v).2)) (fun n => (lvl Try.prog HH (n + k)).2 41 [.s (.one (.fr 6 (List.map encI6 l1)))] []) (F_shape_Placed l1) := Lim.den (x := (X_shape_Placed l1)) k
theorem F_shape_Placed_of (l1 : List I6) : ∀ r, ((
    (L_shape_Placed_0 l1 l1 (((l1.length : Nat) : Int)) 0).bind fun p11 =>
    match p11 with
    | .inl e12 => (
      some e12)
    | .inr e13 => (
      bif decide ((((e13.length : Nat) : Int)) ≥ 1) then (
        some (decide ((((e13.length : Nat) : Int)) ≤ 8)))
      else
      some false)) : Option Bool) = some r →
    F_shape_Placed l1 = some r := fun r h =>
  den_of (x := (X_shape_Placed l1)) injO_shape_Placed 1 (Lim.cong (fun n => fn41 n ((List.map encI6 l1))) (by
      refine Lim.bind (show Lim enc_L_shape_Placed_0 _ (L_shape_Placed_0 l1 l1 (((l1.length : Nat) : Int)) 0) from Lim.loop 0 (by first | with_reducible rfl | (simp [map_upd] <;> rfl) | rfl)) fun p11 => ?_
      rcases p11 with e12 | e13
      · refine Lim.exit (.ret) S41_0_r ((e12, ()), ()) rfl rfl rfl ?_
        exact Lim.leaf rfl
      · refine Lim.bifF rfl ?_
        refine Lim.exit (.exit 0) S41_0_e0 (((List.map encI6 e13), ()), ()) rfl rfl rfl ?_
        refine Lim.bif (by first | with_reducible rfl | (simp [map_upd] <;> rfl) | rfl) ?_ ?_
        · exact Lim.leaf (by first | rfl | (simp [o_shape_Placed, map_upd] <;> first | rfl | exact ⟨rfl, rfl⟩))
        exact Lim.leaf rfl
    )) h

/-! armplan/shape.Combine -/
abbrev E_shape_Combine_0 : Type := (Int × Bool × I6) ⊕ (Int × I6 × I6)
def enc_L_shape_Combine_0 : E_shape_Combine_0 → Ex × St
  | .inl e => (.ret, encSt S32_0_r (((), e.1, e.2.1, ()), ((e.2.2.c0, e.2.2.c1, e.2.2.c2, e.2.2.c3, e.2.2.c4, e.2.2.c5, ()), ())))
  | .inr e => (.exit 0, encSt S32_0_e0 (((), (), e.1, ()), ((e.2.1.c0, e.2.1.c1, e.2.1.c2, e.2.1.c3, e.2.1.c4, e.2.1.c5, ()), (e.2.2.c0, e.2.2.c1, e.2.2.c2, e.2.2.c3, e.2.2.c4, e.2.2.c5, ()), ())))
theorem inj_L_shape_Combine_0 : ∀ a b, enc_L_shape_Combine_0 a = enc_L_shape_Combine_0 b → a = b := by
  rintro (⟨a0, a1, ⟨a2, a3, a4, a5, a6, a7⟩⟩ | ⟨a0, ⟨a1, a2, a3, a4, a5, a6⟩, ⟨a7, a8, a9, a10, a11, a12⟩⟩) (⟨b0, b1, ⟨b2, b3, b4, b5, b6, b7⟩⟩ | ⟨b0, ⟨b1, b2, b3, b4, b5, b6⟩, ⟨b7, b8, b9, b10, b11, b12⟩⟩) h <;> (first | (cases h; done) | (have h2 := encSt_inj rfl (Prod.mk.inj h).2; simp [] at h2; simp [h2]) | (have h2 := (Prod.mk.inj h).1; simp at h2) | rfl)
abbrev E_shape_Combine_2 : Type := ((List I6) × Int × (List Int) × Int × Int × I6 × I6)
def enc_L_shape_Combine_2 (e : E_shape_Combine_2) : Ex × St := (.exit 2, encSt S32_2_e2 (((List.map encI6 e.1), (), (), e.2.1, (List.map encI e.2.2.1), e.2.2.2.1, e.2.2.2.2.1, ()), ((e.2.2.2.2.2.1.c0, e.2.2.2.2.2.1.c1, e.2.2.2.2.2.1.c2, e.2.2.2.2.2.1.c3, e.2.2.2.2.2.1.c4, e.2.2.2.2.2.1.c5, ()), (e.2.2.2.2.2.2.c0, e.2.2.2.2.2.2.c1, e.2.2.2.2.2.2.c2, e.2.2.2.2.2.2.c3, e.2.2.2.2.2.2.c4, e.2.2.2.2.2.2.c5, ()), ())))
theorem inj_L_shape_Combine_2 : ∀ a b, enc_L_shape_Combine_2 a = enc_L_shape_Combine_2 b → a = b := by
  rintro ⟨a0, a1, a2, a3, a4, ⟨a5, a6, a7, a8, a9, a10⟩, ⟨a11, a12, a13, a14, a15, a16⟩⟩ ⟨b0, b1, b2, b3, b4, ⟨b5, b6, b7, b8, b9, b10⟩, ⟨b11, b12, b13, b14, b15, b16⟩⟩ h
  first | (cases h; done) | (have h2 := encSt_inj rfl (Prod.mk.inj h).2; simp [map_inj encI6_inj, map_inj encI_inj] at h2; simp [h2]) | (have h2 := (Prod.mk.inj h).1; simp at h2) | rfl
noncomputable abbrev X_L_shape_Combine_0 (v4 : List I6) (v5 : Int) (v6 : List Int) (v7 : Int) (v8 : Int) (c9 : I6) (c10 : I6) (n : Nat) : Option (Ex × St) := (lvl Try.prog HH n).1 ⟨32, 0, true⟩ 0 (loopOf Try.f32 0) (encSt S32_0 (((List.map encI6 v4), (), (), v5, (List.map encI v6), v7, v8, ()), ((c9.c0, c9.c1, c9.c2, c9.c3, c9.c4, c9.c5, ()), (c10.c0, c10.c1, c10.c2, c10.c3, c10.c4, c10.c5, ()), ())))
noncomputable def L_shape_Combine_0 (v4 : List I6) (v5 : Int) (v6 : List Int) (v7 : Int) (v8 : Int) (c9 : I6) (c10 : I6) : Option E_shape_Combine_0 := den enc_L_shape_Combine_0 (X_L_shape_Combine_0 v4 v5 v6 v7 v8 c9 c10)
theorem L_shape_Combine_0_of (v4 : List I6) (v5 : Int) (v6 : List Int) (v7 : Int) (v8 : Int) (c9 : I6) (c10 : I6) : ∀ r, ((
    bif decide (v8 < v7) then (
      bif decide (0 ≤ v8) then (
        (nth v6 v8.toNat).bind fun x11 =>
        bif decide (x11 < 0) then (
          some (.inl ((0, false, (I6.mk 0 0 0 0 0 0)))))
        else
        bif decide (x11 > 65536) then (
          some (.inl ((0, false, (I6.mk 0 0 0 0 0 0)))))
        else
        letIn (IntKind.wrap .i64 (v5 + x11) : Int) fun n12 =>
        Option.bind (α := E_shape_Combine_2) (
          bif decide (0 ≤ v8) then (
            (nth v4 v8.toNat).bind fun x13 =>
            letIn (IntKind.wrap .i64 (x11 * x13.c0) : Int) fun n14 =>
            letIn (IntKind.wrap .i64 (c10.c0 + n14) : Int) fun n15 =>
            bif decide (0 ≤ v8) then (
              (nth v4 v8.toNat).bind fun x16 =>
              letIn (IntKind.wrap .i64 (x11 * x16.c1) : Int) fun n17 =>
              letIn (IntKind.wrap .i64 (c10.c1 + n17) : Int) fun n18 =>
              bif decide (0 ≤ v8) then (
                (nth v4 v8.toNat).bind fun x19 =>
                letIn (IntKind.wrap .i64 (x11 * x19.c2) : Int) fun n20 =>
                letIn (IntKind.wrap .i64 (c10.c2 + n20) : Int) fun n21 =>
                bif decide (0 ≤ v8) then (
                  (nth v4 v8.toNat).bind fun x22 =>
                  letIn (IntKind.wrap .i64 (x11 * x22.c3) : Int) fun n23 =>
                  letIn (IntKind.wrap .i64 (c10.c3 + n23) : Int) fun n24 =>
                  bif decide (0 ≤ v8) then (
                    (nth v4 v8.toNat).bind fun x25 =>
                    letIn (IntKind.wrap .i64 (x11 * x25.c4) : Int) fun n26 =>
                    letIn (IntKind.wrap .i64 (c10.c4 + n26) : Int) fun n27 =>
                    bif decide (0 ≤ v8) then (
                      (nth v4 v8.toNat).bind fun x28 =>
                      letIn (IntKind.wrap .i64 (x11 * x28.c5) : Int) fun n29 =>
                      letIn (IntKind.wrap .i64 (c10.c5 + n29) : Int) fun n30 =>
                      some ((v4, n12, v6, v7, v8, c9, (I6.mk n15 n18 n21 n24 n27 n30))))
                    else
                    none)
                  else
                  none)
                else
                none)
              else
              none)
            else
            none)
          else
          none) fun p31 =>
        letIn (IntKind.wrap .i64 (p31.2.2.2.2.1 + 1) : Int) fun n32 =>
        L_shape_Combine_0 p31.1 p31.2.1 p31.2.2.1 p31.2.2.2.1 n32 p31.2.2.2.2.2.1 p31.2.2.2.2.2.2)
      else
      none)
    else
    some (.inr ((v5, c9, (I6.mk c10.c0 c10.c1 c10.c2 c10.c3 c10.c4 c10.c5))))) : Option E_shape_Combine_0) = some r →
    L_shape_Combine_0 v4 v5 v6 v7 v8 c9 c10 = some r := fun r h =>
  den_of (x := (X_L_shape_Combine_0 v4 v5 v6 v7 v8 c9 c10)) inj_L_shape_Combine_0 5 (Lim.cong (fun n => loop32_0 n ((List.map encI6 v4)) v5 ((List.map encI v6)) v7 v8 c9.c0 c9.c1 c9.c2 c9.c3 c9.c4 c9.c5 c10.c0 c10.c1 c10.c2 c10.c3 c10.c4 c10.c5) (by
      refine Lim.bif rfl ?_ ?_
      · refine Lim.bif rfl ?_ Lim.none_
        refine Lim.nth encI rfl rfl fun x11 => ?_
        refine Lim.step rfl ?_
        refine Lim.step rfl ?_
        refine Lim.bif rfl ?_ ?_
        · exact Lim.leaf rfl
        refine Lim.bif rfl ?_ ?_
        · exact Lim.leaf rfl
        refine Lim.letIn rfl fun n12 => ?_
        refine Lim.bind (e := enc_L_shape_Combine_2) ?_ fun p31 => ?_
        · refine Lim.bif rfl ?_ Lim.none_
          refine Lim.nth encI6 rfl rfl fun x13 => ?_
          refine Lim.step rfl ?_
          refine Lim.step rfl ?_
          refine Lim.letIn rfl fun n14 => ?_
          refine Lim.letIn rfl fun n15 => ?_
          refine Lim.bif rfl ?_ Lim.none_
          refine Lim.nth encI6 rfl rfl fun x16 => ?_
          refine Lim.step rfl ?_
          refine Lim.step rfl ?_
          refine Lim.letIn rfl fun n17 => ?_
          refine Lim.letIn rfl fun n18 => ?_
          refine Lim.bif rfl ?_ Lim.none_
          refine Lim.nth encI6 rfl rfl fun x19 => ?_
          refine Lim.step rfl ?_
          refine Lim.step rfl ?_
          refine Lim.letIn rfl fun n20 => ?_
          refine Lim.letIn rfl fun n21 => ?_
          refine Lim.bif rfl ?_ Lim.none_
          refine Lim.nth encI6 rfl rfl fun x22 => ?_
          refine Lim.step rfl ?_
          refine Lim.step rfl ?_
          refine Lim.letIn rfl fun n23 => ?_
          refine Lim.letIn rfl fun n24 => ?_
          refine Lim.bif rfl ?_ Lim.none_
          refine Lim.nth encI6 rfl rfl fun x25 => ?_
          refine Lim.step rfl ?_
          refine Lim.step rfl ?_
          refine Lim.letIn rfl fun n26 => ?_
          refine Lim.letIn rfl fun n27 => ?_
          refine Lim.bif rfl ?_ Lim.none_
          refine Lim.nth encI6 rfl rfl fun x28 => ?_
          refine Lim.step rfl ?_
          refine Lim.step rfl ?_
          refine Lim.letIn rfl fun n29 => ?_
          refine Lim.letIn rfl fun n30 => ?_
          exact Lim.leaf rfl
        refine Lim.exit (.exit 2) S32_2_e2 (((List.map encI6 p31.1), (), (), p31.2.1, (List.map encI p31.2.2.1), p31.2.2.2.1, p31.2.2.2.2.1, ()), ((p31.2.2.2.2.2.1.c0, p31.2.2.2.2.2.1.c1, p31.2.2.2.2.2.1.c2, p31.2.2.2.2.2.1.c3, p31.2.2.2.2.2.1.c4, p31.2.2.2.2.2.1.c5, ()), (p31.2.2.2.2.2.2.c0, p31.2.2.2.2.2.2.c1, p31.2.2.2.2.2.2.c2, p31.2.2.2.2.2.2.c3, p31.2.2.2.2.2.2.c4, p31.2.2.2.2.2.2.c5, ()), ())) rfl rfl rfl ?_
        refine Lim.letIn rfl fun n32 => ?_
        exact Lim.loop 4 rfl
      exact Lim.leaf rfl
    )) h
abbrev o_shape_Combine (v : I6 × Int × Bool) : VtsT outs32 × MtsT mouts32 := (((v.1.c0, v.1.c1, v.1.c2, v.1.c3, v.1.c4, v.1.c5, ()), v.2.1, v.2.2, ()), ())
abbrev encO_shape_Combine (v : I6 × Int × Bool) : R := (encR outs32 (o_shape_Combine v).1, encMts mouts32 (o_shape_Combine v).2)
theorem injO_shape_Combine : ∀ a b, encO_shape_Combine a = encO_shape_Combine b → a = b := by
  rintro ⟨⟨a0, a1, a2, a3, a4, a5⟩, a6, a7⟩ ⟨⟨b0, b1, b2, b3, b4, b5⟩, b6, b7⟩ h
  have h1 := encR_inj (Prod.mk.inj h).1
  have h2 := encMts_inj (Prod.mk.inj h).2
  simp [o_shape_Combine] at h1 h2
  simp [h1, h2]
noncomputable abbrev X_shape_Combine (l1 : List I6) (weights2 : List Int) (n : Nat) : Option R := (lvl Try.prog HH n).2 32 [.s (.one (.fr 6 (List.map encI6 l1))), .s (.one (.fr 1 (List.map encI weights2)))] []
noncomputable def F_shape_Combine (l1 : List I6) (weights2 : List Int) : Option (I6 × Int × Bool) := den encO_shape_Combine (X_shape_Combine l1 weights2)
theorem lim_shape_Combine (k : Nat) (l1 : List I6) (weights2 : List Int) : Lim (fun v => (encR outs32 (o_shape_Combine v).1, encMts mouts32 (o_shape_Combine v).2)) (fun n => (lvl Try.prog HH (n + k)).2 32 [.s (.one (.fr 6 (List.map encI6 l1))), .s (.one (.fr 1 (List.map encI weights2)))] []) (F_shape_Combine l1 weights2) := Lim.den (x := (X_shape_Combine l1 weights2)) k
theorem F_shape_Combine_of (l1 : List I6) (weights2 : List Int) : ∀ r, ((
    (F_shape_Placed l1).bind fun y3 =>
    bif !y3 then (
      some ((I6.mk 0 0 0 0 0 0), 0, false))
    else
    bif (((weights2.length : Nat) : Int)) != (((l1.length : Nat) : Int)) then (
      some ((I6.mk 0 0 0 0 0 0), 0, false))
    else
    (L_shape_Combine_0 l1 0 weights2 (((weights2.length : Nat) : Int)) 0 ((I6.mk 0 0 0 0 0 0)) ((I6.mk 0 0 0 0 0 0))).bind fun p33 =>
    match p33 with
    | .inl e34 => (
      some (e34.2.2, e34.1, e34.2.1))
    | .inr e35 => (
      bif decide (e35.1 < 1) then (
        some ((I6.mk 0 0 0 0 0 0), 0, false))
      else
      bif decide (e35.1 > 65536) then (
        some ((I6.mk 0 0 0 0 0 0), 0, false))
      else
      some (e35.2.2, e35.1, true))) : Option (I6 × Int × Bool)) = some r →
    F_shape_Combine l1 weights2 = some r := fun r h =>
  den_of (x := (X_shape_Combine l1 weights2)) injO_shape_Combine 1 (Lim.cong (fun n => fn32 n ((List.map encI6 l1)) ((List.map encI weights2))) (by
      refine Lim.call o_shape_Placed (lim_shape_Placed 0 l1) rfl rfl fun y3 => ?_
      refine Lim.bif rfl ?_ ?_
      · exact Lim.leaf rfl
      refine Lim.bif (by first | with_reducible rfl | (simp [map_upd] <;> rfl) | rfl) ?_ ?_
      · exact Lim.leaf rfl
      refine Lim.bind (show Lim enc_L_shape_Combine_0 _ (L_shape_Combine_0 l1 0 weights2 (((weights2.length : Nat) : Int)) 0 ((I6.mk 0 0 0 0 0 0)) ((I6.mk 0 0 0 0 0 0))) from Lim.loop 0 (by first | with_reducible rfl | (simp [map_upd] <;> rfl) | rfl)) fun p33 => ?_
      rcases p33 with e34 | e35
      · refine Lim.exit (.ret) S32_0_r (((), e34.1, e34.2.1, ()), ((e34.2.2.c0, e34.2.2.c1, e34.2.2.c2, e34.2.2.c3, e34.2.2.c4, e34.2.2.c5, ()), ())) rfl rfl rfl ?_
        exact Lim.leaf rfl
      · refine Lim.bifF rfl ?_
        refine Lim.exit (.exit 0) S32_0_e0 (((), (), e35.1, ()), ((e35.2.1.c0, e35.2.1.c1, e35.2.1.c2, e35.2.1.c3, e35.2.1.c4, e35.2.1.c5, ()), (e35.2.2.c0, e35.2.2.c1, e35.2.2.c2, e35.2.2.c3, e35.2.2.c4, e35.2.2.c5, ()), ())) rfl rfl rfl ?_
        refine Lim.bif rfl ?_ ?_
        · exact Lim.leaf rfl
        refine Lim.bif rfl ?_ ?_
        · exact Lim.leaf rfl
        exact Lim.leaf rfl
    )) h

/-! armplan/overlap.greatest -/
abbrev E_overlap_greatest_0 : Type := (Int)
def enc_L_overlap_greatest_0 (e : E_overlap_greatest_0) : Ex × St := (.exit 0, encSt S33_0_e0 ((e, ()), ()))
theorem inj_L_overlap_greatest_0 : ∀ a b, enc_L_overlap_greatest_0 a = enc_L_overlap_greatest_0 b → a = b := by
  rintro a0 b0 h
  first | (cases h; done) | (have h2 := encSt_inj rfl (Prod.mk.inj h).2; simp [] at h2; simp [h2]) | (have h2 := (Prod.mk.inj h).1; simp at h2) | rfl
noncomputable abbrev X_L_overlap_greatest_0 (v2 : Int) (v3 : List Int) (v4 : Int) (v5 : Int) (n : Nat) : Option (Ex × St) := (lvl Try.prog HH n).1 ⟨33, 0, true⟩ 0 (loopOf Try.f33 0) (encSt S33_0 ((v2, (List.map encI v3), v4, v5, ()), ()))
noncomputable def L_overlap_greatest_0 (v2 : Int) (v3 : List Int) (v4 : Int) (v5 : Int) : Option E_overlap_greatest_0 := den enc_L_overlap_greatest_0 (X_L_overlap_greatest_0 v2 v3 v4 v5)
theorem L_overlap_greatest_0_of (v2 : Int) (v3 : List Int) (v4 : Int) (v5 : Int) : ∀ r, ((
    bif decide (v5 < v4) then (
      bif decide (0 ≤ v5) then (
        (nth v3 v5.toNat).bind fun x6 =>
        letIn (IntKind.wrap .i64 (0 - x6) : Int) fun n7 =>
        letIn (if x6 > v2 then x6 else v2 : Int) fun n8 =>
        letIn (if n7 > n8 then n7 else n8 : Int) fun n9 =>
        letIn (IntKind.wrap .i64 (v5 + 1) : Int) fun n10 =>
        L_overlap_greatest_0 n9 v3 v4 n10)
      else
      none)
    else
    some v2) : Option E_overlap_greatest_0) = some r →
    L_overlap_greatest_0 v2 v3 v4 v5 = some r := fun r h =>
  den_of (x := (X_L_overlap_greatest_0 v2 v3 v4 v5)) inj_L_overlap_greatest_0 1 (Lim.cong (fun n => loop33_0 n v2 ((List.map encI v3)) v4 v5) (by
      refine Lim.bif rfl ?_ ?_
      · refine Lim.bif rfl ?_ Lim.none_
        refine Lim.nth encI rfl rfl fun x6 => ?_
        refine Lim.step rfl ?_
        refine Lim.step rfl ?_
        refine Lim.letIn rfl fun n7 => ?_
        refine Lim.letIn rfl fun n8 => ?_
        refine Lim.letIn rfl fun n9 => ?_
        refine Lim.letIn rfl fun n10 => ?_
        exact Lim.loop 0 rfl
      exact Lim.leaf rfl
    )) h
abbrev o_overlap_greatest (v : Int) : VtsT outs33 × MtsT mouts33 := ((v, ()), ())
abbrev encO_overlap_greatest (v : Int) : R := (encR outs33 (o_overlap_greatest v).1, encMts mouts33 (o_overlap_greatest v).2)
theorem injO_overlap_greatest : ∀ a b, encO_overlap_greatest a = encO_overlap_greatest b → a = b := by
  rintro a0 b0 h
  have h1 := encR_inj (Prod.mk.inj h).1
  have h2 := encMts_inj (Prod.mk.inj h).2
  simp [o_overlap_greatest] at h1 h2
  simp [h1, h2]
noncomputable abbrev X_overlap_greatest (l1 : List Int) (n : Nat) : Option R := (lvl Try.prog HH n).2 33 [.s (.one (.fr 1 (List.map encI l1)))] []
noncomputable def F_overlap_greatest (l1 : List Int) : Option Int := den encO_overlap_greatest (X_overlap_greatest l1)
theorem lim_overlap_greatest (k : Nat) (l1 : List Int) : Lim (fun v => (encR outs33 (o_overlap_greatest v).1, encMts mouts33 (o_overlap_greatest v).2)) (fun n => (lvl Try.prog HH (n + k)).2 33 [.s (.one (.fr 1 (List.map encI l1)))] []) (F_overlap_greatest l1) := Lim.den (x := (X_overlap_greatest l1)) k
theorem F_overlap_greatest_of (l1 : List Int) : ∀ r, ((
    (L_overlap_greatest_0 0 l1 (((l1.length : Nat) : Int)) 0).bind fun p11 =>
    some p11) : Option Int) = some r →
    F_overlap_greatest l1 = some r := fun r h =>
  den_of (x := (X_overlap_greatest l1)) injO_overlap_greatest 1 (Lim.cong (fun n => fn33 n ((List.map encI l1))) (by
      refine Lim.bind (show Lim enc_L_overlap_greatest_0 _ (L_overlap_greatest_0 0 l1 (((l1.length : Nat) : Int)) 0) from Lim.loop 0 (by first | with_reducible rfl | (simp [map_upd] <;> rfl) | rfl)) fun p11 => ?_
      refine Lim.exit (.exit 0) S33_0_e0 ((p11, ()), ()) rfl rfl rfl ?_
      exact Lim.leaf rfl
    )) h

/-! armplan/overlap.Excess -/
abbrev E_overlap_Excess_0 : Type := (Int × Bool) ⊕ (Int)
def enc_L_overlap_Excess_0 : E_overlap_Excess_0 → Ex × St
  | .inl e => (.ret, encSt S16_0_r ((e.1, e.2, ()), ()))
  | .inr e => (.exit 0, encSt S16_0_e0 ((e, ()), ()))
theorem inj_L_overlap_Excess_0 : ∀ a b, enc_L_overlap_Excess_0 a = enc_L_overlap_Excess_0 b → a = b := by
  rintro (⟨a0, a1⟩ | a0) (⟨b0, b1⟩ | b0) h <;> (first | (cases h; done) | (have h2 := encSt_inj rfl (Prod.mk.inj h).2; simp [] at h2; simp [h2]) | (have h2 := (Prod.mk.inj h).1; simp at h2) | rfl)
abbrev o_overlap_Excess (v : Int × Bool) : VtsT outs16 × MtsT mouts16 := ((v.1, v.2, ()), ())
abbrev encO_overlap_Excess (v : Int × Bool) : R := (encR outs16 (o_overlap_Excess v).1, encMts mouts16 (o_overlap_Excess v).2)
theorem injO_overlap_Excess : ∀ a b, encO_overlap_Excess a = encO_overlap_Excess b → a = b := by
  rintro ⟨a0, a1⟩ ⟨b0, b1⟩ h
  have h1 := encR_inj (Prod.mk.inj h).1
  have h2 := encMts_inj (Prod.mk.inj h).2
  simp [o_overlap_Excess] at h1 h2
  simp [h1, h2]
noncomputable abbrev X_overlap_Excess (left1 : List Int) (right2 : List Int) (a3 : List I6) (ra4 : Int) (b5 : List I6) (rb6 : Int) (n : Nat) : Option R := (lvl Try.prog HH n).2 16 [.s (.one (.fr 1 (List.map encI left1))), .s (.one (.fr 1 (List.map encI right2))), .s (.one (.fr 6 (List.map encI6 a3))), .s (.one (.v (.int .i64 ra4))), .s (.one (.fr 6 (List.map encI6 b5))), .s (.one (.v (.int .i64 rb6)))] []
noncomputable def F_overlap_Excess (left1 : List Int) (right2 : List Int) (a3 : List I6) (ra4 : Int) (b5 : List I6) (rb6 : Int) : Option (Int × Bool) := den encO_overlap_Excess (X_overlap_Excess left1 right2 a3 ra4 b5 rb6)
theorem lim_overlap_Excess (k : Nat) (left1 : List Int) (right2 : List Int) (a3 : List I6) (ra4 : Int) (b5 : List I6) (rb6 : Int) : Lim (fun v => (encR outs16 (o_overlap_Excess v).1, encMts mouts16 (o_overlap_Excess v).2)) (fun n => (lvl Try.prog HH (n + k)).2 16 [.s (.one (.fr 1 (List.map encI left1))), .s (.one (.fr 1 (List.map encI right2))), .s (.one (.fr 6 (List.map encI6 a3))), .s (.one (.v (.int .i64 ra4))), .s (.one (.fr 6 (List.map encI6 b5))), .s (.one (.v (.int .i64 rb6)))] []) (F_overlap_Excess left1 right2 a3 ra4 b5 rb6) := Lim.den (x := (X_overlap_Excess left1 right2 a3 ra4 b5 rb6)) k
theorem F_overlap_Excess_of (left1 : List Int) (right2 : List Int) (a3 : List I6) (ra4 : Int) (b5 : List I6) (rb6 : Int) : ∀ r, ((
    (F_shape_Combine a3 left1).bind fun y7 =>
    (F_shape_Combine b5 right2).bind fun y8 =>
    bif !y7.2.2 then (
      some (0, false))
    else
    bif !y8.2.2 then (
      some (0, false))
    else
    bif y7.2.1 != y8.2.1 then (
      some (0, false))
    else
    bif decide (ra4 < 0) then (
      some (0, false))
    else
    bif decide (ra4 > 1048576) then (
      some (0, false))
    else
    bif decide (rb6 < 0) then (
      some (0, false))
    else
    bif decide (rb6 > 1048576) then (
      some (0, false))
    else
    letIn (IntKind.wrap .i64 (ra4 + rb6) : Int) fun n9 =>
    letIn (IntKind.wrap .i64 (n9 * n9) : Int) fun n10 =>
    Option.bind (α := E_overlap_Excess_0) (
      letIn (IntKind.wrap .i64 (y7.1.c0 - y8.1.c1) : Int) fun n11 =>
      letIn (IntKind.wrap .i64 (y7.1.c1 - y8.1.c0) : Int) fun n12 =>
      (F_overlap_greatest [n11, n12]).bind fun y13 =>
      letIn (IntKind.wrap .i64 (y13 + y7.2.1) : Int) fun n14 =>
      letIn (IntKind.wrap .i64 (n14 - 1) : Int) fun n15 =>
      bif y7.2.1 == 0 then (
        none)
      else
      letIn (IntKind.wrap .i64 (Int.tdiv n15 y7.2.1) : Int) fun n16 =>
      bif decide (n16 > n9) then (
        some (.inl (((-1), true))))
      else
      letIn (IntKind.wrap .i64 (n16 * n16) : Int) fun n17 =>
      letIn (IntKind.wrap .i64 (n10 - n17) : Int) fun n18 =>
      letIn (IntKind.wrap .i64 (y7.1.c2 - y8.1.c3) : Int) fun n19 =>
      letIn (IntKind.wrap .i64 (y7.1.c3 - y8.1.c2) : Int) fun n20 =>
      (F_overlap_greatest [n19, n20]).bind fun y21 =>
      letIn (IntKind.wrap .i64 (y21 + y7.2.1) : Int) fun n22 =>
      letIn (IntKind.wrap .i64 (n22 - 1) : Int) fun n23 =>
      bif y7.2.1 == 0 then (
        none)
      else
      letIn (IntKind.wrap .i64 (Int.tdiv n23 y7.2.1) : Int) fun n24 =>
      bif decide (n24 > n9) then (
        some (.inl (((-1), true))))
      else
      letIn (IntKind.wrap .i64 (n24 * n24) : Int) fun n25 =>
      letIn (IntKind.wrap .i64 (n18 - n25) : Int) fun n26 =>
      letIn (IntKind.wrap .i64 (y7.1.c4 - y8.1.c5) : Int) fun n27 =>
      letIn (IntKind.wrap .i64 (y7.1.c5 - y8.1.c4) : Int) fun n28 =>
      (F_overlap_greatest [n27, n28]).bind fun y29 =>
      letIn (IntKind.wrap .i64 (y29 + y7.2.1) : Int) fun n30 =>
      letIn (IntKind.wrap .i64 (n30 - 1) : Int) fun n31 =>
      bif y7.2.1 == 0 then (
        none)
      else
      letIn (IntKind.wrap .i64 (Int.tdiv n31 y7.2.1) : Int) fun n32 =>
      bif decide (n32 > n9) then (
        some (.inl (((-1), true))))
      else
      letIn (IntKind.wrap .i64 (n32 * n32) : Int) fun n33 =>
      letIn (IntKind.wrap .i64 (n26 - n33) : Int) fun n34 =>
      some (.inr n34)) fun p35 =>
    match p35 with
    | .inl e36 => (
      some (e36.1, e36.2))
    | .inr e37 => (
      some (e37, true))) : Option (Int × Bool)) = some r →
    F_overlap_Excess left1 right2 a3 ra4 b5 rb6 = some r := fun r h =>
  den_of (x := (X_overlap_Excess left1 right2 a3 ra4 b5 rb6)) injO_overlap_Excess 5 (Lim.cong (fun n => fn16 n ((List.map encI left1)) ((List.map encI right2)) ((List.map encI6 a3)) ra4 ((List.map encI6 b5)) rb6) (by
      refine Lim.call o_shape_Combine (lim_shape_Combine 4 a3 left1) rfl rfl fun y7 => ?_
      refine Lim.call o_shape_Combine (lim_shape_Combine 4 b5 right2) rfl rfl fun y8 => ?_
      refine Lim.bif rfl ?_ ?_
      · exact Lim.leaf rfl
      refine Lim.bif rfl ?_ ?_
      · exact Lim.leaf rfl
      refine Lim.bif rfl ?_ ?_
      · exact Lim.leaf rfl
      refine Lim.bif rfl ?_ ?_
      · exact Lim.leaf rfl
      refine Lim.bif rfl ?_ ?_
      · exact Lim.leaf rfl
      refine Lim.bif rfl ?_ ?_
      · exact Lim.leaf rfl
      refine Lim.bif rfl ?_ ?_
      · exact Lim.leaf rfl
      refine Lim.letIn rfl fun n9 => ?_
      refine Lim.letIn rfl fun n10 => ?_
      refine Lim.bind (e := enc_L_overlap_Excess_0) ?_ fun p35 => ?_
      · refine Lim.letIn rfl fun n11 => ?_
        refine Lim.letIn rfl fun n12 => ?_
        refine Lim.call o_overlap_greatest (lim_overlap_greatest 3 [n11, n12]) (by first | with_reducible rfl | (simp [map_upd, o_shape_Combine] <;> rfl) | (simp only [List.map_append, List.map_cons, List.map_nil, List.map_take, List.map_drop, map_upd, List.map_replicate, List.length_map, o_shape_Combine] <;> rfl) | (simp only [List.map_append, List.map_cons, List.map_nil, List.map_take, List.map_drop, map_upd, List.map_replicate, List.length_map, List.length_append, List.length_cons, List.length_nil, o_shape_Combine] <;> rfl) | rfl) (by first | with_reducible rfl | (simp [map_upd, o_shape_Combine] <;> rfl) | (simp only [List.map_append, List.map_cons, List.map_nil, List.map_take, List.map_drop, map_upd, List.map_replicate, List.length_map, o_shape_Combine] <;> rfl) | (simp only [List.map_append, List.map_cons, List.map_nil, List.map_take, List.map_drop, map_upd, List.map_replicate, List.length_map, List.length_append, List.length_cons, List.length_nil, o_shape_Combine] <;> rfl) | rfl) fun y13 => ?_
        refine Lim.letIn rfl fun n14 => ?_
        refine Lim.letIn rfl fun n15 => ?_
        refine Lim.bif rfl Lim.none_ ?_
        refine Lim.letIn rfl fun n16 => ?_
        refine Lim.bif rfl ?_ ?_
        · exact Lim.leaf rfl
        refine Lim.letIn rfl fun n17 => ?_
        refine Lim.letIn rfl fun n18 => ?_
        refine Lim.letIn rfl fun n19 => ?_
        refine Lim.letIn rfl fun n20 => ?_
        refine Lim.call o_overlap_greatest (lim_overlap_greatest 2 [n19, n20]) (by first | with_reducible rfl | (simp [map_upd, o_shape_Combine] <;> rfl) | (simp only [List.map_append, List.map_cons, List.map_nil, List.map_take, List.map_drop, map_upd, List.map_replicate, List.length_map, o_shape_Combine] <;> rfl) | (simp only [List.map_append, List.map_cons, List.map_nil, List.map_take, List.map_drop, map_upd, List.map_replicate, List.length_map, List.length_append, List.length_cons, List.length_nil, o_shape_Combine] <;> rfl) | rfl) (by first | with_reducible rfl | (simp [map_upd, o_shape_Combine] <;> rfl) | (simp only [List.map_append, List.map_cons, List.map_nil, List.map_take, List.map_drop, map_upd, List.map_replicate, List.length_map, o_shape_Combine] <;> rfl) | (simp only [List.map_append, List.map_cons, List.map_nil, List.map_take, List.map_drop, map_upd, List.map_replicate, List.length_map, List.length_append, List.length_cons, List.length_nil, o_shape_Combine] <;> rfl) | rfl) fun y21 => ?_
        refine Lim.letIn rfl fun n22 => ?_
        refine Lim.letIn rfl fun n23 => ?_
        refine Lim.bif rfl Lim.none_ ?_
        refine Lim.letIn rfl fun n24 => ?_
        refine Lim.bif rfl ?_ ?_
        · exact Lim.leaf rfl
        refine Lim.letIn rfl fun n25 => ?_
        refine Lim.letIn rfl fun n26 => ?_
        refine Lim.letIn rfl fun n27 => ?_
        refine Lim.letIn rfl fun n28 => ?_
        refine Lim.call o_overlap_greatest (lim_overlap_greatest 1 [n27, n28]) (by first | with_reducible rfl | (simp [map_upd, o_shape_Combine] <;> rfl) | (simp only [List.map_append, List.map_cons, List.map_nil, List.map_take, List.map_drop, map_upd, List.map_replicate, List.length_map, o_shape_Combine] <;> rfl) | (simp only [List.map_append, List.map_cons, List.map_nil, List.map_take, List.map_drop, map_upd, List.map_replicate, List.length_map, List.length_append, List.length_cons, List.length_nil, o_shape_Combine] <;> rfl) | rfl) (by first | with_reducible rfl | (simp [map_upd, o_shape_Combine] <;> rfl) | (simp only [List.map_append, List.map_cons, List.map_nil, List.map_take, List.map_drop, map_upd, List.map_replicate, List.length_map, o_shape_Combine] <;> rfl) | (simp only [List.map_append, List.map_cons, List.map_nil, List.map_take, List.map_drop, map_upd, List.map_replicate, List.length_map, List.length_append, List.length_cons, List.length_nil, o_shape_Combine] <;> rfl) | rfl) fun y29 => ?_
        refine Lim.letIn rfl fun n30 => ?_
        refine Lim.letIn rfl fun n31 => ?_
        refine Lim.bif rfl Lim.none_ ?_
        refine Lim.letIn rfl fun n32 => ?_
        refine Lim.bif rfl ?_ ?_
        · exact Lim.leaf rfl
        refine Lim.letIn rfl fun n33 => ?_
        refine Lim.letIn rfl fun n34 => ?_
        exact Lim.leaf rfl
      rcases p35 with e36 | e37
      · refine Lim.exit (.ret) S16_0_r ((e36.1, e36.2, ()), ()) rfl rfl rfl ?_
        exact Lim.leaf rfl
      · refine Lim.bifF rfl ?_
        refine Lim.exit (.exit 0) S16_0_e0 ((e37, ()), ()) rfl rfl rfl ?_
        exact Lim.leaf rfl
    )) h

/-! armplan/overlap.Overlaps -/
abbrev o_overlap_Overlaps (v : Bool) : VtsT outs17 × MtsT mouts17 := ((v, ()), ())
abbrev encO_overlap_Overlaps (v : Bool) : R := (encR outs17 (o_overlap_Overlaps v).1, encMts mouts17 (o_overlap_Overlaps v).2)
theorem injO_overlap_Overlaps : ∀ a b, encO_overlap_Overlaps a = encO_overlap_Overlaps b → a = b := by
  rintro a0 b0 h
  have h1 := encR_inj (Prod.mk.inj h).1
  have h2 := encMts_inj (Prod.mk.inj h).2
  simp [o_overlap_Overlaps] at h1 h2
  simp [h1, h2]
noncomputable abbrev X_overlap_Overlaps (left1 : List Int) (right2 : List Int) (a3 : List I6) (ra4 : Int) (b5 : List I6) (rb6 : Int) (n : Nat) : Option R := (lvl Try.prog HH n).2 17 [.s (.one (.fr 1 (List.map encI left1))), .s (.one (.fr 1 (List.map encI right2))), .s (.one (.fr 6 (List.map encI6 a3))), .s (.one (.v (.int .i64 ra4))), .s (.one (.fr 6 (List.map encI6 b5))), .s (.one (.v (.int .i64 rb6)))] []
noncomputable def F_overlap_Overlaps (left1 : List Int) (right2 : List Int) (a3 : List I6) (ra4 : Int) (b5 : List I6) (rb6 : Int) : Option Bool := den encO_overlap_Overlaps (X_overlap_Overlaps left1 right2 a3 ra4 b5 rb6)
theorem lim_overlap_Overlaps (k : Nat) (left1 : List Int) (right2 : List Int) (a3 : List I6) (ra4 : Int) (b5 : List I6) (rb6 : Int) : Lim (fun v => (encR outs17 (o_overlap_Overlaps v).1, encMts mouts17 (o_overlap_Overlaps v).2)) (fun n => (lvl Try.prog HH (n + k)).2 17 [.s (.one (.fr 1 (List.map encI left1))), .s (.one (.fr 1 (List.map encI right2))), .s (.one (.fr 6 (List.map encI6 a3))), .s (.one (.v (.int .i64 ra4))), .s (.one (.fr 6 (List.map encI6 b5))), .s (.one (.v (.int .i64 rb6)))] []) (F_overlap_Overlaps left1 right2 a3 ra4 b5 rb6) := Lim.den (x := (X_overlap_Overlaps left1 right2 a3 ra4 b5 rb6)) k
theorem F_overlap_Overlaps_of (left1 : List Int) (right2 : List Int) (a3 : List I6) (ra4 : Int) (b5 : List I6) (rb6 : Int) : ∀ r, ((
    (F_overlap_Excess left1 right2 a3 ra4 b5 rb6).bind fun y7 =>
    bif y7.2 then (
      some (decide (y7.1 ≥ 0)))
    else
    some false) : Option Bool) = some r →
    F_overlap_Overlaps left1 right2 a3 ra4 b5 rb6 = some r := fun r h =>
  den_of (x := (X_overlap_Overlaps left1 right2 a3 ra4 b5 rb6)) injO_overlap_Overlaps 1 (Lim.cong (fun n => fn17 n ((List.map encI left1)) ((List.map encI right2)) ((List.map encI6 a3)) ra4 ((List.map encI6 b5)) rb6) (by
      refine Lim.call o_overlap_Excess (lim_overlap_Excess 0 left1 right2 a3 ra4 b5 rb6) rfl rfl fun y7 => ?_
      refine Lim.bif rfl ?_ ?_
      · exact Lim.leaf rfl
      exact Lim.leaf rfl
    )) h

/-! armplan/armplanlaw16.awake -/
abbrev o_law16_awake (v : Bool) : VtsT outs12 × MtsT mouts12 := ((v, ()), ())
abbrev encO_law16_awake (v : Bool) : R := (encR outs12 (o_law16_awake v).1, encMts mouts12 (o_law16_awake v).2)
theorem injO_law16_awake : ∀ a b, encO_law16_awake a = encO_law16_awake b → a = b := by
  rintro a0 b0 h
  have h1 := encR_inj (Prod.mk.inj h).1
  have h2 := encMts_inj (Prod.mk.inj h).2
  simp [o_law16_awake] at h1 h2
  simp [h1, h2]
noncomputable abbrev X_law16_awake  (n : Nat) : Option R := (lvl Try.prog HH n).2 12 [] []
noncomputable def F_law16_awake  : Option Bool := den encO_law16_awake X_law16_awake
theorem lim_law16_awake (k : Nat)  : Lim (fun v => (encR outs12 (o_law16_awake v).1, encMts mouts12 (o_law16_awake v).2)) (fun n => (lvl Try.prog HH (n + k)).2 12 [] []) (F_law16_awake) := Lim.den (x := X_law16_awake) k
theorem F_law16_awake_of  : ∀ r, ((
    (F_make_Boxed [(I3.mk 0 0 0)]).bind fun y1 =>
    (F_overlap_Excess [1] [1] y1 3 [(I6.mk 3 4 0 0 0 0)] 1).bind fun y2 =>
    (F_overlap_Excess [1] [1] y1 3 [(I6.mk 3 4 0 0 0 0)] 0).bind fun y3 =>
    bif y2.2 then (
      bif y3.2 then (
        bif y2.1 == 0 then (
          bif y3.1 == (-1) then (
            (F_overlap_Overlaps [1] [1] y1 3 [(I6.mk 3 4 0 0 0 0)] 1).bind fun y4 =>
            some y4)
          else
          some false)
        else
        some false)
      else
      some false)
    else
    some false) : Option Bool) = some r →
    F_law16_awake = some r := fun r h =>
  den_of (x := X_law16_awake) injO_law16_awake 1 (Lim.cong (fun n => fn12 n ) (by
      refine Lim.call o_make_Boxed (lim_make_Boxed 0 [(I3.mk 0 0 0)]) (by first | with_reducible rfl | (simp [map_upd, o_make_Boxed] <;> rfl) | (simp only [List.map_append, List.map_cons, List.map_nil, List.map_take, List.map_drop, map_upd, List.map_replicate, List.length_map, o_make_Boxed] <;> rfl) | (simp only [List.map_append, List.map_cons, List.map_nil, List.map_take, List.map_drop, map_upd, List.map_replicate, List.length_map, List.length_append, List.length_cons, List.length_nil, o_make_Boxed] <;> rfl) | rfl) (by first | with_reducible rfl | (simp [map_upd, o_make_Boxed] <;> rfl) | (simp only [List.map_append, List.map_cons, List.map_nil, List.map_take, List.map_drop, map_upd, List.map_replicate, List.length_map, o_make_Boxed] <;> rfl) | (simp only [List.map_append, List.map_cons, List.map_nil, List.map_take, List.map_drop, map_upd, List.map_replicate, List.length_map, List.length_append, List.length_cons, List.length_nil, o_make_Boxed] <;> rfl) | rfl) fun y1 => ?_
      refine Lim.call o_overlap_Excess (lim_overlap_Excess 0 [1] [1] y1 3 [(I6.mk 3 4 0 0 0 0)] 1) (by first | with_reducible rfl | (simp [map_upd, o_make_Boxed] <;> rfl) | (simp only [List.map_append, List.map_cons, List.map_nil, List.map_take, List.map_drop, map_upd, List.map_replicate, List.length_map, o_make_Boxed] <;> rfl) | (simp only [List.map_append, List.map_cons, List.map_nil, List.map_take, List.map_drop, map_upd, List.map_replicate, List.length_map, List.length_append, List.length_cons, List.length_nil, o_make_Boxed] <;> rfl) | rfl) (by first | with_reducible rfl | (simp [map_upd, o_make_Boxed] <;> rfl) | (simp only [List.map_append, List.map_cons, List.map_nil, List.map_take, List.map_drop, map_upd, List.map_replicate, List.length_map, o_make_Boxed] <;> rfl) | (simp only [List.map_append, List.map_cons, List.map_nil, List.map_take, List.map_drop, map_upd, List.map_replicate, List.length_map, List.length_append, List.length_cons, List.length_nil, o_make_Boxed] <;> rfl) | rfl) fun y2 => ?_
      refine Lim.call o_overlap_Excess (lim_overlap_Excess 0 [1] [1] y1 3 [(I6.mk 3 4 0 0 0 0)] 0) (by first | with_reducible rfl | (simp [map_upd, o_make_Boxed] <;> rfl) | (simp only [List.map_append, List.map_cons, List.map_nil, List.map_take, List.map_drop, map_upd, List.map_replicate, List.length_map, o_make_Boxed] <;> rfl) | (simp only [List.map_append, List.map_cons, List.map_nil, List.map_take, List.map_drop, map_upd, List.map_replicate, List.length_map, List.length_append, List.length_cons, List.length_nil, o_make_Boxed] <;> rfl) | rfl) (by first | with_reducible rfl | (simp [map_upd, o_make_Boxed] <;> rfl) | (simp only [List.map_append, List.map_cons, List.map_nil, List.map_take, List.map_drop, map_upd, List.map_replicate, List.length_map, o_make_Boxed] <;> rfl) | (simp only [List.map_append, List.map_cons, List.map_nil, List.map_take, List.map_drop, map_upd, List.map_replicate, List.length_map, List.length_append, List.length_cons, List.length_nil, o_make_Boxed] <;> rfl) | rfl) fun y3 => ?_
      refine Lim.bif rfl ?_ ?_
      · refine Lim.bif rfl ?_ ?_
        · refine Lim.bif rfl ?_ ?_
          · refine Lim.bif rfl ?_ ?_
            · refine Lim.call o_overlap_Overlaps (lim_overlap_Overlaps 0 [1] [1] y1 3 [(I6.mk 3 4 0 0 0 0)] 1) (by first | with_reducible rfl | (simp [map_upd, o_make_Boxed] <;> rfl) | (simp only [List.map_append, List.map_cons, List.map_nil, List.map_take, List.map_drop, map_upd, List.map_replicate, List.length_map, o_make_Boxed] <;> rfl) | (simp only [List.map_append, List.map_cons, List.map_nil, List.map_take, List.map_drop, map_upd, List.map_replicate, List.length_map, List.length_append, List.length_cons, List.length_nil, o_make_Boxed] <;> rfl) | rfl) (by first | with_reducible rfl | (simp [map_upd, o_make_Boxed] <;> rfl) | (simp only [List.map_append, List.map_cons, List.map_nil, List.map_take, List.map_drop, map_upd, List.map_replicate, List.length_map, o_make_Boxed] <;> rfl) | (simp only [List.map_append, List.map_cons, List.map_nil, List.map_take, List.map_drop, map_upd, List.map_replicate, List.length_map, List.length_append, List.length_cons, List.length_nil, o_make_Boxed] <;> rfl) | rfl) fun y4 => ?_
              exact Lim.leaf rfl
            exact Lim.leaf rfl
          exact Lim.leaf rfl
        exact Lim.leaf rfl
      exact Lim.leaf rfl
    )) h

/-! armplan/armplanlaw16.radius -/
abbrev o_law16_radius (v : Int) : VtsT outs14 × MtsT mouts14 := ((v, ()), ())
abbrev encO_law16_radius (v : Int) : R := (encR outs14 (o_law16_radius v).1, encMts mouts14 (o_law16_radius v).2)
theorem injO_law16_radius : ∀ a b, encO_law16_radius a = encO_law16_radius b → a = b := by
  rintro a0 b0 h
  have h1 := encR_inj (Prod.mk.inj h).1
  have h2 := encMts_inj (Prod.mk.inj h).2
  simp [o_law16_radius] at h1 h2
  simp [h1, h2]
noncomputable abbrev X_law16_radius (r1 : Int) (n : Nat) : Option R := (lvl Try.prog HH n).2 14 [.s (.one (.v (.int .i64 r1)))] []
noncomputable def F_law16_radius (r1 : Int) : Option Int := den encO_law16_radius (X_law16_radius r1)
theorem lim_law16_radius (k : Nat) (r1 : Int) : Lim (fun v => (encR outs14 (o_law16_radius v).1, encMts mouts14 (o_law16_radius v).2)) (fun n => (lvl Try.prog HH (n + k)).2 14 [.s (.one (.v (.int .i64 r1)))] []) (F_law16_radius r1) := Lim.den (x := (X_law16_radius r1)) k
theorem F_law16_radius_of (r1 : Int) : ∀ r, ((
    letIn (Int.fdiv r1 4 : Int) fun n2 =>
    letIn (IntKind.wrap .i64 ((BitVec.ofInt 64 r1 &&& BitVec.ofInt 64 3).toNat : Nat) : Int) fun n3 =>
    bif (decide (0 ≤ n3)) && (decide (n3 < 4)) then (
      (nth ([.v (.int .i64 1), .v (.int .i64 30000), .v (.int .i64 200000), .v (.int .i64 1048577)] : List D1) (n3.toNat * 1)).bind fun d4 =>
      (asInt? .i64 d4).bind fun n5 =>
      (F_make_Round n2 n5).bind fun y6 =>
      some y6)
    else
    none) : Option Int) = some r →
    F_law16_radius r1 = some r := fun r h =>
  den_of (x := (X_law16_radius r1)) injO_law16_radius 1 (Lim.cong (fun n => fn14 n r1) (by
      refine Lim.letIn rfl fun n2 => ?_
      refine Lim.letIn rfl fun n3 => ?_
      refine Lim.bif rfl ?_ Lim.none_
      refine Lim.raw rfl fun d4 => ?_
      refine Lim.raw rfl fun n5 => ?_
      refine Lim.call o_make_Round (lim_make_Round 0 n2 n5) rfl rfl fun y6 => ?_
      exact Lim.leaf rfl
    )) h

/-! armplan/support.fits -/
abbrev E_support_fits_0 : Type := (Bool) ⊕ (Unit)
def enc_L_support_fits_0 : E_support_fits_0 → Ex × St
  | .inl e => (.ret, encSt S54_0_r ((e, ()), ()))
  | .inr e => (.exit 0, encSt S54_0_e0 ((), ()))
theorem inj_L_support_fits_0 : ∀ a b, enc_L_support_fits_0 a = enc_L_support_fits_0 b → a = b := by
  rintro (a0 | _) (b0 | _) h <;> (first | (cases h; done) | (have h2 := encSt_inj rfl (Prod.mk.inj h).2; simp [] at h2; simp [h2]) | (have h2 := (Prod.mk.inj h).1; simp at h2) | rfl)
abbrev o_support_fits (v : Bool) : VtsT outs54 × MtsT mouts54 := ((v, ()), ())
abbrev encO_support_fits (v : Bool) : R := (encR outs54 (o_support_fits v).1, encMts mouts54 (o_support_fits v).2)
theorem injO_support_fits : ∀ a b, encO_support_fits a = encO_support_fits b → a = b := by
  rintro a0 b0 h
  have h1 := encR_inj (Prod.mk.inj h).1
  have h2 := encMts_inj (Prod.mk.inj h).2
  simp [o_support_fits] at h1 h2
  simp [h1, h2]
noncomputable abbrev X_support_fits (v1 : I3) (n : Nat) : Option R := (lvl Try.prog HH n).2 54 [.s (.agg true [.v (.int .i64 v1.c0), .v (.int .i64 v1.c1), .v (.int .i64 v1.c2)])] []
noncomputable def F_support_fits (v1 : I3) : Option Bool := den encO_support_fits (X_support_fits v1)
theorem lim_support_fits (k : Nat) (v1 : I3) : Lim (fun v => (encR outs54 (o_support_fits v).1, encMts mouts54 (o_support_fits v).2)) (fun n => (lvl Try.prog HH (n + k)).2 54 [.s (.agg true [.v (.int .i64 v1.c0), .v (.int .i64 v1.c1), .v (.int .i64 v1.c2)])] []) (F_support_fits v1) := Lim.den (x := (X_support_fits v1)) k
theorem F_support_fits_of (v1 : I3) : ∀ r, ((
    Option.bind (α := E_support_fits_0) (
      bif decide (v1.c0 < (-16384)) then (
        some (.inl false))
      else
      bif decide (v1.c0 > 16384) then (
        some (.inl false))
      else
      bif decide (v1.c1 < (-16384)) then (
        some (.inl false))
      else
      bif decide (v1.c1 > 16384) then (
        some (.inl false))
      else
      bif decide (v1.c2 < (-16384)) then (
        some (.inl false))
      else
      bif decide (v1.c2 > 16384) then (
        some (.inl false))
      else
      some (.inr (()))) fun p2 =>
    match p2 with
    | .inl e3 => (
      some e3)
    | .inr e4 => (
      some true)) : Option Bool) = some r →
    F_support_fits v1 = some r := fun r h =>
  den_of (x := (X_support_fits v1)) injO_support_fits 5 (Lim.cong (fun n => fn54 n v1.c0 v1.c1 v1.c2) (by
      refine Lim.bind (e := enc_L_support_fits_0) ?_ fun p2 => ?_
      · refine Lim.bif rfl ?_ ?_
        · exact Lim.leaf rfl
        refine Lim.bif rfl ?_ ?_
        · exact Lim.leaf rfl
        refine Lim.bif rfl ?_ ?_
        · exact Lim.leaf rfl
        refine Lim.bif rfl ?_ ?_
        · exact Lim.leaf rfl
        refine Lim.bif rfl ?_ ?_
        · exact Lim.leaf rfl
        refine Lim.bif rfl ?_ ?_
        · exact Lim.leaf rfl
        exact Lim.leaf rfl
      rcases p2 with e3 | e4
      · refine Lim.exit (.ret) S54_0_r ((e3, ()), ()) rfl rfl rfl ?_
        exact Lim.leaf rfl
      · refine Lim.bifF rfl ?_
        refine Lim.exit (.exit 0) S54_0_e0 ((), ()) rfl rfl rfl ?_
        exact Lim.leaf rfl
    )) h
def G_support_fits (v1 : I3) : Bool :=
  letIn (α := E_support_fits_0) (
    bif decide (v1.c0 < (-16384)) then (
      (.inl false))
    else
    bif decide (v1.c0 > 16384) then (
      (.inl false))
    else
    bif decide (v1.c1 < (-16384)) then (
      (.inl false))
    else
    bif decide (v1.c1 > 16384) then (
      (.inl false))
    else
    bif decide (v1.c2 < (-16384)) then (
      (.inl false))
    else
    bif decide (v1.c2 > 16384) then (
      (.inl false))
    else
    (.inr (()))) fun p2 =>
  match p2 with
  | .inl e3 => (
    e3)
  | .inr e4 => (
    true)
theorem F_support_fits_eq (v1 : I3) : F_support_fits v1 = some (G_support_fits v1) := F_support_fits_of v1 _ (by
  unfold G_support_fits
  refine Tot.bind ?_ fun p2 => ?_
  · refine Tot.bif ?_ ?_
    · rfl
    refine Tot.bif ?_ ?_
    · rfl
    refine Tot.bif ?_ ?_
    · rfl
    refine Tot.bif ?_ ?_
    · rfl
    refine Tot.bif ?_ ?_
    · rfl
    refine Tot.bif ?_ ?_
    · rfl
    rfl
  rcases p2 with e3 | e4
  · rfl
  · rfl)

/-! armplan/support.Usable -/
abbrev o_support_Usable (v : Bool) : VtsT outs47 × MtsT mouts47 := ((v, ()), ())
abbrev encO_support_Usable (v : Bool) : R := (encR outs47 (o_support_Usable v).1, encMts mouts47 (o_support_Usable v).2)
theorem injO_support_Usable : ∀ a b, encO_support_Usable a = encO_support_Usable b → a = b := by
  rintro a0 b0 h
  have h1 := encR_inj (Prod.mk.inj h).1
  have h2 := encMts_inj (Prod.mk.inj h).2
  simp [o_support_Usable] at h1 h2
  simp [h1, h2]
noncomputable abbrev X_support_Usable (n1 : I3) (n : Nat) : Option R := (lvl Try.prog HH n).2 47 [.s (.agg true [.v (.int .i64 n1.c0), .v (.int .i64 n1.c1), .v (.int .i64 n1.c2)])] []
noncomputable def F_support_Usable (n1 : I3) : Option Bool := den encO_support_Usable (X_support_Usable n1)
theorem lim_support_Usable (k : Nat) (n1 : I3) : Lim (fun v => (encR outs47 (o_support_Usable v).1, encMts mouts47 (o_support_Usable v).2)) (fun n => (lvl Try.prog HH (n + k)).2 47 [.s (.agg true [.v (.int .i64 n1.c0), .v (.int .i64 n1.c1), .v (.int .i64 n1.c2)])] []) (F_support_Usable n1) := Lim.den (x := (X_support_Usable n1)) k
theorem F_support_Usable_of (n1 : I3) : ∀ r, ((
    (F_support_fits n1).bind fun y2 =>
    bif y2 then (
      letIn (!((n1.c0 == 0) && ((n1.c1 == 0) && ((n1.c2 == 0) && true))) : Bool) fun b3 =>
      some b3)
    else
    some false) : Option Bool) = some r →
    F_support_Usable n1 = some r := fun r h =>
  den_of (x := (X_support_Usable n1)) injO_support_Usable 1 (Lim.cong (fun n => fn47 n n1.c0 n1.c1 n1.c2) (by
      refine Lim.call o_support_fits (lim_support_fits 0 n1) rfl rfl fun y2 => ?_
      refine Lim.bif rfl ?_ ?_
      · refine Lim.letIn rfl fun b3 => ?_
        exact Lim.leaf rfl
      exact Lim.leaf rfl
    )) h
def G_support_Usable (n1 : I3) : Bool :=
  letIn (G_support_fits n1) fun y2 =>
  bif y2 then (
    letIn (!((n1.c0 == 0) && ((n1.c1 == 0) && ((n1.c2 == 0) && true))) : Bool) fun b3 =>
    b3)
  else
  false
theorem F_support_Usable_eq (n1 : I3) : F_support_Usable n1 = some (G_support_Usable n1) := F_support_Usable_of n1 _ (by
  unfold G_support_Usable
  refine Tot.bind (F_support_fits_eq n1) fun y2 => ?_
  refine Tot.bif ?_ ?_
  · refine Tot.letIn fun b3 => ?_
    rfl
  rfl)

/-! (armplan/plane.hull).usable -/
abbrev o_plane_hull_usable (v : Bool) : VtsT outs48 × MtsT mouts48 := ((v, ()), ())
abbrev encO_plane_hull_usable (v : Bool) : R := (encR outs48 (o_plane_hull_usable v).1, encMts mouts48 (o_plane_hull_usable v).2)
theorem injO_plane_hull_usable : ∀ a b, encO_plane_hull_usable a = encO_plane_hull_usable b → a = b := by
  rintro a0 b0 h
  have h1 := encR_inj (Prod.mk.inj h).1
  have h2 := encMts_inj (Prod.mk.inj h).2
  simp [o_plane_hull_usable] at h1 h2
  simp [h1, h2]
noncomputable abbrev X_plane_hull_usable (h1 : LI6_I) (n : Nat) : Option R := (lvl Try.prog HH n).2 48 [.s (.agg true [.fr 6 (List.map encI6 h1.c0), .v (.int .i64 h1.c1)])] []
noncomputable def F_plane_hull_usable (h1 : LI6_I) : Option Bool := den encO_plane_hull_usable (X_plane_hull_usable h1)
theorem lim_plane_hull_usable (k : Nat) (h1 : LI6_I) : Lim (fun v => (encR outs48 (o_plane_hull_usable v).1, encMts mouts48 (o_plane_hull_usable v).2)) (fun n => (lvl Try.prog HH (n + k)).2 48 [.s (.agg true [.fr 6 (List.map encI6 h1.c0), .v (.int .i64 h1.c1)])] []) (F_plane_hull_usable h1) := Lim.den (x := (X_plane_hull_usable h1)) k
theorem F_plane_hull_usable_of (h1 : LI6_I) : ∀ r, ((
    (F_shape_Placed h1.c0).bind fun y2 =>
    bif y2 then (
      bif decide (h1.c1 ≥ 0) then (
        some (decide (h1.c1 ≤ 1048576)))
      else
      some false)
    else
    some false) : Option Bool) = some r →
    F_plane_hull_usable h1 = some r := fun r h =>
  den_of (x := (X_plane_hull_usable h1)) injO_plane_hull_usable 1 (Lim.cong (fun n => fn48 n ((List.map encI6 h1.c0)) h1.c1) (by
      refine Lim.call o_shape_Placed (lim_shape_Placed 0 h1.c0) rfl rfl fun y2 => ?_
      refine Lim.bif rfl ?_ ?_
      · refine Lim.bif rfl ?_ ?_
        · exact Lim.leaf rfl
        exact Lim.leaf rfl
      exact Lim.leaf rfl
    )) h

/-! armplan/support.dot -/
abbrev E_support_dot_0 : Type := (Int × Int)
def enc_L_support_dot_0 (e : E_support_dot_0) : Ex × St := (.exit 0, encSt S56_0_e0 ((e.1, e.2, ()), ()))
theorem inj_L_support_dot_0 : ∀ a b, enc_L_support_dot_0 a = enc_L_support_dot_0 b → a = b := by
  rintro ⟨a0, a1⟩ ⟨b0, b1⟩ h
  first | (cases h; done) | (have h2 := encSt_inj rfl (Prod.mk.inj h).2; simp [] at h2; simp [h2]) | (have h2 := (Prod.mk.inj h).1; simp at h2) | rfl
abbrev o_support_dot (v : Int × Int) : VtsT outs56 × MtsT mouts56 := ((v.1, v.2, ()), ())
abbrev encO_support_dot (v : Int × Int) : R := (encR outs56 (o_support_dot v).1, encMts mouts56 (o_support_dot v).2)
theorem injO_support_dot : ∀ a b, encO_support_dot a = encO_support_dot b → a = b := by
  rintro ⟨a0, a1⟩ ⟨b0, b1⟩ h
  have h1 := encR_inj (Prod.mk.inj h).1
  have h2 := encMts_inj (Prod.mk.inj h).2
  simp [o_support_dot] at h1 h2
  simp [h1, h2]
noncomputable abbrev X_support_dot (n1 : I3) (v2 : I6) (n : Nat) : Option R := (lvl Try.prog HH n).2 56 [.s (.agg true [.v (.int .i64 n1.c0), .v (.int .i64 n1.c1), .v (.int .i64 n1.c2)]), .s (.agg true [.v (.int .i64 v2.c0), .v (.int .i64 v2.c1), .v (.int .i64 v2.c2), .v (.int .i64 v2.c3), .v (.int .i64 v2.c4), .v (.int .i64 v2.c5)])] []
noncomputable def F_support_dot (n1 : I3) (v2 : I6) : Option (Int × Int) := den encO_support_dot (X_support_dot n1 v2)
theorem lim_support_dot (k : Nat) (n1 : I3) (v2 : I6) : Lim (fun v => (encR outs56 (o_support_dot v).1, encMts mouts56 (o_support_dot v).2)) (fun n => (lvl Try.prog HH (n + k)).2 56 [.s (.agg true [.v (.int .i64 n1.c0), .v (.int .i64 n1.c1), .v (.int .i64 n1.c2)]), .s (.agg true [.v (.int .i64 v2.c0), .v (.int .i64 v2.c1), .v (.int .i64 v2.c2), .v (.int .i64 v2.c3), .v (.int .i64 v2.c4), .v (.int .i64 v2.c5)])] []) (F_support_dot n1 v2) := Lim.den (x := (X_support_dot n1 v2)) k
theorem F_support_dot_of (n1 : I3) (v2 : I6) : ∀ r, ((
    letIn (IntKind.wrap .i64 (n1.c0 * v2.c0) : Int) fun n3 =>
    letIn (IntKind.wrap .i64 (n1.c0 * v2.c1) : Int) fun n4 =>
    letIn (if n4 < n3 then n4 else n3 : Int) fun n5 =>
    letIn (IntKind.wrap .i64 (0 + n5) : Int) fun n6 =>
    letIn (if n4 > n3 then n4 else n3 : Int) fun n7 =>
    letIn (IntKind.wrap .i64 (0 + n7) : Int) fun n8 =>
    letIn (IntKind.wrap .i64 (n1.c1 * v2.c2) : Int) fun n9 =>
    letIn (IntKind.wrap .i64 (n1.c1 * v2.c3) : Int) fun n10 =>
    letIn (if n10 < n9 then n10 else n9 : Int) fun n11 =>
    letIn (IntKind.wrap .i64 (n6 + n11) : Int) fun n12 =>
    letIn (if n10 > n9 then n10 else n9 : Int) fun n13 =>
    letIn (IntKind.wrap .i64 (n8 + n13) : Int) fun n14 =>
    letIn (IntKind.wrap .i64 (n1.c2 * v2.c4) : Int) fun n15 =>
    letIn (IntKind.wrap .i64 (n1.c2 * v2.c5) : Int) fun n16 =>
    letIn (if n16 < n15 then n16 else n15 : Int) fun n17 =>
    letIn (IntKind.wrap .i64 (n12 + n17) : Int) fun n18 =>
    letIn (if n16 > n15 then n16 else n15 : Int) fun n19 =>
    letIn (IntKind.wrap .i64 (n14 + n19) : Int) fun n20 =>
    some (n18, n20)) : Option (Int × Int)) = some r →
    F_support_dot n1 v2 = some r := fun r h =>
  den_of (x := (X_support_dot n1 v2)) injO_support_dot 5 (Lim.cong (fun n => fn56 n n1.c0 n1.c1 n1.c2 v2.c0 v2.c1 v2.c2 v2.c3 v2.c4 v2.c5) (by
      refine Lim.letIn rfl fun n3 => ?_
      refine Lim.letIn rfl fun n4 => ?_
      refine Lim.letIn rfl fun n5 => ?_
      refine Lim.letIn rfl fun n6 => ?_
      refine Lim.letIn rfl fun n7 => ?_
      refine Lim.letIn rfl fun n8 => ?_
      refine Lim.letIn rfl fun n9 => ?_
      refine Lim.letIn rfl fun n10 => ?_
      refine Lim.letIn rfl fun n11 => ?_
      refine Lim.letIn rfl fun n12 => ?_
      refine Lim.letIn rfl fun n13 => ?_
      refine Lim.letIn rfl fun n14 => ?_
      refine Lim.letIn rfl fun n15 => ?_
      refine Lim.letIn rfl fun n16 => ?_
      refine Lim.letIn rfl fun n17 => ?_
      refine Lim.letIn rfl fun n18 => ?_
      refine Lim.letIn rfl fun n19 => ?_
      refine Lim.letIn rfl fun n20 => ?_
      exact Lim.leaf rfl
    )) h
def G_support_dot (n1 : I3) (v2 : I6) : Int × Int :=
  letIn (IntKind.wrap .i64 (n1.c0 * v2.c0) : Int) fun n3 =>
  letIn (IntKind.wrap .i64 (n1.c0 * v2.c1) : Int) fun n4 =>
  letIn (if n4 < n3 then n4 else n3 : Int) fun n5 =>
  letIn (IntKind.wrap .i64 (0 + n5) : Int) fun n6 =>
  letIn (if n4 > n3 then n4 else n3 : Int) fun n7 =>
  letIn (IntKind.wrap .i64 (0 + n7) : Int) fun n8 =>
  letIn (IntKind.wrap .i64 (n1.c1 * v2.c2) : Int) fun n9 =>
  letIn (IntKind.wrap .i64 (n1.c1 * v2.c3) : Int) fun n10 =>
  letIn (if n10 < n9 then n10 else n9 : Int) fun n11 =>
  letIn (IntKind.wrap .i64 (n6 + n11) : Int) fun n12 =>
  letIn (if n10 > n9 then n10 else n9 : Int) fun n13 =>
  letIn (IntKind.wrap .i64 (n8 + n13) : Int) fun n14 =>
  letIn (IntKind.wrap .i64 (n1.c2 * v2.c4) : Int) fun n15 =>
  letIn (IntKind.wrap .i64 (n1.c2 * v2.c5) : Int) fun n16 =>
  letIn (if n16 < n15 then n16 else n15 : Int) fun n17 =>
  letIn (IntKind.wrap .i64 (n12 + n17) : Int) fun n18 =>
  letIn (if n16 > n15 then n16 else n15 : Int) fun n19 =>
  letIn (IntKind.wrap .i64 (n14 + n19) : Int) fun n20 =>
  (n18, n20)
theorem F_support_dot_eq (n1 : I3) (v2 : I6) : F_support_dot n1 v2 = some (G_support_dot n1 v2) := F_support_dot_of n1 v2 _ (by
  unfold G_support_dot
  refine Tot.letIn fun n3 => ?_
  refine Tot.letIn fun n4 => ?_
  refine Tot.letIn fun n5 => ?_
  refine Tot.letIn fun n6 => ?_
  refine Tot.letIn fun n7 => ?_
  refine Tot.letIn fun n8 => ?_
  refine Tot.letIn fun n9 => ?_
  refine Tot.letIn fun n10 => ?_
  refine Tot.letIn fun n11 => ?_
  refine Tot.letIn fun n12 => ?_
  refine Tot.letIn fun n13 => ?_
  refine Tot.letIn fun n14 => ?_
  refine Tot.letIn fun n15 => ?_
  refine Tot.letIn fun n16 => ?_
  refine Tot.letIn fun n17 => ?_
  refine Tot.letIn fun n18 => ?_
  refine Tot.letIn fun n19 => ?_
  refine Tot.letIn fun n20 => ?_
  rfl)

/-! armplan/support.Least$1 -/
abbrev o_support_Least_1 (v : Int × I3) : VtsT outs55 × MtsT mouts55 := ((v.1, ()), ((v.2.c0, v.2.c1, v.2.c2, ()), ()))
abbrev encO_support_Least_1 (v : Int × I3) : R := (encR outs55 (o_support_Least_1 v).1, encMts mouts55 (o_support_Least_1 v).2)
theorem injO_support_Least_1 : ∀ a b, encO_support_Least_1 a = encO_support_Least_1 b → a = b := by
  rintro ⟨a0, ⟨a1, a2, a3⟩⟩ ⟨b0, ⟨b1, b2, b3⟩⟩ h
  have h1 := encR_inj (Prod.mk.inj h).1
  have h2 := encMts_inj (Prod.mk.inj h).2
  simp [o_support_Least_1] at h1 h2
  simp [h1, h2]
noncomputable abbrev X_support_Least_1 (v1 : I6) (c2 : I3) (n : Nat) : Option R := (lvl Try.prog HH n).2 55 [.s (.agg true [.v (.int .i64 v1.c0), .v (.int .i64 v1.c1), .v (.int .i64 v1.c2), .v (.int .i64 v1.c3), .v (.int .i64 v1.c4), .v (.int .i64 v1.c5)]), .s (.one (.ptr 0 0 0))] [.own 3 true [[.v (.int .i64 c2.c0), .v (.int .i64 c2.c1), .v (.int .i64 c2.c2)]]]
noncomputable def F_support_Least_1 (v1 : I6) (c2 : I3) : Option (Int × I3) := den encO_support_Least_1 (X_support_Least_1 v1 c2)
theorem lim_support_Least_1 (k : Nat) (v1 : I6) (c2 : I3) : Lim (fun v => (encR outs55 (o_support_Least_1 v).1, encMts mouts55 (o_support_Least_1 v).2)) (fun n => (lvl Try.prog HH (n + k)).2 55 [.s (.agg true [.v (.int .i64 v1.c0), .v (.int .i64 v1.c1), .v (.int .i64 v1.c2), .v (.int .i64 v1.c3), .v (.int .i64 v1.c4), .v (.int .i64 v1.c5)]), .s (.one (.ptr 0 0 0))] [.own 3 true [[.v (.int .i64 c2.c0), .v (.int .i64 c2.c1), .v (.int .i64 c2.c2)]]]) (F_support_Least_1 v1 c2) := Lim.den (x := (X_support_Least_1 v1 c2)) k
theorem F_support_Least_1_of (v1 : I6) (c2 : I3) : ∀ r, ((
    (F_support_dot c2 v1).bind fun y3 =>
    some (y3.1, c2)) : Option (Int × I3)) = some r →
    F_support_Least_1 v1 c2 = some r := fun r h =>
  den_of (x := (X_support_Least_1 v1 c2)) injO_support_Least_1 1 (Lim.cong (fun n => fn55s0 n v1.c0 v1.c1 v1.c2 v1.c3 v1.c4 v1.c5 c2.c0 c2.c1 c2.c2) (by
      refine Lim.call o_support_dot (lim_support_dot 0 c2 v1) rfl rfl fun y3 => ?_
      exact Lim.leaf rfl
    )) h
def G_support_Least_1 (v1 : I6) (c2 : I3) : Int × I3 :=
  letIn (G_support_dot c2 v1) fun y3 =>
  (y3.1, c2)
theorem F_support_Least_1_eq (v1 : I6) (c2 : I3) : F_support_Least_1 v1 c2 = some (G_support_Least_1 v1 c2) := F_support_Least_1_of v1 c2 _ (by
  unfold G_support_Least_1
  refine Tot.bind (F_support_dot_eq c2 v1) fun y3 => ?_
  rfl)

/-! armplan/support.Least$2 -/
abbrev o_support_Least_2 (v : Bool) : VtsT outs57 × MtsT mouts57 := ((v, ()), ())
abbrev encO_support_Least_2 (v : Bool) : R := (encR outs57 (o_support_Least_2 v).1, encMts mouts57 (o_support_Least_2 v).2)
theorem injO_support_Least_2 : ∀ a b, encO_support_Least_2 a = encO_support_Least_2 b → a = b := by
  rintro a0 b0 h
  have h1 := encR_inj (Prod.mk.inj h).1
  have h2 := encMts_inj (Prod.mk.inj h).2
  simp [o_support_Least_2] at h1 h2
  simp [h1, h2]
noncomputable abbrev X_support_Least_2 (x1 : Int) (y2 : Int) (n : Nat) : Option R := (lvl Try.prog HH n).2 57 [.s (.one (.v (.int .i64 x1))), .s (.one (.v (.int .i64 y2)))] []
noncomputable def F_support_Least_2 (x1 : Int) (y2 : Int) : Option Bool := den encO_support_Least_2 (X_support_Least_2 x1 y2)
theorem lim_support_Least_2 (k : Nat) (x1 : Int) (y2 : Int) : Lim (fun v => (encR outs57 (o_support_Least_2 v).1, encMts mouts57 (o_support_Least_2 v).2)) (fun n => (lvl Try.prog HH (n + k)).2 57 [.s (.one (.v (.int .i64 x1))), .s (.one (.v (.int .i64 y2)))] []) (F_support_Least_2 x1 y2) := Lim.den (x := (X_support_Least_2 x1 y2)) k
theorem F_support_Least_2_of (x1 : Int) (y2 : Int) : ∀ r, ((
    some (decide (x1 < y2))) : Option Bool) = some r →
    F_support_Least_2 x1 y2 = some r := fun r h =>
  den_of (x := (X_support_Least_2 x1 y2)) injO_support_Least_2 1 (Lim.cong (fun n => fn57 n x1 y2) (by
      exact Lim.leaf rfl
    )) h
def G_support_Least_2 (x1 : Int) (y2 : Int) : Bool :=
  (decide (x1 < y2))
theorem F_support_Least_2_eq (x1 : Int) (y2 : Int) : F_support_Least_2 x1 y2 = some (G_support_Least_2 x1 y2) := F_support_Least_2_of x1 y2 _ (by
  unfold G_support_Least_2
  rfl)

/-! (armplan/support.search).first -/
abbrev E_support_search_first_support_Least_1_support_Least_2_0 : Type := (Int × Int × I3)
def enc_L_support_search_first_support_Least_1_support_Least_2_0 (e : E_support_search_first_support_Least_1_support_Least_2_0) : Ex × St := (.exit 0, encSt S58s0_0_e0 ((e.1, e.2.1, ()), ((e.2.2.c0, e.2.2.c1, e.2.2.c2, ()), ())))
theorem inj_L_support_search_first_support_Least_1_support_Least_2_0 : ∀ a b, enc_L_support_search_first_support_Least_1_support_Least_2_0 a = enc_L_support_search_first_support_Least_1_support_Least_2_0 b → a = b := by
  rintro ⟨a0, a1, ⟨a2, a3, a4⟩⟩ ⟨b0, b1, ⟨b2, b3, b4⟩⟩ h
  first | (cases h; done) | (have h2 := encSt_inj rfl (Prod.mk.inj h).2; simp [] at h2; simp [h2]) | (have h2 := (Prod.mk.inj h).1; simp at h2) | rfl
noncomputable abbrev X_L_support_search_first_support_Least_1_support_Least_2_0 (v5 : Int) (v6 : Int) (v7 : List I6) (v8 : Int) (v9 : Int) (c10 : I3) (n : Nat) : Option (Ex × St) := (lvl Try.prog HH n).1 ⟨58, 1, true⟩ 0 (loopOf Try.f58 0) (encSt S58s0_0 (((), v5, v6, (List.map encI6 v7), v8, v9, ()), ((c10.c0, c10.c1, c10.c2, ()), ((.clo 55 [.ptr 0 0 0]), (.v (.func (.func 57) #[] #[])), ()), ())))
noncomputable def L_support_search_first_support_Least_1_support_Least_2_0 (v5 : Int) (v6 : Int) (v7 : List I6) (v8 : Int) (v9 : Int) (c10 : I3) : Option E_support_search_first_support_Least_1_support_Least_2_0 := den enc_L_support_search_first_support_Least_1_support_Least_2_0 (X_L_support_search_first_support_Least_1_support_Least_2_0 v5 v6 v7 v8 v9 c10)
theorem L_support_search_first_support_Least_1_support_Least_2_0_of (v5 : Int) (v6 : Int) (v7 : List I6) (v8 : Int) (v9 : Int) (c10 : I3) : ∀ r, ((
    bif decide (v9 < v8) then (
      bif decide (0 ≤ v9) then (
        (nth v7 v9.toNat).bind fun x11 =>
        (F_support_Least_1 x11 c10).bind fun y12 =>
        (F_support_Least_2 y12.1 v5).bind fun y13 =>
        bif y13 then (
          letIn (IntKind.wrap .i64 (v9 + 1) : Int) fun n14 =>
          L_support_search_first_support_Least_1_support_Least_2_0 y12.1 v9 v7 v8 n14 c10)
        else
        letIn (IntKind.wrap .i64 (v9 + 1) : Int) fun n15 =>
        L_support_search_first_support_Least_1_support_Least_2_0 v5 v6 v7 v8 n15 c10)
      else
      none)
    else
    some ((v5, v6, c10))) : Option E_support_search_first_support_Least_1_support_Least_2_0) = some r →
    L_support_search_first_support_Least_1_support_Least_2_0 v5 v6 v7 v8 v9 c10 = some r := fun r h =>
  den_of (x := (X_L_support_search_first_support_Least_1_support_Least_2_0 v5 v6 v7 v8 v9 c10)) inj_L_support_search_first_support_Least_1_support_Least_2_0 1 (Lim.cong (fun n => loop58s0_0 n v5 v6 ((List.map encI6 v7)) v8 v9 c10.c0 c10.c1 c10.c2) (by
      refine Lim.bif rfl ?_ ?_
      · refine Lim.bif rfl ?_ Lim.none_
        refine Lim.nth encI6 rfl rfl fun x11 => ?_
        refine Lim.bifT rfl ?_
        refine Lim.decC (x11.c0, x11.c1, x11.c2, x11.c3, x11.c4, x11.c5, ()) rfl ?_
        refine Lim.call o_support_Least_1 (lim_support_Least_1 0 x11 c10) rfl rfl fun y12 => ?_
        refine Lim.call o_support_Least_2 (lim_support_Least_2 0 y12.1 v5) rfl rfl fun y13 => ?_
        refine Lim.bif rfl ?_ ?_
        · refine Lim.letIn rfl fun n14 => ?_
          exact Lim.loop 0 rfl
        refine Lim.letIn rfl fun n15 => ?_
        exact Lim.loop 0 rfl
      exact Lim.leaf rfl
    )) h
abbrev o_support_search_first_support_Least_1_support_Least_2 (v : Int × Int × I3) : VtsT outs58 × MtsT mouts58 := ((v.1, v.2.1, ()), ((v.2.2.c0, v.2.2.c1, v.2.2.c2, ()), ()))
abbrev encO_support_search_first_support_Least_1_support_Least_2 (v : Int × Int × I3) : R := (encR outs58 (o_support_search_first_support_Least_1_support_Least_2 v).1, encMts mouts58 (o_support_search_first_support_Least_1_support_Least_2 v).2)
theorem injO_support_search_first_support_Least_1_support_Least_2 : ∀ a b, encO_support_search_first_support_Least_1_support_Least_2 a = encO_support_search_first_support_Least_1_support_Least_2 b → a = b := by
  rintro ⟨a0, a1, ⟨a2, a3, a4⟩⟩ ⟨b0, b1, ⟨b2, b3, b4⟩⟩ h
  have h1 := encR_inj (Prod.mk.inj h).1
  have h2 := encMts_inj (Prod.mk.inj h).2
  simp [o_support_search_first_support_Least_1_support_Least_2] at h1 h2
  simp [h1, h2]
noncomputable abbrev X_support_search_first_support_Least_1_support_Least_2 (l1 : List I6) (c2 : I3) (n : Nat) : Option R := (lvl Try.prog HH n).2 58 [.s (.agg false [.clo 55 [.ptr 0 0 0], .v (.func (.func 57) #[] #[])]), .s (.one (.fr 6 (List.map encI6 l1)))] [.own 3 true [[.v (.int .i64 c2.c0), .v (.int .i64 c2.c1), .v (.int .i64 c2.c2)]]]
noncomputable def F_support_search_first_support_Least_1_support_Least_2 (l1 : List I6) (c2 : I3) : Option (Int × Int × I3) := den encO_support_search_first_support_Least_1_support_Least_2 (X_support_search_first_support_Least_1_support_Least_2 l1 c2)
theorem lim_support_search_first_support_Least_1_support_Least_2 (k : Nat) (l1 : List I6) (c2 : I3) : Lim (fun v => (encR outs58 (o_support_search_first_support_Least_1_support_Least_2 v).1, encMts mouts58 (o_support_search_first_support_Least_1_support_Least_2 v).2)) (fun n => (lvl Try.prog HH (n + k)).2 58 [.s (.agg false [.clo 55 [.ptr 0 0 0], .v (.func (.func 57) #[] #[])]), .s (.one (.fr 6 (List.map encI6 l1)))] [.own 3 true [[.v (.int .i64 c2.c0), .v (.int .i64 c2.c1), .v (.int .i64 c2.c2)]]]) (F_support_search_first_support_Least_1_support_Least_2 l1 c2) := Lim.den (x := (X_support_search_first_support_Least_1_support_Least_2 l1 c2)) k
theorem F_support_search_first_support_Least_1_support_Least_2_of (l1 : List I6) (c2 : I3) : ∀ r, ((
    (nth l1 0).bind fun x3 =>
    (F_support_Least_1 x3 c2).bind fun y4 =>
    (L_support_search_first_support_Least_1_support_Least_2_0 y4.1 0 l1 (((l1.length : Nat) : Int)) 0 c2).bind fun p16 =>
    some (p16.1, p16.2.1, p16.2.2)) : Option (Int × Int × I3)) = some r →
    F_support_search_first_support_Least_1_support_Least_2 l1 c2 = some r := fun r h =>
  den_of (x := (X_support_search_first_support_Least_1_support_Least_2 l1 c2)) injO_support_search_first_support_Least_1_support_Least_2 1 (Lim.cong (fun n => fn58s0 n ((List.map encI6 l1)) c2.c0 c2.c1 c2.c2) (by
      refine Lim.nth encI6 rfl rfl fun x3 => ?_
      refine Lim.bifT rfl ?_
      refine Lim.decC (x3.c0, x3.c1, x3.c2, x3.c3, x3.c4, x3.c5, ()) rfl ?_
      refine Lim.call o_support_Least_1 (lim_support_Least_1 0 x3 c2) rfl rfl fun y4 => ?_
      refine Lim.bind (show Lim enc_L_support_search_first_support_Least_1_support_Least_2_0 _ (L_support_search_first_support_Least_1_support_Least_2_0 y4.1 0 l1 (((l1.length : Nat) : Int)) 0 c2) from Lim.loop 0 (by first | with_reducible rfl | (simp [map_upd, o_support_Least_1] <;> rfl) | (simp only [List.map_append, List.map_cons, List.map_nil, List.map_take, List.map_drop, map_upd, List.map_replicate, List.length_map, o_support_Least_1] <;> rfl) | (simp only [List.map_append, List.map_cons, List.map_nil, List.map_take, List.map_drop, map_upd, List.map_replicate, List.length_map, List.length_append, List.length_cons, List.length_nil, o_support_Least_1] <;> rfl) | rfl)) fun p16 => ?_
      refine Lim.exit (.exit 0) S58s0_0_e0 ((p16.1, p16.2.1, ()), ((p16.2.2.c0, p16.2.2.c1, p16.2.2.c2, ()), ())) rfl rfl rfl ?_
      exact Lim.leaf rfl
    )) h

/-! armplan/support.Least -/
abbrev o_support_Least (v : Int × Int × Bool) : VtsT outs49 × MtsT mouts49 := ((v.1, v.2.1, v.2.2, ()), ())
abbrev encO_support_Least (v : Int × Int × Bool) : R := (encR outs49 (o_support_Least v).1, encMts mouts49 (o_support_Least v).2)
theorem injO_support_Least : ∀ a b, encO_support_Least a = encO_support_Least b → a = b := by
  rintro ⟨a0, a1, a2⟩ ⟨b0, b1, b2⟩ h
  have h1 := encR_inj (Prod.mk.inj h).1
  have h2 := encMts_inj (Prod.mk.inj h).2
  simp [o_support_Least] at h1 h2
  simp [h1, h2]
noncomputable abbrev X_support_Least (n1 : I3) (l2 : List I6) (n : Nat) : Option R := (lvl Try.prog HH n).2 49 [.s (.agg true [.v (.int .i64 n1.c0), .v (.int .i64 n1.c1), .v (.int .i64 n1.c2)]), .s (.one (.fr 6 (List.map encI6 l2)))] []
noncomputable def F_support_Least (n1 : I3) (l2 : List I6) : Option (Int × Int × Bool) := den encO_support_Least (X_support_Least n1 l2)
theorem lim_support_Least (k : Nat) (n1 : I3) (l2 : List I6) : Lim (fun v => (encR outs49 (o_support_Least v).1, encMts mouts49 (o_support_Least v).2)) (fun n => (lvl Try.prog HH (n + k)).2 49 [.s (.agg true [.v (.int .i64 n1.c0), .v (.int .i64 n1.c1), .v (.int .i64 n1.c2)]), .s (.one (.fr 6 (List.map encI6 l2)))] []) (F_support_Least n1 l2) := Lim.den (x := (X_support_Least n1 l2)) k
theorem F_support_Least_of (n1 : I3) (l2 : List I6) : ∀ r, ((
    (F_support_Usable n1).bind fun y3 =>
    bif !y3 then (
      some (0, 0, false))
    else
    (F_shape_Placed l2).bind fun y4 =>
    bif !y4 then (
      some (0, 0, false))
    else
    (F_support_search_first_support_Least_1_support_Least_2 l2 n1).bind fun y5 =>
    some (y5.1, y5.2.1, true)) : Option (Int × Int × Bool)) = some r →
    F_support_Least n1 l2 = some r := fun r h =>
  den_of (x := (X_support_Least n1 l2)) injO_support_Least 1 (Lim.cong (fun n => fn49 n n1.c0 n1.c1 n1.c2 ((List.map encI6 l2))) (by
      refine Lim.call o_support_Usable (lim_support_Usable 0 n1) rfl rfl fun y3 => ?_
      refine Lim.bif rfl ?_ ?_
      · exact Lim.leaf rfl
      refine Lim.call o_shape_Placed (lim_shape_Placed 0 l2) rfl rfl fun y4 => ?_
      refine Lim.bif rfl ?_ ?_
      · exact Lim.leaf rfl
      refine Lim.call o_support_search_first_support_Least_1_support_Least_2 (lim_support_search_first_support_Least_1_support_Least_2 0 l2 n1) rfl rfl fun y5 => ?_
      exact Lim.leaf rfl
    )) h

/-! armplan/support.Greatest$1 -/
abbrev o_support_Greatest_1 (v : Int × I3) : VtsT outs59 × MtsT mouts59 := ((v.1, ()), ((v.2.c0, v.2.c1, v.2.c2, ()), ()))
abbrev encO_support_Greatest_1 (v : Int × I3) : R := (encR outs59 (o_support_Greatest_1 v).1, encMts mouts59 (o_support_Greatest_1 v).2)
theorem injO_support_Greatest_1 : ∀ a b, encO_support_Greatest_1 a = encO_support_Greatest_1 b → a = b := by
  rintro ⟨a0, ⟨a1, a2, a3⟩⟩ ⟨b0, ⟨b1, b2, b3⟩⟩ h
  have h1 := encR_inj (Prod.mk.inj h).1
  have h2 := encMts_inj (Prod.mk.inj h).2
  simp [o_support_Greatest_1] at h1 h2
  simp [h1, h2]
noncomputable abbrev X_support_Greatest_1 (v1 : I6) (c2 : I3) (n : Nat) : Option R := (lvl Try.prog HH n).2 59 [.s (.agg true [.v (.int .i64 v1.c0), .v (.int .i64 v1.c1), .v (.int .i64 v1.c2), .v (.int .i64 v1.c3), .v (.int .i64 v1.c4), .v (.int .i64 v1.c5)]), .s (.one (.ptr 0 0 0))] [.own 3 true [[.v (.int .i64 c2.c0), .v (.int .i64 c2.c1), .v (.int .i64 c2.c2)]]]
noncomputable def F_support_Greatest_1 (v1 : I6) (c2 : I3) : Option (Int × I3) := den encO_support_Greatest_1 (X_support_Greatest_1 v1 c2)
theorem lim_support_Greatest_1 (k : Nat) (v1 : I6) (c2 : I3) : Lim (fun v => (encR outs59 (o_support_Greatest_1 v).1, encMts mouts59 (o_support_Greatest_1 v).2)) (fun n => (lvl Try.prog HH (n + k)).2 59 [.s (.agg true [.v (.int .i64 v1.c0), .v (.int .i64 v1.c1), .v (.int .i64 v1.c2), .v (.int .i64 v1.c3), .v (.int .i64 v1.c4), .v (.int .i64 v1.c5)]), .s (.one (.ptr 0 0 0))] [.own 3 true [[.v (.int .i64 c2.c0), .v (.int .i64 c2.c1), .v (.int .i64 c2.c2)]]]) (F_support_Greatest_1 v1 c2) := Lim.den (x := (X_support_Greatest_1 v1 c2)) k
theorem F_support_Greatest_1_of (v1 : I6) (c2 : I3) : ∀ r, ((
    (F_support_dot c2 v1).bind fun y3 =>
    some (y3.2, c2)) : Option (Int × I3)) = some r →
    F_support_Greatest_1 v1 c2 = some r := fun r h =>
  den_of (x := (X_support_Greatest_1 v1 c2)) injO_support_Greatest_1 1 (Lim.cong (fun n => fn59s0 n v1.c0 v1.c1 v1.c2 v1.c3 v1.c4 v1.c5 c2.c0 c2.c1 c2.c2) (by
      refine Lim.call o_support_dot (lim_support_dot 0 c2 v1) rfl rfl fun y3 => ?_
      exact Lim.leaf rfl
    )) h
def G_support_Greatest_1 (v1 : I6) (c2 : I3) : Int × I3 :=
  letIn (G_support_dot c2 v1) fun y3 =>
  (y3.2, c2)
theorem F_support_Greatest_1_eq (v1 : I6) (c2 : I3) : F_support_Greatest_1 v1 c2 = some (G_support_Greatest_1 v1 c2) := F_support_Greatest_1_of v1 c2 _ (by
  unfold G_support_Greatest_1
  refine Tot.bind (F_support_dot_eq c2 v1) fun y3 => ?_
  rfl)

/-! armplan/support.Greatest$2 -/
abbrev o_support_Greatest_2 (v : Bool) : VtsT outs60 × MtsT mouts60 := ((v, ()), ())
abbrev encO_support_Greatest_2 (v : Bool) : R := (encR outs60 (o_support_Greatest_2 v).1, encMts mouts60 (o_support_Greatest_2 v).2)
theorem injO_support_Greatest_2 : ∀ a b, encO_support_Greatest_2 a = encO_support_Greatest_2 b → a = b := by
  rintro a0 b0 h
  have h1 := encR_inj (Prod.mk.inj h).1
  have h2 := encMts_inj (Prod.mk.inj h).2
  simp [o_support_Greatest_2] at h1 h2
  simp [h1, h2]
noncomputable abbrev X_support_Greatest_2 (x1 : Int) (y2 : Int) (n : Nat) : Option R := (lvl Try.prog HH n).2 60 [.s (.one (.v (.int .i64 x1))), .s (.one (.v (.int .i64 y2)))] []
noncomputable def F_support_Greatest_2 (x1 : Int) (y2 : Int) : Option Bool := den encO_support_Greatest_2 (X_support_Greatest_2 x1 y2)
theorem lim_support_Greatest_2 (k : Nat) (x1 : Int) (y2 : Int) : Lim (fun v => (encR outs60 (o_support_Greatest_2 v).1, encMts mouts60 (o_support_Greatest_2 v).2)) (fun n => (lvl Try.prog HH (n + k)).2 60 [.s (.one (.v (.int .i64 x1))), .s (.one (.v (.int .i64 y2)))] []) (F_support_Greatest_2 x1 y2) := Lim.den (x := (X_support_Greatest_2 x1 y2)) k
theorem F_support_Greatest_2_of (x1 : Int) (y2 : Int) : ∀ r, ((
    some (decide (x1 > y2))) : Option Bool) = some r →
    F_support_Greatest_2 x1 y2 = some r := fun r h =>
  den_of (x := (X_support_Greatest_2 x1 y2)) injO_support_Greatest_2 1 (Lim.cong (fun n => fn60 n x1 y2) (by
      exact Lim.leaf rfl
    )) h
def G_support_Greatest_2 (x1 : Int) (y2 : Int) : Bool :=
  (decide (x1 > y2))
theorem F_support_Greatest_2_eq (x1 : Int) (y2 : Int) : F_support_Greatest_2 x1 y2 = some (G_support_Greatest_2 x1 y2) := F_support_Greatest_2_of x1 y2 _ (by
  unfold G_support_Greatest_2
  rfl)

/-! (armplan/support.search).first -/
abbrev E_support_search_first_support_Greatest_1_support_Greatest_2_0 : Type := (Int × Int × I3)
def enc_L_support_search_first_support_Greatest_1_support_Greatest_2_0 (e : E_support_search_first_support_Greatest_1_support_Greatest_2_0) : Ex × St := (.exit 0, encSt S58s1_0_e0 ((e.1, e.2.1, ()), ((e.2.2.c0, e.2.2.c1, e.2.2.c2, ()), ())))
theorem inj_L_support_search_first_support_Greatest_1_support_Greatest_2_0 : ∀ a b, enc_L_support_search_first_support_Greatest_1_support_Greatest_2_0 a = enc_L_support_search_first_support_Greatest_1_support_Greatest_2_0 b → a = b := by
  rintro ⟨a0, a1, ⟨a2, a3, a4⟩⟩ ⟨b0, b1, ⟨b2, b3, b4⟩⟩ h
  first | (cases h; done) | (have h2 := encSt_inj rfl (Prod.mk.inj h).2; simp [] at h2; simp [h2]) | (have h2 := (Prod.mk.inj h).1; simp at h2) | rfl
noncomputable abbrev X_L_support_search_first_support_Greatest_1_support_Greatest_2_0 (v5 : Int) (v6 : Int) (v7 : List I6) (v8 : Int) (v9 : Int) (c10 : I3) (n : Nat) : Option (Ex × St) := (lvl Try.prog HH n).1 ⟨58, 1, true⟩ 0 (loopOf Try.f58 0) (encSt S58s1_0 (((), v5, v6, (List.map encI6 v7), v8, v9, ()), ((c10.c0, c10.c1, c10.c2, ()), ((.clo 59 [.ptr 0 0 0]), (.v (.func (.func 60) #[] #[])), ()), ())))
noncomputable def L_support_search_first_support_Greatest_1_support_Greatest_2_0 (v5 : Int) (v6 : Int) (v7 : List I6) (v8 : Int) (v9 : Int) (c10 : I3) : Option E_support_search_first_support_Greatest_1_support_Greatest_2_0 := den enc_L_support_search_first_support_Greatest_1_support_Greatest_2_0 (X_L_support_search_first_support_Greatest_1_support_Greatest_2_0 v5 v6 v7 v8 v9 c10)
theorem L_support_search_first_support_Greatest_1_support_Greatest_2_0_of (v5 : Int) (v6 : Int) (v7 : List I6) (v8 : Int) (v9 : Int) (c10 : I3) : ∀ r, ((
    bif decide (v9 < v8) then (
      bif decide (0 ≤ v9) then (
        (nth v7 v9.toNat).bind fun x11 =>
        (F_support_Greatest_1 x11 c10).bind fun y12 =>
        (F_support_Greatest_2 y12.1 v5).bind fun y13 =>
        bif y13 then (
          letIn (IntKind.wrap .i64 (v9 + 1) : Int) fun n14 =>
          L_support_search_first_support_Greatest_1_support_Greatest_2_0 y12.1 v9 v7 v8 n14 c10)
        else
        letIn (IntKind.wrap .i64 (v9 + 1) : Int) fun n15 =>
        L_support_search_first_support_Greatest_1_support_Greatest_2_0 v5 v6 v7 v8 n15 c10)
      else
      none)
    else
    some ((v5, v6, c10))) : Option E_support_search_first_support_Greatest_1_support_Greatest_2_0) = some r →
    L_support_search_first_support_Greatest_1_support_Greatest_2_0 v5 v6 v7 v8 v9 c10 = some r := fun r h =>
  den_of (x := (X_L_support_search_first_support_Greatest_1_support_Greatest_2_0 v5 v6 v7 v8 v9 c10)) inj_L_support_search_first_support_Greatest_1_support_Greatest_2_0 1 (Lim.cong (fun n => loop58s1_0 n v5 v6 ((List.map encI6 v7)) v8 v9 c10.c0 c10.c1 c10.c2) (by
      refine Lim.bif rfl ?_ ?_
      · refine Lim.bif rfl ?_ Lim.none_
        refine Lim.nth encI6 rfl rfl fun x11 => ?_
        refine Lim.bifT rfl ?_
        refine Lim.decC (x11.c0, x11.c1, x11.c2, x11.c3, x11.c4, x11.c5, ()) rfl ?_
        refine Lim.call o_support_Greatest_1 (lim_support_Greatest_1 0 x11 c10) rfl rfl fun y12 => ?_
        refine Lim.call o_support_Greatest_2 (lim_support_Greatest_2 0 y12.1 v5) rfl rfl fun y13 => ?_
        refine Lim.bif rfl ?_ ?_
        · refine Lim.letIn rfl fun n14 => ?_
          exact Lim.loop 0 rfl
        refine Lim.letIn rfl fun n15 => ?_
        exact Lim.loop 0 rfl
      exact Lim.leaf rfl
    )) h
abbrev o_support_search_first_support_Greatest_1_support_Greatest_2 (v : Int × Int × I3) : VtsT outs58 × MtsT mouts58 := ((v.1, v.2.1, ()), ((v.2.2.c0, v.2.2.c1, v.2.2.c2, ()), ()))
abbrev encO_support_search_first_support_Greatest_1_support_Greatest_2 (v : Int × Int × I3) : R := (encR outs58 (o_support_search_first_support_Greatest_1_support_Greatest_2 v).1, encMts mouts58 (o_support_search_first_support_Greatest_1_support_Greatest_2 v).2)
theorem injO_support_search_first_support_Greatest_1_support_Greatest_2 : ∀ a b, encO_support_search_first_support_Greatest_1_support_Greatest_2 a = encO_support_search_first_support_Greatest_1_support_Greatest_2 b → a = b := by
  rintro ⟨a0, a1, ⟨a2, a3, a4⟩⟩ ⟨b0, b1, ⟨b2, b3, b4⟩⟩ h
  have h1 := encR_inj (Prod.mk.inj h).1
  have h2 := encMts_inj (Prod.mk.inj h).2
  simp [o_support_search_first_support_Greatest_1_support_Greatest_2] at h1 h2
  simp [h1, h2]
noncomputable abbrev X_support_search_first_support_Greatest_1_support_Greatest_2 (l1 : List I6) (c2 : I3) (n : Nat) : Option R := (lvl Try.prog HH n).2 58 [.s (.agg false [.clo 59 [.ptr 0 0 0], .v (.func (.func 60) #[] #[])]), .s (.one (.fr 6 (List.map encI6 l1)))] [.own 3 true [[.v (.int .i64 c2.c0), .v (.int .i64 c2.c1), .v (.int .i64 c2.c2)]]]
noncomputable def F_support_search_first_support_Greatest_1_support_Greatest_2 (l1 : List I6) (c2 : I3) : Option (Int × Int × I3) := den encO_support_search_first_support_Greatest_1_support_Greatest_2 (X_support_search_first_support_Greatest_1_support_Greatest_2 l1 c2)
theorem lim_support_search_first_support_Greatest_1_support_Greatest_2 (k : Nat) (l1 : List I6) (c2 : I3) : Lim (fun v => (encR outs58 (o_support_search_first_support_Greatest_1_support_Greatest_2 v).1, encMts mouts58 (o_support_search_first_support_Greatest_1_support_Greatest_2 v).2)) (fun n => (lvl Try.prog HH (n + k)).2 58 [.s (.agg false [.clo 59 [.ptr 0 0 0], .v (.func (.func 60) #[] #[])]), .s (.one (.fr 6 (List.map encI6 l1)))] [.own 3 true [[.v (.int .i64 c2.c0), .v (.int .i64 c2.c1), .v (.int .i64 c2.c2)]]]) (F_support_search_first_support_Greatest_1_support_Greatest_2 l1 c2) := Lim.den (x := (X_support_search_first_support_Greatest_1_support_Greatest_2 l1 c2)) k
theorem F_support_search_first_support_Greatest_1_support_Greatest_2_of (l1 : List I6) (c2 : I3) : ∀ r, ((
    (nth l1 0).bind fun x3 =>
    (F_support_Greatest_1 x3 c2).bind fun y4 =>
    (L_support_search_first_support_Greatest_1_support_Greatest_2_0 y4.1 0 l1 (((l1.length : Nat) : Int)) 0 c2).bind fun p16 =>
    some (p16.1, p16.2.1, p16.2.2)) : Option (Int × Int × I3)) = some r →
    F_support_search_first_support_Greatest_1_support_Greatest_2 l1 c2 = some r := fun r h =>
  den_of (x := (X_support_search_first_support_Greatest_1_support_Greatest_2 l1 c2)) injO_support_search_first_support_Greatest_1_support_Greatest_2 1 (Lim.cong (fun n => fn58s1 n ((List.map encI6 l1)) c2.c0 c2.c1 c2.c2) (by
      refine Lim.nth encI6 rfl rfl fun x3 => ?_
      refine Lim.bifT rfl ?_
      refine Lim.decC (x3.c0, x3.c1, x3.c2, x3.c3, x3.c4, x3.c5, ()) rfl ?_
      refine Lim.call o_support_Greatest_1 (lim_support_Greatest_1 0 x3 c2) rfl rfl fun y4 => ?_
      refine Lim.bind (show Lim enc_L_support_search_first_support_Greatest_1_support_Greatest_2_0 _ (L_support_search_first_support_Greatest_1_support_Greatest_2_0 y4.1 0 l1 (((l1.length : Nat) : Int)) 0 c2) from Lim.loop 0 (by first | with_reducible rfl | (simp [map_upd, o_support_Greatest_1] <;> rfl) | (simp only [List.map_append, List.map_cons, List.map_nil, List.map_take, List.map_drop, map_upd, List.map_replicate, List.length_map, o_support_Greatest_1] <;> rfl) | (simp only [List.map_append, List.map_cons, List.map_nil, List.map_take, List.map_drop, map_upd, List.map_replicate, List.length_map, List.length_append, List.length_cons, List.length_nil, o_support_Greatest_1] <;> rfl) | rfl)) fun p16 => ?_
      refine Lim.exit (.exit 0) S58s1_0_e0 ((p16.1, p16.2.1, ()), ((p16.2.2.c0, p16.2.2.c1, p16.2.2.c2, ()), ())) rfl rfl rfl ?_
      exact Lim.leaf rfl
    )) h

/-! armplan/support.Greatest -/
abbrev o_support_Greatest (v : Int × Int × Bool) : VtsT outs50 × MtsT mouts50 := ((v.1, v.2.1, v.2.2, ()), ())
abbrev encO_support_Greatest (v : Int × Int × Bool) : R := (encR outs50 (o_support_Greatest v).1, encMts mouts50 (o_support_Greatest v).2)
theorem injO_support_Greatest : ∀ a b, encO_support_Greatest a = encO_support_Greatest b → a = b := by
  rintro ⟨a0, a1, a2⟩ ⟨b0, b1, b2⟩ h
  have h1 := encR_inj (Prod.mk.inj h).1
  have h2 := encMts_inj (Prod.mk.inj h).2
  simp [o_support_Greatest] at h1 h2
  simp [h1, h2]
noncomputable abbrev X_support_Greatest (n1 : I3) (l2 : List I6) (n : Nat) : Option R := (lvl Try.prog HH n).2 50 [.s (.agg true [.v (.int .i64 n1.c0), .v (.int .i64 n1.c1), .v (.int .i64 n1.c2)]), .s (.one (.fr 6 (List.map encI6 l2)))] []
noncomputable def F_support_Greatest (n1 : I3) (l2 : List I6) : Option (Int × Int × Bool) := den encO_support_Greatest (X_support_Greatest n1 l2)
theorem lim_support_Greatest (k : Nat) (n1 : I3) (l2 : List I6) : Lim (fun v => (encR outs50 (o_support_Greatest v).1, encMts mouts50 (o_support_Greatest v).2)) (fun n => (lvl Try.prog HH (n + k)).2 50 [.s (.agg true [.v (.int .i64 n1.c0), .v (.int .i64 n1.c1), .v (.int .i64 n1.c2)]), .s (.one (.fr 6 (List.map encI6 l2)))] []) (F_support_Greatest n1 l2) := Lim.den (x := (X_support_Greatest n1 l2)) k
theorem F_support_Greatest_of (n1 : I3) (l2 : List I6) : ∀ r, ((
    (F_support_Usable n1).bind fun y3 =>
    bif !y3 then (
      some (0, 0, false))
    else
    (F_shape_Placed l2).bind fun y4 =>
    bif !y4 then (
      some (0, 0, false))
    else
    (F_support_search_first_support_Greatest_1_support_Greatest_2 l2 n1).bind fun y5 =>
    some (y5.1, y5.2.1, true)) : Option (Int × Int × Bool)) = some r →
    F_support_Greatest n1 l2 = some r := fun r h =>
  den_of (x := (X_support_Greatest n1 l2)) injO_support_Greatest 1 (Lim.cong (fun n => fn50 n n1.c0 n1.c1 n1.c2 ((List.map encI6 l2))) (by
      refine Lim.call o_support_Usable (lim_support_Usable 0 n1) rfl rfl fun y3 => ?_
      refine Lim.bif rfl ?_ ?_
      · exact Lim.leaf rfl
      refine Lim.call o_shape_Placed (lim_shape_Placed 0 l2) rfl rfl fun y4 => ?_
      refine Lim.bif rfl ?_ ?_
      · exact Lim.leaf rfl
      refine Lim.call o_support_search_first_support_Greatest_1_support_Greatest_2 (lim_support_search_first_support_Greatest_1_support_Greatest_2 0 l2 n1) rfl rfl fun y5 => ?_
      exact Lim.leaf rfl
    )) h

/-! armplan/fixed.Root -/
abbrev E_fixed_Root_0 : Type := (Int)
def enc_L_fixed_Root_0 (e : E_fixed_Root_0) : Ex × St := (.exit 0, encSt S62_0_e0 ((e, ()), ()))
theorem inj_L_fixed_Root_0 : ∀ a b, enc_L_fixed_Root_0 a = enc_L_fixed_Root_0 b → a = b := by
  rintro a0 b0 h
  first | (cases h; done) | (have h2 := encSt_inj rfl (Prod.mk.inj h).2; simp [] at h2; simp [h2]) | (have h2 := (Prod.mk.inj h).1; simp at h2) | rfl
noncomputable abbrev X_L_fixed_Root_0 (v2 : Int) (v3 : Int) (v4 : Int) (n : Nat) : Option (Ex × St) := (lvl Try.prog HH n).1 ⟨62, 0, true⟩ 0 (loopOf Try.f62 0) (encSt S62_0 ((v2, v3, v4, ()), ()))
noncomputable def L_fixed_Root_0 (v2 : Int) (v3 : Int) (v4 : Int) : Option E_fixed_Root_0 := den enc_L_fixed_Root_0 (X_L_fixed_Root_0 v2 v3 v4)
theorem L_fixed_Root_0_of (v2 : Int) (v3 : Int) (v4 : Int) : ∀ r, ((
    bif decide (v4 < 32) then (
      letIn (IntKind.wrap .i64 (31 - v4) : Int) fun n5 =>
      bif decide (n5 < 0) then (
        none)
      else
      letIn (IntKind.wrap .i64 (1 * (2 ^ min n5.toNat 64)) : Int) fun n6 =>
      letIn (IntKind.wrap .i64 (v3 + n6) : Int) fun n7 =>
      bif n7 == 0 then (
        none)
      else
      letIn (IntKind.wrap .i64 (Int.tdiv v2 n7) : Int) fun n8 =>
      bif decide (n7 ≤ n8) then (
        letIn (IntKind.wrap .i64 (v4 + 1) : Int) fun n9 =>
        L_fixed_Root_0 v2 n7 n9)
      else
      letIn (IntKind.wrap .i64 (v4 + 1) : Int) fun n10 =>
      L_fixed_Root_0 v2 v3 n10)
    else
    some v3) : Option E_fixed_Root_0) = some r →
    L_fixed_Root_0 v2 v3 v4 = some r := fun r h =>
  den_of (x := (X_L_fixed_Root_0 v2 v3 v4)) inj_L_fixed_Root_0 1 (Lim.cong (fun n => loop62_0 n v2 v3 v4) (by
      refine Lim.bif rfl ?_ ?_
      · refine Lim.letIn rfl fun n5 => ?_
        refine Lim.bif rfl Lim.none_ ?_
        refine Lim.letIn rfl fun n6 => ?_
        refine Lim.letIn rfl fun n7 => ?_
        refine Lim.bif rfl Lim.none_ ?_
        refine Lim.letIn rfl fun n8 => ?_
        refine Lim.bif rfl ?_ ?_
        · refine Lim.letIn rfl fun n9 => ?_
          exact Lim.loop 0 rfl
        refine Lim.letIn rfl fun n10 => ?_
        exact Lim.loop 0 rfl
      exact Lim.leaf rfl
    )) h
abbrev o_fixed_Root (v : Int) : VtsT outs62 × MtsT mouts62 := ((v, ()), ())
abbrev encO_fixed_Root (v : Int) : R := (encR outs62 (o_fixed_Root v).1, encMts mouts62 (o_fixed_Root v).2)
theorem injO_fixed_Root : ∀ a b, encO_fixed_Root a = encO_fixed_Root b → a = b := by
  rintro a0 b0 h
  have h1 := encR_inj (Prod.mk.inj h).1
  have h2 := encMts_inj (Prod.mk.inj h).2
  simp [o_fixed_Root] at h1 h2
  simp [h1, h2]
noncomputable abbrev X_fixed_Root (n1 : Int) (n : Nat) : Option R := (lvl Try.prog HH n).2 62 [.s (.one (.v (.int .i64 n1)))] []
noncomputable def F_fixed_Root (n1 : Int) : Option Int := den encO_fixed_Root (X_fixed_Root n1)
theorem lim_fixed_Root (k : Nat) (n1 : Int) : Lim (fun v => (encR outs62 (o_fixed_Root v).1, encMts mouts62 (o_fixed_Root v).2)) (fun n => (lvl Try.prog HH (n + k)).2 62 [.s (.one (.v (.int .i64 n1)))] []) (F_fixed_Root n1) := Lim.den (x := (X_fixed_Root n1)) k
theorem F_fixed_Root_of (n1 : Int) : ∀ r, ((
    bif decide (n1 ≤ 0) then (
      some 0)
    else
    (L_fixed_Root_0 n1 0 0).bind fun p11 =>
    some p11) : Option Int) = some r →
    F_fixed_Root n1 = some r := fun r h =>
  den_of (x := (X_fixed_Root n1)) injO_fixed_Root 1 (Lim.cong (fun n => fn62 n n1) (by
      refine Lim.bif rfl ?_ ?_
      · exact Lim.leaf rfl
      refine Lim.bind (show Lim enc_L_fixed_Root_0 _ (L_fixed_Root_0 n1 0 0) from Lim.loop 0 rfl) fun p11 => ?_
      refine Lim.exit (.exit 0) S62_0_e0 ((p11, ()), ()) rfl rfl rfl ?_
      exact Lim.leaf rfl
    )) h

/-! armplan/fixed.RootUp -/
abbrev o_fixed_RootUp (v : Int) : VtsT outs61 × MtsT mouts61 := ((v, ()), ())
abbrev encO_fixed_RootUp (v : Int) : R := (encR outs61 (o_fixed_RootUp v).1, encMts mouts61 (o_fixed_RootUp v).2)
theorem injO_fixed_RootUp : ∀ a b, encO_fixed_RootUp a = encO_fixed_RootUp b → a = b := by
  rintro a0 b0 h
  have h1 := encR_inj (Prod.mk.inj h).1
  have h2 := encMts_inj (Prod.mk.inj h).2
  simp [o_fixed_RootUp] at h1 h2
  simp [h1, h2]
noncomputable abbrev X_fixed_RootUp (n1 : Int) (n : Nat) : Option R := (lvl Try.prog HH n).2 61 [.s (.one (.v (.int .i64 n1)))] []
noncomputable def F_fixed_RootUp (n1 : Int) : Option Int := den encO_fixed_RootUp (X_fixed_RootUp n1)
theorem lim_fixed_RootUp (k : Nat) (n1 : Int) : Lim (fun v => (encR outs61 (o_fixed_RootUp v).1, encMts mouts61 (o_fixed_RootUp v).2)) (fun n => (lvl Try.prog HH (n + k)).2 61 [.s (.one (.v (.int .i64 n1)))] []) (F_fixed_RootUp n1) := Lim.den (x := (X_fixed_RootUp n1)) k
theorem F_fixed_RootUp_of (n1 : Int) : ∀ r, ((
    (F_fixed_Root n1).bind fun y2 =>
    letIn (IntKind.wrap .i64 (y2 * y2) : Int) fun n3 =>
    bif decide (n3 < n1) then (
      letIn (IntKind.wrap .i64 (y2 + 1) : Int) fun n4 =>
      some n4)
    else
    some y2) : Option Int) = some r →
    F_fixed_RootUp n1 = some r := fun r h =>
  den_of (x := (X_fixed_RootUp n1)) injO_fixed_RootUp 1 (Lim.cong (fun n => fn61 n n1) (by
      refine Lim.call o_fixed_Root (lim_fixed_Root 0 n1) rfl rfl fun y2 => ?_
      refine Lim.letIn rfl fun n3 => ?_
      refine Lim.bif rfl ?_ ?_
      · refine Lim.letIn rfl fun n4 => ?_
        exact Lim.leaf rfl
      exact Lim.leaf rfl
    )) h

/-! armplan/support.Norm -/
abbrev o_support_Norm (v : Int) : VtsT outs51 × MtsT mouts51 := ((v, ()), ())
abbrev encO_support_Norm (v : Int) : R := (encR outs51 (o_support_Norm v).1, encMts mouts51 (o_support_Norm v).2)
theorem injO_support_Norm : ∀ a b, encO_support_Norm a = encO_support_Norm b → a = b := by
  rintro a0 b0 h
  have h1 := encR_inj (Prod.mk.inj h).1
  have h2 := encMts_inj (Prod.mk.inj h).2
  simp [o_support_Norm] at h1 h2
  simp [h1, h2]
noncomputable abbrev X_support_Norm (n1 : I3) (n : Nat) : Option R := (lvl Try.prog HH n).2 51 [.s (.agg true [.v (.int .i64 n1.c0), .v (.int .i64 n1.c1), .v (.int .i64 n1.c2)])] []
noncomputable def F_support_Norm (n1 : I3) : Option Int := den encO_support_Norm (X_support_Norm n1)
theorem lim_support_Norm (k : Nat) (n1 : I3) : Lim (fun v => (encR outs51 (o_support_Norm v).1, encMts mouts51 (o_support_Norm v).2)) (fun n => (lvl Try.prog HH (n + k)).2 51 [.s (.agg true [.v (.int .i64 n1.c0), .v (.int .i64 n1.c1), .v (.int .i64 n1.c2)])] []) (F_support_Norm n1) := Lim.den (x := (X_support_Norm n1)) k
theorem F_support_Norm_of (n1 : I3) : ∀ r, ((
    (F_support_Usable n1).bind fun y2 =>
    bif !y2 then (
      some 0)
    else
    letIn (IntKind.wrap .i64 (n1.c0 * n1.c0) : Int) fun n3 =>
    letIn (IntKind.wrap .i64 (n1.c1 * n1.c1) : Int) fun n4 =>
    letIn (IntKind.wrap .i64 (n3 + n4) : Int) fun n5 =>
    letIn (IntKind.wrap .i64 (n1.c2 * n1.c2) : Int) fun n6 =>
    letIn (IntKind.wrap .i64 (n5 + n6) : Int) fun n7 =>
    (F_fixed_RootUp n7).bind fun y8 =>
    some y8) : Option Int) = some r →
    F_support_Norm n1 = some r := fun r h =>
  den_of (x := (X_support_Norm n1)) injO_support_Norm 1 (Lim.cong (fun n => fn51 n n1.c0 n1.c1 n1.c2) (by
      refine Lim.call o_support_Usable (lim_support_Usable 0 n1) rfl rfl fun y2 => ?_
      refine Lim.bif rfl ?_ ?_
      · exact Lim.leaf rfl
      refine Lim.letIn rfl fun n3 => ?_
      refine Lim.letIn rfl fun n4 => ?_
      refine Lim.letIn rfl fun n5 => ?_
      refine Lim.letIn rfl fun n6 => ?_
      refine Lim.letIn rfl fun n7 => ?_
      refine Lim.call o_fixed_RootUp (lim_fixed_RootUp 0 n7) rfl rfl fun y8 => ?_
      exact Lim.leaf rfl
    )) h

/-! (armplan/plane.sides).margin -/
abbrev o_plane_sides_margin (v : Int × Bool) : VtsT outs43 × MtsT mouts43 := ((v.1, v.2, ()), ())
abbrev encO_plane_sides_margin (v : Int × Bool) : R := (encR outs43 (o_plane_sides_margin v).1, encMts mouts43 (o_plane_sides_margin v).2)
theorem injO_plane_sides_margin : ∀ a b, encO_plane_sides_margin a = encO_plane_sides_margin b → a = b := by
  rintro ⟨a0, a1⟩ ⟨b0, b1⟩ h
  have h1 := encR_inj (Prod.mk.inj h).1
  have h2 := encMts_inj (Prod.mk.inj h).2
  simp [o_plane_sides_margin] at h1 h2
  simp [h1, h2]
noncomputable abbrev X_plane_sides_margin (s1 : LI6_ILI6_I) (n2 : I3) (n : Nat) : Option R := (lvl Try.prog HH n).2 43 [.s (.agg true [.fr 6 (List.map encI6 s1.c0), .v (.int .i64 s1.c1), .fr 6 (List.map encI6 s1.c2), .v (.int .i64 s1.c3)]), .s (.agg true [.v (.int .i64 n2.c0), .v (.int .i64 n2.c1), .v (.int .i64 n2.c2)])] []
noncomputable def F_plane_sides_margin (s1 : LI6_ILI6_I) (n2 : I3) : Option (Int × Bool) := den encO_plane_sides_margin (X_plane_sides_margin s1 n2)
theorem lim_plane_sides_margin (k : Nat) (s1 : LI6_ILI6_I) (n2 : I3) : Lim (fun v => (encR outs43 (o_plane_sides_margin v).1, encMts mouts43 (o_plane_sides_margin v).2)) (fun n => (lvl Try.prog HH (n + k)).2 43 [.s (.agg true [.fr 6 (List.map encI6 s1.c0), .v (.int .i64 s1.c1), .fr 6 (List.map encI6 s1.c2), .v (.int .i64 s1.c3)]), .s (.agg true [.v (.int .i64 n2.c0), .v (.int .i64 n2.c1), .v (.int .i64 n2.c2)])] []) (F_plane_sides_margin s1 n2) := Lim.den (x := (X_plane_sides_margin s1 n2)) k
theorem F_plane_sides_margin_of (s1 : LI6_ILI6_I) (n2 : I3) : ∀ r, ((
    (F_support_Usable n2).bind fun y3 =>
    bif !y3 then (
      some (0, false))
    else
    (F_plane_hull_usable ((LI6_I.mk s1.c0 s1.c1))).bind fun y4 =>
    bif !y4 then (
      some (0, false))
    else
    (F_plane_hull_usable ((LI6_I.mk s1.c2 s1.c3))).bind fun y5 =>
    bif !y5 then (
      some (0, false))
    else
    (F_support_Least n2 s1.c0).bind fun y6 =>
    (F_support_Greatest n2 s1.c2).bind fun y7 =>
    letIn (IntKind.wrap .i64 (y6.1 - y7.1) : Int) fun n8 =>
    (F_support_Norm n2).bind fun y9 =>
    letIn (IntKind.wrap .i64 (s1.c1 + s1.c3) : Int) fun n10 =>
    letIn (IntKind.wrap .i64 (y9 * n10) : Int) fun n11 =>
    letIn (IntKind.wrap .i64 (n8 - n11) : Int) fun n12 =>
    some (n12, true)) : Option (Int × Bool)) = some r →
    F_plane_sides_margin s1 n2 = some r := fun r h =>
  den_of (x := (X_plane_sides_margin s1 n2)) injO_plane_sides_margin 1 (Lim.cong (fun n => fn43 n ((List.map encI6 s1.c0)) s1.c1 ((List.map encI6 s1.c2)) s1.c3 n2.c0 n2.c1 n2.c2) (by
      refine Lim.call o_support_Usable (lim_support_Usable 0 n2) rfl rfl fun y3 => ?_
      refine Lim.bif rfl ?_ ?_
      · exact Lim.leaf rfl
      refine Lim.call o_plane_hull_usable (lim_plane_hull_usable 0 ((LI6_I.mk s1.c0 s1.c1))) rfl rfl fun y4 => ?_
      refine Lim.bif rfl ?_ ?_
      · exact Lim.leaf rfl
      refine Lim.call o_plane_hull_usable (lim_plane_hull_usable 0 ((LI6_I.mk s1.c2 s1.c3))) rfl rfl fun y5 => ?_
      refine Lim.bif rfl ?_ ?_
      · exact Lim.leaf rfl
      refine Lim.call o_support_Least (lim_support_Least 0 n2 s1.c0) rfl rfl fun y6 => ?_
      refine Lim.call o_support_Greatest (lim_support_Greatest 0 n2 s1.c2) rfl rfl fun y7 => ?_
      refine Lim.letIn rfl fun n8 => ?_
      refine Lim.call o_support_Norm (lim_support_Norm 0 n2) rfl rfl fun y9 => ?_
      refine Lim.letIn rfl fun n10 => ?_
      refine Lim.letIn rfl fun n11 => ?_
      refine Lim.letIn rfl fun n12 => ?_
      exact Lim.leaf rfl
    )) h

/-! armplan/plane.Margin -/
abbrev o_plane_Margin (v : Int × Bool) : VtsT outs36 × MtsT mouts36 := ((v.1, v.2, ()), ())
abbrev encO_plane_Margin (v : Int × Bool) : R := (encR outs36 (o_plane_Margin v).1, encMts mouts36 (o_plane_Margin v).2)
theorem injO_plane_Margin : ∀ a b, encO_plane_Margin a = encO_plane_Margin b → a = b := by
  rintro ⟨a0, a1⟩ ⟨b0, b1⟩ h
  have h1 := encR_inj (Prod.mk.inj h).1
  have h2 := encMts_inj (Prod.mk.inj h).2
  simp [o_plane_Margin] at h1 h2
  simp [h1, h2]
noncomputable abbrev X_plane_Margin (n1 : I3) (a2 : List I6) (ra3 : Int) (b4 : List I6) (rb5 : Int) (n : Nat) : Option R := (lvl Try.prog HH n).2 36 [.s (.agg true [.v (.int .i64 n1.c0), .v (.int .i64 n1.c1), .v (.int .i64 n1.c2)]), .s (.one (.fr 6 (List.map encI6 a2))), .s (.one (.v (.int .i64 ra3))), .s (.one (.fr 6 (List.map encI6 b4))), .s (.one (.v (.int .i64 rb5)))] []
noncomputable def F_plane_Margin (n1 : I3) (a2 : List I6) (ra3 : Int) (b4 : List I6) (rb5 : Int) : Option (Int × Bool) := den encO_plane_Margin (X_plane_Margin n1 a2 ra3 b4 rb5)
theorem lim_plane_Margin (k : Nat) (n1 : I3) (a2 : List I6) (ra3 : Int) (b4 : List I6) (rb5 : Int) : Lim (fun v => (encR outs36 (o_plane_Margin v).1, encMts mouts36 (o_plane_Margin v).2)) (fun n => (lvl Try.prog HH (n + k)).2 36 [.s (.agg true [.v (.int .i64 n1.c0), .v (.int .i64 n1.c1), .v (.int .i64 n1.c2)]), .s (.one (.fr 6 (List.map encI6 a2))), .s (.one (.v (.int .i64 ra3))), .s (.one (.fr 6 (List.map encI6 b4))), .s (.one (.v (.int .i64 rb5)))] []) (F_plane_Margin n1 a2 ra3 b4 rb5) := Lim.den (x := (X_plane_Margin n1 a2 ra3 b4 rb5)) k
theorem F_plane_Margin_of (n1 : I3) (a2 : List I6) (ra3 : Int) (b4 : List I6) (rb5 : Int) : ∀ r, ((
    (F_plane_sides_margin ((LI6_ILI6_I.mk a2 ra3 b4 rb5)) n1).bind fun y6 =>
    some (y6.1, y6.2)) : Option (Int × Bool)) = some r →
    F_plane_Margin n1 a2 ra3 b4 rb5 = some r := fun r h =>
  den_of (x := (X_plane_Margin n1 a2 ra3 b4 rb5)) injO_plane_Margin 1 (Lim.cong (fun n => fn36 n n1.c0 n1.c1 n1.c2 ((List.map encI6 a2)) ra3 ((List.map encI6 b4)) rb5) (by
      refine Lim.call o_plane_sides_margin (lim_plane_sides_margin 0 ((LI6_ILI6_I.mk a2 ra3 b4 rb5)) n1) rfl rfl fun y6 => ?_
      exact Lim.leaf rfl
    )) h

/-! armplan/plane.Separates -/
abbrev o_plane_Separates (v : Bool) : VtsT outs25 × MtsT mouts25 := ((v, ()), ())
abbrev encO_plane_Separates (v : Bool) : R := (encR outs25 (o_plane_Separates v).1, encMts mouts25 (o_plane_Separates v).2)
theorem injO_plane_Separates : ∀ a b, encO_plane_Separates a = encO_plane_Separates b → a = b := by
  rintro a0 b0 h
  have h1 := encR_inj (Prod.mk.inj h).1
  have h2 := encMts_inj (Prod.mk.inj h).2
  simp [o_plane_Separates] at h1 h2
  simp [h1, h2]
noncomputable abbrev X_plane_Separates (n1 : I3) (a2 : List I6) (ra3 : Int) (b4 : List I6) (rb5 : Int) (n : Nat) : Option R := (lvl Try.prog HH n).2 25 [.s (.agg true [.v (.int .i64 n1.c0), .v (.int .i64 n1.c1), .v (.int .i64 n1.c2)]), .s (.one (.fr 6 (List.map encI6 a2))), .s (.one (.v (.int .i64 ra3))), .s (.one (.fr 6 (List.map encI6 b4))), .s (.one (.v (.int .i64 rb5)))] []
noncomputable def F_plane_Separates (n1 : I3) (a2 : List I6) (ra3 : Int) (b4 : List I6) (rb5 : Int) : Option Bool := den encO_plane_Separates (X_plane_Separates n1 a2 ra3 b4 rb5)
theorem lim_plane_Separates (k : Nat) (n1 : I3) (a2 : List I6) (ra3 : Int) (b4 : List I6) (rb5 : Int) : Lim (fun v => (encR outs25 (o_plane_Separates v).1, encMts mouts25 (o_plane_Separates v).2)) (fun n => (lvl Try.prog HH (n + k)).2 25 [.s (.agg true [.v (.int .i64 n1.c0), .v (.int .i64 n1.c1), .v (.int .i64 n1.c2)]), .s (.one (.fr 6 (List.map encI6 a2))), .s (.one (.v (.int .i64 ra3))), .s (.one (.fr 6 (List.map encI6 b4))), .s (.one (.v (.int .i64 rb5)))] []) (F_plane_Separates n1 a2 ra3 b4 rb5) := Lim.den (x := (X_plane_Separates n1 a2 ra3 b4 rb5)) k
theorem F_plane_Separates_of (n1 : I3) (a2 : List I6) (ra3 : Int) (b4 : List I6) (rb5 : Int) : ∀ r, ((
    (F_plane_Margin n1 a2 ra3 b4 rb5).bind fun y6 =>
    bif y6.2 then (
      some (decide (y6.1 > 0)))
    else
    some false) : Option Bool) = some r →
    F_plane_Separates n1 a2 ra3 b4 rb5 = some r := fun r h =>
  den_of (x := (X_plane_Separates n1 a2 ra3 b4 rb5)) injO_plane_Separates 1 (Lim.cong (fun n => fn25 n n1.c0 n1.c1 n1.c2 ((List.map encI6 a2)) ra3 ((List.map encI6 b4)) rb5) (by
      refine Lim.call o_plane_Margin (lim_plane_Margin 0 n1 a2 ra3 b4 rb5) rfl rfl fun y6 => ?_
      refine Lim.bif rfl ?_ ?_
      · exact Lim.leaf rfl
      exact Lim.leaf rfl
    )) h

/-! armplan/armplanlaw16.OverlapExcludes -/
abbrev o_law16_OverlapExcludes (v : Bool) : VtsT outs9 × MtsT mouts9 := ((v, ()), ())
abbrev encO_law16_OverlapExcludes (v : Bool) : R := (encR outs9 (o_law16_OverlapExcludes v).1, encMts mouts9 (o_law16_OverlapExcludes v).2)
theorem injO_law16_OverlapExcludes : ∀ a b, encO_law16_OverlapExcludes a = encO_law16_OverlapExcludes b → a = b := by
  rintro a0 b0 h
  have h1 := encR_inj (Prod.mk.inj h).1
  have h2 := encMts_inj (Prod.mk.inj h).2
  simp [o_law16_OverlapExcludes] at h1 h2
  simp [h1, h2]
noncomputable abbrev X_law16_OverlapExcludes (l1 : List Int) (m2 : List Int) (w3 : List Int) (x4 : Int) (y5 : Int) (z6 : Int) (p7 : Int) (q8 : Int) (n : Nat) : Option R := (lvl Try.prog HH n).2 9 [.s (.one (.fr 1 (List.map encI l1))), .s (.one (.fr 1 (List.map encI m2))), .s (.one (.fr 1 (List.map encI w3))), .s (.one (.v (.int .i64 x4))), .s (.one (.v (.int .i64 y5))), .s (.one (.v (.int .i64 z6))), .s (.one (.v (.int .i64 p7))), .s (.one (.v (.int .i64 q8)))] []
noncomputable def F_law16_OverlapExcludes (l1 : List Int) (m2 : List Int) (w3 : List Int) (x4 : Int) (y5 : Int) (z6 : Int) (p7 : Int) (q8 : Int) : Option Bool := den encO_law16_OverlapExcludes (X_law16_OverlapExcludes l1 m2 w3 x4 y5 z6 p7 q8)
theorem lim_law16_OverlapExcludes (k : Nat) (l1 : List Int) (m2 : List Int) (w3 : List Int) (x4 : Int) (y5 : Int) (z6 : Int) (p7 : Int) (q8 : Int) : Lim (fun v => (encR outs9 (o_law16_OverlapExcludes v).1, encMts mouts9 (o_law16_OverlapExcludes v).2)) (fun n => (lvl Try.prog HH (n + k)).2 9 [.s (.one (.fr 1 (List.map encI l1))), .s (.one (.fr 1 (List.map encI m2))), .s (.one (.fr 1 (List.map encI w3))), .s (.one (.v (.int .i64 x4))), .s (.one (.v (.int .i64 y5))), .s (.one (.v (.int .i64 z6))), .s (.one (.v (.int .i64 p7))), .s (.one (.v (.int .i64 q8)))] []) (F_law16_OverlapExcludes l1 m2 w3 x4 y5 z6 p7 q8) := Lim.den (x := (X_law16_OverlapExcludes l1 m2 w3 x4 y5 z6 p7 q8)) k
theorem F_law16_OverlapExcludes_of (l1 : List Int) (m2 : List Int) (w3 : List Int) (x4 : Int) (y5 : Int) (z6 : Int) (p7 : Int) (q8 : Int) : ∀ r, ((
    (F_make_Points l1 3000).bind fun y9 =>
    (F_make_Points m2 3000).bind fun y10 =>
    (F_law16_equal (((y9.length : Nat) : Int)) (((y10.length : Nat) : Int)) w3).bind fun y11 =>
    (F_make_Normal x4 y5 z6).bind fun y12 =>
    (F_law16_awake).bind fun y13 =>
    bif y13 then (
      (F_law16_radius p7).bind fun y14 =>
      (F_law16_radius q8).bind fun y15 =>
      (F_overlap_Overlaps y11.1 y11.2 y9 y14 y10 y15).bind fun y16 =>
      bif y16 then (
        (F_law16_radius p7).bind fun y17 =>
        (F_law16_radius q8).bind fun y18 =>
        (F_plane_Separates y12 y9 y17 y10 y18).bind fun y19 =>
        some (!y19))
      else
      some true)
    else
    some false) : Option Bool) = some r →
    F_law16_OverlapExcludes l1 m2 w3 x4 y5 z6 p7 q8 = some r := fun r h =>
  den_of (x := (X_law16_OverlapExcludes l1 m2 w3 x4 y5 z6 p7 q8)) injO_law16_OverlapExcludes 1 (Lim.cong (fun n => fn9 n ((List.map encI l1)) ((List.map encI m2)) ((List.map encI w3)) x4 y5 z6 p7 q8) (by
      refine Lim.call o_make_Points (lim_make_Points 0 l1 3000) rfl rfl fun y9 => ?_
      refine Lim.call o_make_Points (lim_make_Points 0 m2 3000) rfl rfl fun y10 => ?_
      refine Lim.call o_law16_equal (lim_law16_equal 0 (((y9.length : Nat) : Int)) (((y10.length : Nat) : Int)) w3) (by first | with_reducible rfl | (simp [map_upd, o_make_Points, o_law16_equal, o_make_Normal] <;> rfl) | (simp only [List.map_append, List.map_cons, List.map_nil, List.map_take, List.map_drop, map_upd, List.map_replicate, List.length_map, o_make_Points, o_law16_equal, o_make_Normal] <;> rfl) | (simp only [List.map_append, List.map_cons, List.map_nil, List.map_take, List.map_drop, map_upd, List.map_replicate, List.length_map, List.length_append, List.length_cons, List.length_nil, o_make_Points, o_law16_equal, o_make_Normal] <;> rfl) | rfl) (by first | with_reducible rfl | (simp [map_upd, o_make_Points, o_law16_equal, o_make_Normal] <;> rfl) | (simp only [List.map_append, List.map_cons, List.map_nil, List.map_take, List.map_drop, map_upd, List.map_replicate, List.length_map, o_make_Points, o_law16_equal, o_make_Normal] <;> rfl) | (simp only [List.map_append, List.map_cons, List.map_nil, List.map_take, List.map_drop, map_upd, List.map_replicate, List.length_map, List.length_append, List.length_cons, List.length_nil, o_make_Points, o_law16_equal, o_make_Normal] <;> rfl) | rfl) fun y11 => ?_
      refine Lim.call o_make_Normal (lim_make_Normal 0 x4 y5 z6) rfl rfl fun y12 => ?_
      refine Lim.call o_law16_awake (lim_law16_awake 0 ) rfl rfl fun y13 => ?_
      refine Lim.bif rfl ?_ ?_
      · refine Lim.call o_law16_radius (lim_law16_radius 0 p7) rfl rfl fun y14 => ?_
        refine Lim.call o_law16_radius (lim_law16_radius 0 q8) rfl rfl fun y15 => ?_
        refine Lim.call o_overlap_Overlaps (lim_overlap_Overlaps 0 y11.1 y11.2 y9 y14 y10 y15) rfl rfl fun y16 => ?_
        refine Lim.bif rfl ?_ ?_
        · refine Lim.call o_law16_radius (lim_law16_radius 0 p7) rfl rfl fun y17 => ?_
          refine Lim.call o_law16_radius (lim_law16_radius 0 q8) rfl rfl fun y18 => ?_
          refine Lim.call o_plane_Separates (lim_plane_Separates 0 y12 y9 y17 y10 y18) rfl rfl fun y19 => ?_
          exact Lim.leaf rfl
        exact Lim.leaf rfl
      exact Lim.leaf rfl
    )) h
end Go.Proofs.Ytilffjjibcebmaa.Am
