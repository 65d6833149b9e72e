/- PRINTED: the functions without levels. -/
import Derived.Test.YtfpdjpleplhcgaaE0
import Derived.Test.YtfpdjpleplhcgaaE1
import Derived.Test.YtfpdjpleplhcgaaE2
import Derived.Test.YtfpdjpleplhcgaaE3
import Derived.Test.YtfpdjpleplhcgaaV
set_option linter.unusedVariables false
set_option linter.unusedSimpArgs false
set_option maxRecDepth 100000
namespace Go.Proofs.Ytfpdjpleplhcgaa.Am
open Go Go.Proofs
/-! armplan/armplanmake.Round -/
abbrev o_make_Round (v : Int) : VtsT outs41 × MtsT mouts41 := ((v, ()), ())
abbrev encO_make_Round (v : Int) : R := (encR outs41 (o_make_Round v).1, encMts mouts41 (o_make_Round v).2)
theorem injO_make_Round : ∀ a b, encO_make_Round a = encO_make_Round b → a = b := by
  rintro a0 b0 h
  have h1 := encR_inj (Prod.mk.inj h).1
  have h2 := encMts_inj (Prod.mk.inj h).2
  simp [o_make_Round] at h1 h2
  simp [h1, h2]
noncomputable abbrev X_make_Round (n1 : Int) (k2 : Int) (n : Nat) : Option R := (lvl Try.prog HH n).2 41 [.s (.one (.v (.int .i64 n1))), .s (.one (.v (.int .i64 k2)))] []
noncomputable def F_make_Round (n1 : Int) (k2 : Int) : Option Int := den encO_make_Round (X_make_Round n1 k2)
theorem lim_make_Round (k : Nat) (n1 : Int) (k2 : Int) : Lim (fun v => (encR outs41 (o_make_Round v).1, encMts mouts41 (o_make_Round v).2)) (fun n => (lvl Try.prog HH (n + k)).2 41 [.s (.one (.v (.int .i64 n1))), .s (.one (.v (.int .i64 k2)))] []) (F_make_Round n1 k2) := Lim.den (x := (X_make_Round n1 k2)) k
theorem F_make_Round_of (n1 : Int) (k2 : Int) : ∀ r, ((
    bif k2 == 0 then (
      none)
    else
    letIn (Int.tmod n1 k2 : Int) fun n3 =>
    bif decide (n3 < 0) then (
      letIn (IntKind.wrap .i64 (n3 + k2) : Int) fun n4 =>
      some n4)
    else
    some n3) : Option Int) = some r →
    F_make_Round n1 k2 = some r := fun r h =>
  den_of (x := (X_make_Round n1 k2)) injO_make_Round 1 (Lim.cong (fun n => fn41 n n1 k2) (by
      refine Lim.bif rfl Lim.none_ ?_
      refine Lim.letIn rfl fun n3 => ?_
      refine Lim.bif rfl ?_ ?_
      · refine Lim.letIn rfl fun n4 => ?_
        exact Lim.leaf rfl
      exact Lim.leaf rfl
    )) h

/-! armplan/armplanmake.From -/
abbrev o_make_From (v : LI_I) : VtsT outs90 × MtsT mouts90 := (((), ()), (((List.map encI v.c0), v.c1, ()), ()))
abbrev encO_make_From (v : LI_I) : R := (encR outs90 (o_make_From v).1, encMts mouts90 (o_make_From v).2)
theorem injO_make_From : ∀ a b, encO_make_From a = encO_make_From b → a = b := by
  rintro ⟨a0, a1⟩ ⟨b0, b1⟩ h
  have h1 := encR_inj (Prod.mk.inj h).1
  have h2 := encMts_inj (Prod.mk.inj h).2
  simp [o_make_From, map_inj encI_inj] at h1 h2
  simp [h1, h2]
noncomputable abbrev X_make_From (l1 : List Int) (n : Nat) : Option R := (lvl Try.prog HH n).2 90 [.s (.one (.fr 1 (List.map encI l1)))] []
noncomputable def F_make_From (l1 : List Int) : Option LI_I := den encO_make_From (X_make_From l1)
theorem lim_make_From (k : Nat) (l1 : List Int) : Lim (fun v => (encR outs90 (o_make_From v).1, encMts mouts90 (o_make_From v).2)) (fun n => (lvl Try.prog HH (n + k)).2 90 [.s (.one (.fr 1 (List.map encI l1)))] []) (F_make_From l1) := Lim.den (x := (X_make_From l1)) k
theorem F_make_From_of (l1 : List Int) : ∀ r, ((
    some ((LI_I.mk l1 0))) : Option LI_I) = some r →
    F_make_From l1 = some r := fun r h =>
  den_of (x := (X_make_From l1)) injO_make_From 1 (Lim.cong (fun n => fn90 n ((List.map encI l1))) (by
      exact Lim.leaf rfl
    )) h
def G_make_From (l1 : List Int) : LI_I :=
  ((LI_I.mk l1 0))
theorem F_make_From_eq (l1 : List Int) : F_make_From l1 = some (G_make_From l1) := F_make_From_of l1 _ (by
  unfold G_make_From
  rfl)

/-! (*armplan/armplanmake.Source).Next -/
abbrev o_make_Source_Next (v : Int × LI_I) : VtsT outs93 × MtsT mouts93 := ((v.1, ()), (((List.map encI v.2.c0), v.2.c1, ()), ()))
abbrev encO_make_Source_Next (v : Int × LI_I) : R := (encR outs93 (o_make_Source_Next v).1, encMts mouts93 (o_make_Source_Next v).2)
theorem injO_make_Source_Next : ∀ a b, encO_make_Source_Next a = encO_make_Source_Next b → a = b := by
  rintro ⟨a0, ⟨a1, a2⟩⟩ ⟨b0, ⟨b1, b2⟩⟩ h
  have h1 := encR_inj (Prod.mk.inj h).1
  have h2 := encMts_inj (Prod.mk.inj h).2
  simp [o_make_Source_Next, map_inj encI_inj] at h1 h2
  simp [h1, h2]
noncomputable abbrev X_make_Source_Next (k1 : Int) (c2 : LI_I) (n : Nat) : Option R := (lvl Try.prog HH n).2 93 [.s (.one (.ptr 0 0 0)), .s (.one (.v (.int .i64 k1)))] [.own 2 true [[.fr 1 (List.map encI c2.c0), .v (.int .i64 c2.c1)]]]
noncomputable def F_make_Source_Next (k1 : Int) (c2 : LI_I) : Option (Int × LI_I) := den encO_make_Source_Next (X_make_Source_Next k1 c2)
theorem lim_make_Source_Next (k : Nat) (k1 : Int) (c2 : LI_I) : Lim (fun v => (encR outs93 (o_make_Source_Next v).1, encMts mouts93 (o_make_Source_Next v).2)) (fun n => (lvl Try.prog HH (n + k)).2 93 [.s (.one (.ptr 0 0 0)), .s (.one (.v (.int .i64 k1)))] [.own 2 true [[.fr 1 (List.map encI c2.c0), .v (.int .i64 c2.c1)]]]) (F_make_Source_Next k1 c2) := Lim.den (x := (X_make_Source_Next k1 c2)) k
theorem F_make_Source_Next_of (k1 : Int) (c2 : LI_I) : ∀ r, ((
    bif decide (c2.c1 ≥ (((c2.c0.length : Nat) : Int))) then (
      some (0, c2))
    else
    letIn (IntKind.wrap .i64 (c2.c1 + 1) : Int) fun n3 =>
    letIn (IntKind.wrap .i64 (n3 - 1) : Int) fun n4 =>
    bif decide (0 ≤ n4) then (
      (nth c2.c0 n4.toNat).bind fun x5 =>
      (F_make_Round x5 k1).bind fun y6 =>
      some (y6, (LI_I.mk c2.c0 n3)))
    else
    none) : Option (Int × LI_I)) = some r →
    F_make_Source_Next k1 c2 = some r := fun r h =>
  den_of (x := (X_make_Source_Next k1 c2)) injO_make_Source_Next 1 (Lim.cong (fun n => fn93s0 n k1 ((List.map encI c2.c0)) c2.c1) (by
      refine Lim.bif (by first | with_reducible rfl | (simp [map_upd] <;> rfl) | rfl) ?_ ?_
      · exact Lim.leaf rfl
      refine Lim.letIn rfl fun n3 => ?_
      refine Lim.letIn rfl fun n4 => ?_
      refine Lim.bif rfl ?_ Lim.none_
      refine Lim.nth encI rfl rfl fun x5 => ?_
      refine Lim.step rfl ?_
      refine Lim.step rfl ?_
      refine Lim.call o_make_Round (lim_make_Round 0 x5 k1) rfl rfl fun y6 => ?_
      exact Lim.leaf rfl
    )) h

/-! (*armplan/armplanmake.Source).Signed -/
abbrev o_make_Source_Signed (v : Int × LI_I) : VtsT outs97 × MtsT mouts97 := ((v.1, ()), (((List.map encI v.2.c0), v.2.c1, ()), ()))
abbrev encO_make_Source_Signed (v : Int × LI_I) : R := (encR outs97 (o_make_Source_Signed v).1, encMts mouts97 (o_make_Source_Signed v).2)
theorem injO_make_Source_Signed : ∀ a b, encO_make_Source_Signed a = encO_make_Source_Signed b → a = b := by
  rintro ⟨a0, ⟨a1, a2⟩⟩ ⟨b0, ⟨b1, b2⟩⟩ h
  have h1 := encR_inj (Prod.mk.inj h).1
  have h2 := encMts_inj (Prod.mk.inj h).2
  simp [o_make_Source_Signed, map_inj encI_inj] at h1 h2
  simp [h1, h2]
noncomputable abbrev X_make_Source_Signed (k1 : Int) (c2 : LI_I) (n : Nat) : Option R := (lvl Try.prog HH n).2 97 [.s (.one (.ptr 0 0 0)), .s (.one (.v (.int .i64 k1)))] [.own 2 true [[.fr 1 (List.map encI c2.c0), .v (.int .i64 c2.c1)]]]
noncomputable def F_make_Source_Signed (k1 : Int) (c2 : LI_I) : Option (Int × LI_I) := den encO_make_Source_Signed (X_make_Source_Signed k1 c2)
theorem lim_make_Source_Signed (k : Nat) (k1 : Int) (c2 : LI_I) : Lim (fun v => (encR outs97 (o_make_Source_Signed v).1, encMts mouts97 (o_make_Source_Signed v).2)) (fun n => (lvl Try.prog HH (n + k)).2 97 [.s (.one (.ptr 0 0 0)), .s (.one (.v (.int .i64 k1)))] [.own 2 true [[.fr 1 (List.map encI c2.c0), .v (.int .i64 c2.c1)]]]) (F_make_Source_Signed k1 c2) := Lim.den (x := (X_make_Source_Signed k1 c2)) k
theorem F_make_Source_Signed_of (k1 : Int) (c2 : LI_I) : ∀ r, ((
    letIn (IntKind.wrap .i64 (2 * k1) : Int) fun n3 =>
    letIn (IntKind.wrap .i64 (n3 + 1) : Int) fun n4 =>
    (F_make_Source_Next n4 c2).bind fun y5 =>
    letIn (IntKind.wrap .i64 (y5.1 - k1) : Int) fun n6 =>
    some (n6, y5.2)) : Option (Int × LI_I)) = some r →
    F_make_Source_Signed k1 c2 = some r := fun r h =>
  den_of (x := (X_make_Source_Signed k1 c2)) injO_make_Source_Signed 1 (Lim.cong (fun n => fn97s0 n k1 ((List.map encI c2.c0)) c2.c1) (by
      refine Lim.letIn rfl fun n3 => ?_
      refine Lim.letIn rfl fun n4 => ?_
      refine Lim.call o_make_Source_Next (lim_make_Source_Next 0 n4 c2) rfl rfl fun y5 => ?_
      refine Lim.letIn rfl fun n6 => ?_
      exact Lim.leaf rfl
    )) h

/-! armplan/armplanmake.Points -/
abbrev E_make_Points_0 : Type := ((List I6))
def enc_L_make_Points_0 (e : E_make_Points_0) : Ex × St := (.exit 0, encSt S34_0_e0 (((), ()), ((List.map encI6 e), ())))
theorem inj_L_make_Points_0 : ∀ a b, enc_L_make_Points_0 a = enc_L_make_Points_0 b → a = b := by
  rintro a0 b0 h
  first | (cases h; done) | (have h2 := encSt_inj rfl (Prod.mk.inj h).2; simp [map_inj encI6_inj] at h2; simp [h2]) | (have h2 := (Prod.mk.inj h).1; simp at h2) | rfl
abbrev E_make_Points_2 : Type := (Int × Int × LI_I × I3 × (List I6) × I6)
def enc_L_make_Points_2 (e : E_make_Points_2) : Ex × St := (.exit 2, encSt S34_2_e2 ((e.1, (), (), (), e.2.1, (), ()), (((List.map encI e.2.2.1.c0), e.2.2.1.c1, ()), (e.2.2.2.1.c0, e.2.2.2.1.c1, e.2.2.2.1.c2, ()), (List.map encI6 e.2.2.2.2.1), (e.2.2.2.2.2.c0, e.2.2.2.2.2.c1, e.2.2.2.2.2.c2, e.2.2.2.2.2.c3, e.2.2.2.2.2.c4, e.2.2.2.2.2.c5, ()), ())))
theorem inj_L_make_Points_2 : ∀ a b, enc_L_make_Points_2 a = enc_L_make_Points_2 b → a = b := by
  rintro ⟨a0, a1, ⟨a2, a3⟩, ⟨a4, a5, a6⟩, a7, ⟨a8, a9, a10, a11, a12, a13⟩⟩ ⟨b0, b1, ⟨b2, b3⟩, ⟨b4, b5, b6⟩, b7, ⟨b8, b9, b10, b11, b12, b13⟩⟩ h
  first | (cases h; done) | (have h2 := encSt_inj rfl (Prod.mk.inj h).2; simp [map_inj encI6_inj, map_inj encI_inj] at h2; simp [h2]) | (have h2 := (Prod.mk.inj h).1; simp at h2) | rfl
noncomputable abbrev X_L_make_Points_0 (v12 : Int) (v13 : Int) (c14 : LI_I) (c15 : I3) (es16 : List I6) (n : Nat) : Option (Ex × St) := (lvl Try.prog HH n).1 ⟨34, 0, true⟩ 0 (loopOf Try.f34 0) (encSt S34_0 ((v12, (), (), (), v13, ()), (((List.map encI c14.c0), c14.c1, ()), (c15.c0, c15.c1, c15.c2, ()), (List.map encI6 es16), ())))
noncomputable def L_make_Points_0 (v12 : Int) (v13 : Int) (c14 : LI_I) (c15 : I3) (es16 : List I6) : Option E_make_Points_0 := den enc_L_make_Points_0 (X_L_make_Points_0 v12 v13 c14 c15 es16)
theorem L_make_Points_0_of (v12 : Int) (v13 : Int) (c14 : LI_I) (c15 : I3) (es16 : List I6) : ∀ r, ((
    bif decide (v13 > 0) then (
      Option.bind (α := E_make_Points_2) (
        (F_make_Source_Signed 4 c14).bind fun y17 =>
        letIn (IntKind.wrap .i64 (y17.1 * 32768) : Int) fun n18 =>
        letIn (IntKind.wrap .i64 (c15.c0 + n18) : Int) fun n19 =>
        (F_make_Source_Signed 9 y17.2).bind fun y20 =>
        letIn (IntKind.wrap .i64 (n19 + y20.1) : Int) fun n21 =>
        letIn (IntKind.wrap .i64 (v12 + 1) : Int) fun n22 =>
        (F_make_Source_Next n22 y20.2).bind fun y23 =>
        letIn (IntKind.wrap .i64 (n21 + y23.1) : Int) fun n24 =>
        (F_make_Source_Signed 4 y23.2).bind fun y25 =>
        letIn (IntKind.wrap .i64 (y25.1 * 32768) : Int) fun n26 =>
        letIn (IntKind.wrap .i64 (c15.c1 + n26) : Int) fun n27 =>
        (F_make_Source_Signed 9 y25.2).bind fun y28 =>
        letIn (IntKind.wrap .i64 (n27 + y28.1) : Int) fun n29 =>
        letIn (IntKind.wrap .i64 (v12 + 1) : Int) fun n30 =>
        (F_make_Source_Next n30 y28.2).bind fun y31 =>
        letIn (IntKind.wrap .i64 (n29 + y31.1) : Int) fun n32 =>
        (F_make_Source_Signed 4 y31.2).bind fun y33 =>
        letIn (IntKind.wrap .i64 (y33.1 * 32768) : Int) fun n34 =>
        letIn (IntKind.wrap .i64 (c15.c2 + n34) : Int) fun n35 =>
        (F_make_Source_Signed 9 y33.2).bind fun y36 =>
        letIn (IntKind.wrap .i64 (n35 + y36.1) : Int) fun n37 =>
        letIn (IntKind.wrap .i64 (v12 + 1) : Int) fun n38 =>
        (F_make_Source_Next n38 y36.2).bind fun y39 =>
        letIn (IntKind.wrap .i64 (n37 + y39.1) : Int) fun n40 =>
        some ((v12, v13, y39.2, c15, es16, (I6.mk n21 n24 n29 n32 n37 n40)))) fun p41 =>
      bif decide ((p41.2.2.2.2.1.length + 1) * 48 ≤ 140737488355328) then (
        letIn (IntKind.wrap .i64 (p41.2.1 - 1) : Int) fun n42 =>
        L_make_Points_0 p41.1 n42 p41.2.2.1 p41.2.2.2.1 (p41.2.2.2.2.1 ++ [p41.2.2.2.2.2]))
      else
      none)
    else
    some es16) : Option E_make_Points_0) = some r →
    L_make_Points_0 v12 v13 c14 c15 es16 = some r := fun r h =>
  den_of (x := (X_L_make_Points_0 v12 v13 c14 c15 es16)) inj_L_make_Points_0 5 (Lim.cong (fun n => loop34_0 n v12 v13 ((List.map encI c14.c0)) c14.c1 c15.c0 c15.c1 c15.c2 ((List.map encI6 es16))) (by
      refine Lim.bif rfl ?_ ?_
      · refine Lim.bind (e := enc_L_make_Points_2) ?_ fun p41 => ?_
        · refine Lim.call o_make_Source_Signed (lim_make_Source_Signed 3 4 c14) rfl rfl fun y17 => ?_
          refine Lim.letIn rfl fun n18 => ?_
          refine Lim.letIn rfl fun n19 => ?_
          refine Lim.call o_make_Source_Signed (lim_make_Source_Signed 3 9 y17.2) rfl rfl fun y20 => ?_
          refine Lim.letIn rfl fun n21 => ?_
          refine Lim.letIn rfl fun n22 => ?_
          refine Lim.call o_make_Source_Next (lim_make_Source_Next 3 n22 y20.2) rfl rfl fun y23 => ?_
          refine Lim.letIn rfl fun n24 => ?_
          refine Lim.call o_make_Source_Signed (lim_make_Source_Signed 2 4 y23.2) rfl rfl fun y25 => ?_
          refine Lim.letIn rfl fun n26 => ?_
          refine Lim.letIn rfl fun n27 => ?_
          refine Lim.call o_make_Source_Signed (lim_make_Source_Signed 2 9 y25.2) rfl rfl fun y28 => ?_
          refine Lim.letIn rfl fun n29 => ?_
          refine Lim.letIn rfl fun n30 => ?_
          refine Lim.call o_make_Source_Next (lim_make_Source_Next 2 n30 y28.2) rfl rfl fun y31 => ?_
          refine Lim.letIn rfl fun n32 => ?_
          refine Lim.call o_make_Source_Signed (lim_make_Source_Signed 1 4 y31.2) rfl rfl fun y33 => ?_
          refine Lim.letIn rfl fun n34 => ?_
          refine Lim.letIn rfl fun n35 => ?_
          refine Lim.call o_make_Source_Signed (lim_make_Source_Signed 1 9 y33.2) rfl rfl fun y36 => ?_
          refine Lim.letIn rfl fun n37 => ?_
          refine Lim.letIn rfl fun n38 => ?_
          refine Lim.call o_make_Source_Next (lim_make_Source_Next 1 n38 y36.2) rfl rfl fun y39 => ?_
          refine Lim.letIn rfl fun n40 => ?_
          exact Lim.leaf rfl
        refine Lim.exit (.exit 2) S34_2_e2 ((p41.1, (), (), (), p41.2.1, (), ()), (((List.map encI p41.2.2.1.c0), p41.2.2.1.c1, ()), (p41.2.2.2.1.c0, p41.2.2.2.1.c1, p41.2.2.2.1.c2, ()), (List.map encI6 p41.2.2.2.2.1), (p41.2.2.2.2.2.c0, p41.2.2.2.2.2.c1, p41.2.2.2.2.2.c2, p41.2.2.2.2.2.c3, p41.2.2.2.2.2.c4, p41.2.2.2.2.2.c5, ()), ())) rfl rfl rfl ?_
        refine Lim.bif (by first | with_reducible rfl | (simp [map_upd, o_make_From, o_make_Source_Next, o_make_Source_Signed] <;> rfl) | (simp only [List.map_append, List.map_cons, List.map_nil, List.map_take, List.map_drop, map_upd, List.map_replicate, List.length_map, o_make_From, o_make_Source_Next, o_make_Source_Signed] <;> rfl) | (simp only [List.map_append, List.map_cons, List.map_nil, List.map_take, List.map_drop, map_upd, List.map_replicate, List.length_map, List.length_append, List.length_cons, List.length_nil, o_make_From, o_make_Source_Next, o_make_Source_Signed] <;> rfl) | rfl) ?_ Lim.none_
        refine Lim.letIn rfl fun n42 => ?_
        exact Lim.loop 4 (by first | with_reducible rfl | (simp [map_upd, o_make_From, o_make_Source_Next, o_make_Source_Signed] <;> rfl) | (simp only [List.map_append, List.map_cons, List.map_nil, List.map_take, List.map_drop, map_upd, List.map_replicate, List.length_map, o_make_From, o_make_Source_Next, o_make_Source_Signed] <;> rfl) | (simp only [List.map_append, List.map_cons, List.map_nil, List.map_take, List.map_drop, map_upd, List.map_replicate, List.length_map, List.length_append, List.length_cons, List.length_nil, o_make_From, o_make_Source_Next, o_make_Source_Signed] <;> rfl) | rfl)
      exact Lim.leaf rfl
    )) h
abbrev o_make_Points (v : (List I6)) : VtsT outs34 × MtsT mouts34 := (((), ()), ((List.map encI6 v), ()))
abbrev encO_make_Points (v : (List I6)) : R := (encR outs34 (o_make_Points v).1, encMts mouts34 (o_make_Points v).2)
theorem injO_make_Points : ∀ a b, encO_make_Points a = encO_make_Points b → a = b := by
  rintro a0 b0 h
  have h1 := encR_inj (Prod.mk.inj h).1
  have h2 := encMts_inj (Prod.mk.inj h).2
  simp [o_make_Points, map_inj encI6_inj] at h1 h2
  simp [h1, h2]
noncomputable abbrev X_make_Points (l1 : List Int) (width2 : Int) (n : Nat) : Option R := (lvl Try.prog HH n).2 34 [.s (.one (.fr 1 (List.map encI l1))), .s (.one (.v (.int .i64 width2)))] []
noncomputable def F_make_Points (l1 : List Int) (width2 : Int) : Option ((List I6)) := den encO_make_Points (X_make_Points l1 width2)
theorem lim_make_Points (k : Nat) (l1 : List Int) (width2 : Int) : Lim (fun v => (encR outs34 (o_make_Points v).1, encMts mouts34 (o_make_Points v).2)) (fun n => (lvl Try.prog HH (n + k)).2 34 [.s (.one (.fr 1 (List.map encI l1))), .s (.one (.v (.int .i64 width2)))] []) (F_make_Points l1 width2) := Lim.den (x := (X_make_Points l1 width2)) k
theorem F_make_Points_of (l1 : List Int) (width2 : Int) : ∀ r, ((
    (F_make_From l1).bind fun y3 =>
    (F_make_Source_Signed 6 y3).bind fun y4 =>
    letIn (IntKind.wrap .i64 (y4.1 * 32768) : Int) fun n5 =>
    (F_make_Source_Signed 6 y4.2).bind fun y6 =>
    letIn (IntKind.wrap .i64 (y6.1 * 32768) : Int) fun n7 =>
    (F_make_Source_Signed 3 y6.2).bind fun y8 =>
    letIn (IntKind.wrap .i64 (y8.1 * 32768) : Int) fun n9 =>
    (F_make_Source_Next 5 y8.2).bind fun y10 =>
    letIn (IntKind.wrap .i64 (1 + y10.1) : Int) fun n11 =>
    (L_make_Points_0 width2 n11 y10.2 ((I3.mk n5 n7 n9)) []).bind fun p43 =>
    some p43) : Option ((List I6))) = some r →
    F_make_Points l1 width2 = some r := fun r h =>
  den_of (x := (X_make_Points l1 width2)) injO_make_Points 1 (Lim.cong (fun n => fn34 n ((List.map encI l1)) width2) (by
      refine Lim.call o_make_From (lim_make_From 0 l1) rfl rfl fun y3 => ?_
      refine Lim.call o_make_Source_Signed (lim_make_Source_Signed 0 6 y3) rfl rfl fun y4 => ?_
      refine Lim.letIn rfl fun n5 => ?_
      refine Lim.call o_make_Source_Signed (lim_make_Source_Signed 0 6 y4.2) rfl rfl fun y6 => ?_
      refine Lim.letIn rfl fun n7 => ?_
      refine Lim.call o_make_Source_Signed (lim_make_Source_Signed 0 3 y6.2) rfl rfl fun y8 => ?_
      refine Lim.letIn rfl fun n9 => ?_
      refine Lim.call o_make_Source_Next (lim_make_Source_Next 0 5 y8.2) rfl rfl fun y10 => ?_
      refine Lim.letIn rfl fun n11 => ?_
      refine Lim.bind (show Lim enc_L_make_Points_0 _ (L_make_Points_0 width2 n11 y10.2 ((I3.mk n5 n7 n9)) []) from Lim.loop 0 (by first | with_reducible rfl | (simp [map_upd, o_make_From, o_make_Source_Next, o_make_Source_Signed] <;> rfl) | (simp only [List.map_append, List.map_cons, List.map_nil, List.map_take, List.map_drop, map_upd, List.map_replicate, List.length_map, o_make_From, o_make_Source_Next, o_make_Source_Signed] <;> rfl) | (simp only [List.map_append, List.map_cons, List.map_nil, List.map_take, List.map_drop, map_upd, List.map_replicate, List.length_map, List.length_append, List.length_cons, List.length_nil, o_make_From, o_make_Source_Next, o_make_Source_Signed] <;> rfl) | rfl)) fun p43 => ?_
      refine Lim.exit (.exit 0) S34_0_e0 (((), ()), ((List.map encI6 p43), ())) rfl rfl rfl ?_
      exact Lim.leaf rfl
    )) h

/-! armplan/armplanref1.Clamp -/
abbrev o_ref1_Clamp (v : Int) : VtsT outs102 × MtsT mouts102 := ((v, ()), ())
abbrev encO_ref1_Clamp (v : Int) : R := (encR outs102 (o_ref1_Clamp v).1, encMts mouts102 (o_ref1_Clamp v).2)
theorem injO_ref1_Clamp : ∀ a b, encO_ref1_Clamp a = encO_ref1_Clamp b → a = b := by
  rintro a0 b0 h
  have h1 := encR_inj (Prod.mk.inj h).1
  have h2 := encMts_inj (Prod.mk.inj h).2
  simp [o_ref1_Clamp] at h1 h2
  simp [h1, h2]
noncomputable abbrev X_ref1_Clamp (a1 : Int) (n : Nat) : Option R := (lvl Try.prog HH n).2 102 [.s (.one (.v (.int .i64 a1)))] []
noncomputable def F_ref1_Clamp (a1 : Int) : Option Int := den encO_ref1_Clamp (X_ref1_Clamp a1)
theorem lim_ref1_Clamp (k : Nat) (a1 : Int) : Lim (fun v => (encR outs102 (o_ref1_Clamp v).1, encMts mouts102 (o_ref1_Clamp v).2)) (fun n => (lvl Try.prog HH (n + k)).2 102 [.s (.one (.v (.int .i64 a1)))] []) (F_ref1_Clamp a1) := Lim.den (x := (X_ref1_Clamp a1)) k
theorem F_ref1_Clamp_of (a1 : Int) : ∀ r, ((
    letIn (if 2147483648 < a1 then 2147483648 else a1 : Int) fun n2 =>
    letIn (if n2 > (-2147483648) then n2 else (-2147483648) : Int) fun n3 =>
    some n3) : Option Int) = some r →
    F_ref1_Clamp a1 = some r := fun r h =>
  den_of (x := (X_ref1_Clamp a1)) injO_ref1_Clamp 1 (Lim.cong (fun n => fn102 n a1) (by
      refine Lim.letIn rfl fun n2 => ?_
      refine Lim.letIn rfl fun n3 => ?_
      exact Lim.leaf rfl
    )) h
def G_ref1_Clamp (a1 : Int) : Int :=
  letIn (if 2147483648 < a1 then 2147483648 else a1 : Int) fun n2 =>
  letIn (if n2 > (-2147483648) then n2 else (-2147483648) : Int) fun n3 =>
  n3
theorem F_ref1_Clamp_eq (a1 : Int) : F_ref1_Clamp a1 = some (G_ref1_Clamp a1) := F_ref1_Clamp_of a1 _ (by
  unfold G_ref1_Clamp
  refine Tot.letIn fun n2 => ?_
  refine Tot.letIn fun n3 => ?_
  rfl)

/-! armplan/armplanref1.Of -/
abbrev o_ref1_Of (v : I2) : VtsT outs47 × MtsT mouts47 := (((v.c0, v.c1, ()), ()), ())
abbrev encO_ref1_Of (v : I2) : R := (encR outs47 (o_ref1_Of v).1, encMts mouts47 (o_ref1_Of v).2)
theorem injO_ref1_Of : ∀ a b, encO_ref1_Of a = encO_ref1_Of b → a = b := by
  rintro ⟨a0, a1⟩ ⟨b0, b1⟩ h
  have h1 := encR_inj (Prod.mk.inj h).1
  have h2 := encMts_inj (Prod.mk.inj h).2
  simp [o_ref1_Of] at h1 h2
  simp [h1, h2]
noncomputable abbrev X_ref1_Of (x1 : Int) (n : Nat) : Option R := (lvl Try.prog HH n).2 47 [.s (.one (.v (.int .i64 x1)))] []
noncomputable def F_ref1_Of (x1 : Int) : Option I2 := den encO_ref1_Of (X_ref1_Of x1)
theorem lim_ref1_Of (k : Nat) (x1 : Int) : Lim (fun v => (encR outs47 (o_ref1_Of v).1, encMts mouts47 (o_ref1_Of v).2)) (fun n => (lvl Try.prog HH (n + k)).2 47 [.s (.one (.v (.int .i64 x1)))] []) (F_ref1_Of x1) := Lim.den (x := (X_ref1_Of x1)) k
theorem F_ref1_Of_of (x1 : Int) : ∀ r, ((
    (F_ref1_Clamp x1).bind fun y2 =>
    (F_ref1_Clamp x1).bind fun y3 =>
    some ((I2.mk y2 y3))) : Option I2) = some r →
    F_ref1_Of x1 = some r := fun r h =>
  den_of (x := (X_ref1_Of x1)) injO_ref1_Of 1 (Lim.cong (fun n => fn47 n x1) (by
      refine Lim.call o_ref1_Clamp (lim_ref1_Clamp 0 x1) rfl rfl fun y2 => ?_
      refine Lim.call o_ref1_Clamp (lim_ref1_Clamp 0 x1) rfl rfl fun y3 => ?_
      exact Lim.leaf rfl
    )) h
def G_ref1_Of (x1 : Int) : I2 :=
  letIn (G_ref1_Clamp x1) fun y2 =>
  letIn (G_ref1_Clamp x1) fun y3 =>
  ((I2.mk y2 y3))
theorem F_ref1_Of_eq (x1 : Int) : F_ref1_Of x1 = some (G_ref1_Of x1) := F_ref1_Of_of x1 _ (by
  unfold G_ref1_Of
  refine Tot.bind (F_ref1_Clamp_eq x1) fun y2 => ?_
  refine Tot.bind (F_ref1_Clamp_eq x1) fun y3 => ?_
  rfl)

/-! armplan/armplanref1.Point -/
abbrev o_ref1_Point (v : I6) : VtsT outs87 × MtsT mouts87 := (((v.c0, v.c1, v.c2, v.c3, v.c4, v.c5, ()), ()), ())
abbrev encO_ref1_Point (v : I6) : R := (encR outs87 (o_ref1_Point v).1, encMts mouts87 (o_ref1_Point v).2)
theorem injO_ref1_Point : ∀ a b, encO_ref1_Point a = encO_ref1_Point b → a = b := by
  rintro ⟨a0, a1, a2, a3, a4, a5⟩ ⟨b0, b1, b2, b3, b4, b5⟩ h
  have h1 := encR_inj (Prod.mk.inj h).1
  have h2 := encMts_inj (Prod.mk.inj h).2
  simp [o_ref1_Point] at h1 h2
  simp [h1, h2]
noncomputable abbrev X_ref1_Point (v1 : I3) (n : Nat) : Option R := (lvl Try.prog HH n).2 87 [.s (.agg true [.v (.int .i64 v1.c0), .v (.int .i64 v1.c1), .v (.int .i64 v1.c2)])] []
noncomputable def F_ref1_Point (v1 : I3) : Option I6 := den encO_ref1_Point (X_ref1_Point v1)
theorem lim_ref1_Point (k : Nat) (v1 : I3) : Lim (fun v => (encR outs87 (o_ref1_Point v).1, encMts mouts87 (o_ref1_Point v).2)) (fun n => (lvl Try.prog HH (n + k)).2 87 [.s (.agg true [.v (.int .i64 v1.c0), .v (.int .i64 v1.c1), .v (.int .i64 v1.c2)])] []) (F_ref1_Point v1) := Lim.den (x := (X_ref1_Point v1)) k
theorem F_ref1_Point_of (v1 : I3) : ∀ r, ((
    (F_ref1_Of v1.c0).bind fun y2 =>
    (F_ref1_Of v1.c1).bind fun y3 =>
    (F_ref1_Of v1.c2).bind fun y4 =>
    some ((I6.mk y2.c0 y2.c1 y3.c0 y3.c1 y4.c0 y4.c1))) : Option I6) = some r →
    F_ref1_Point v1 = some r := fun r h =>
  den_of (x := (X_ref1_Point v1)) injO_ref1_Point 1 (Lim.cong (fun n => fn87 n v1.c0 v1.c1 v1.c2) (by
      refine Lim.call o_ref1_Of (lim_ref1_Of 0 v1.c0) rfl rfl fun y2 => ?_
      refine Lim.call o_ref1_Of (lim_ref1_Of 0 v1.c1) rfl rfl fun y3 => ?_
      refine Lim.call o_ref1_Of (lim_ref1_Of 0 v1.c2) rfl rfl fun y4 => ?_
      exact Lim.leaf rfl
    )) h
def G_ref1_Point (v1 : I3) : I6 :=
  letIn (G_ref1_Of v1.c0) fun y2 =>
  letIn (G_ref1_Of v1.c1) fun y3 =>
  letIn (G_ref1_Of v1.c2) fun y4 =>
  ((I6.mk y2.c0 y2.c1 y3.c0 y3.c1 y4.c0 y4.c1))
theorem F_ref1_Point_eq (v1 : I3) : F_ref1_Point v1 = some (G_ref1_Point v1) := F_ref1_Point_of v1 _ (by
  unfold G_ref1_Point
  refine Tot.bind (F_ref1_Of_eq v1.c0) fun y2 => ?_
  refine Tot.bind (F_ref1_Of_eq v1.c1) fun y3 => ?_
  refine Tot.bind (F_ref1_Of_eq v1.c2) fun y4 => ?_
  rfl)

/-! armplan/armplanmake.Boxed -/
abbrev E_make_Boxed_0 : Type := ((List I6))
def enc_L_make_Boxed_0 (e : E_make_Boxed_0) : Ex × St := (.exit 0, encSt S98_0_e0 (((), ()), ((List.map encI6 e), ())))
theorem inj_L_make_Boxed_0 : ∀ a b, enc_L_make_Boxed_0 a = enc_L_make_Boxed_0 b → a = b := by
  rintro a0 b0 h
  first | (cases h; done) | (have h2 := encSt_inj rfl (Prod.mk.inj h).2; simp [map_inj encI6_inj] at h2; simp [h2]) | (have h2 := (Prod.mk.inj h).1; simp at h2) | rfl
noncomputable abbrev X_L_make_Boxed_0 (v2 : List I3) (v3 : Int) (es4 : List I6) (n : Nat) : Option (Ex × St) := (lvl Try.prog HH n).1 ⟨98, 0, true⟩ 0 (loopOf Try.f98 0) (encSt S98_0 (((List.map encI3 v2), (), v3, ()), ((List.map encI6 es4), ())))
noncomputable def L_make_Boxed_0 (v2 : List I3) (v3 : Int) (es4 : List I6) : Option E_make_Boxed_0 := den enc_L_make_Boxed_0 (X_L_make_Boxed_0 v2 v3 es4)
theorem L_make_Boxed_0_of (v2 : List I3) (v3 : Int) (es4 : List I6) : ∀ r, ((
    bif decide (v3 < (((v2.length : Nat) : Int))) then (
      bif decide (0 ≤ v3) then (
        (nth v2 v3.toNat).bind fun x5 =>
        (F_ref1_Point x5).bind fun y6 =>
        bif decide ((es4.length + 1) * 48 ≤ 140737488355328) then (
          letIn (IntKind.wrap .i64 (v3 + 1) : Int) fun n7 =>
          L_make_Boxed_0 v2 n7 (es4 ++ [y6]))
        else
        none)
      else
      none)
    else
    some es4) : Option E_make_Boxed_0) = some r →
    L_make_Boxed_0 v2 v3 es4 = some r := fun r h =>
  den_of (x := (X_L_make_Boxed_0 v2 v3 es4)) inj_L_make_Boxed_0 1 (Lim.cong (fun n => loop98_0 n ((List.map encI3 v2)) v3 ((List.map encI6 es4))) (by
      refine Lim.bif (by first | with_reducible rfl | (simp [map_upd, o_ref1_Point] <;> rfl) | (simp only [List.map_append, List.map_cons, List.map_nil, List.map_take, List.map_drop, map_upd, List.map_replicate, List.length_map, o_ref1_Point] <;> rfl) | (simp only [List.map_append, List.map_cons, List.map_nil, List.map_take, List.map_drop, map_upd, List.map_replicate, List.length_map, List.length_append, List.length_cons, List.length_nil, o_ref1_Point] <;> rfl) | rfl) ?_ ?_
      · refine Lim.bif rfl ?_ Lim.none_
        refine Lim.nth encI3 rfl rfl fun x5 => ?_
        refine Lim.bifT rfl ?_
        refine Lim.decC (x5.c0, x5.c1, x5.c2, ()) rfl ?_
        refine Lim.call o_ref1_Point (lim_ref1_Point 0 x5) rfl rfl fun y6 => ?_
        refine Lim.bif (by first | with_reducible rfl | (simp [map_upd, o_ref1_Point] <;> rfl) | (simp only [List.map_append, List.map_cons, List.map_nil, List.map_take, List.map_drop, map_upd, List.map_replicate, List.length_map, o_ref1_Point] <;> rfl) | (simp only [List.map_append, List.map_cons, List.map_nil, List.map_take, List.map_drop, map_upd, List.map_replicate, List.length_map, List.length_append, List.length_cons, List.length_nil, o_ref1_Point] <;> rfl) | rfl) ?_ Lim.none_
        refine Lim.letIn rfl fun n7 => ?_
        exact Lim.loop 0 (by first | with_reducible rfl | (simp [map_upd, o_ref1_Point] <;> rfl) | (simp only [List.map_append, List.map_cons, List.map_nil, List.map_take, List.map_drop, map_upd, List.map_replicate, List.length_map, o_ref1_Point] <;> rfl) | (simp only [List.map_append, List.map_cons, List.map_nil, List.map_take, List.map_drop, map_upd, List.map_replicate, List.length_map, List.length_append, List.length_cons, List.length_nil, o_ref1_Point] <;> rfl) | rfl)
      exact Lim.leaf rfl
    )) h
abbrev o_make_Boxed (v : (List I6)) : VtsT outs98 × MtsT mouts98 := (((List.map encI6 v), ()), ())
abbrev encO_make_Boxed (v : (List I6)) : R := (encR outs98 (o_make_Boxed v).1, encMts mouts98 (o_make_Boxed v).2)
theorem injO_make_Boxed : ∀ a b, encO_make_Boxed a = encO_make_Boxed b → a = b := by
  rintro a0 b0 h
  have h1 := encR_inj (Prod.mk.inj h).1
  have h2 := encMts_inj (Prod.mk.inj h).2
  simp [o_make_Boxed, map_inj encI6_inj] at h1 h2
  simp [h1, h2]
noncomputable abbrev X_make_Boxed (l1 : List I3) (n : Nat) : Option R := (lvl Try.prog HH n).2 98 [.s (.one (.fr 3 (List.map encI3 l1)))] []
noncomputable def F_make_Boxed (l1 : List I3) : Option ((List I6)) := den encO_make_Boxed (X_make_Boxed l1)
theorem lim_make_Boxed (k : Nat) (l1 : List I3) : Lim (fun v => (encR outs98 (o_make_Boxed v).1, encMts mouts98 (o_make_Boxed v).2)) (fun n => (lvl Try.prog HH (n + k)).2 98 [.s (.one (.fr 3 (List.map encI3 l1)))] []) (F_make_Boxed l1) := Lim.den (x := (X_make_Boxed l1)) k
theorem F_make_Boxed_of (l1 : List I3) : ∀ r, ((
    (L_make_Boxed_0 l1 0 []).bind fun p8 =>
    some p8) : Option ((List I6))) = some r →
    F_make_Boxed l1 = some r := fun r h =>
  den_of (x := (X_make_Boxed l1)) injO_make_Boxed 1 (Lim.cong (fun n => fn98 n ((List.map encI3 l1))) (by
      refine Lim.bind (show Lim enc_L_make_Boxed_0 _ (L_make_Boxed_0 l1 0 []) from Lim.loop 0 (by first | with_reducible rfl | (simp [map_upd, o_ref1_Point] <;> rfl) | (simp only [List.map_append, List.map_cons, List.map_nil, List.map_take, List.map_drop, map_upd, List.map_replicate, List.length_map, o_ref1_Point] <;> rfl) | (simp only [List.map_append, List.map_cons, List.map_nil, List.map_take, List.map_drop, map_upd, List.map_replicate, List.length_map, List.length_append, List.length_cons, List.length_nil, o_ref1_Point] <;> rfl) | rfl)) fun p8 => ?_
      refine Lim.exit (.exit 0) S98_0_e0 (((), ()), ((List.map encI6 p8), ())) rfl rfl rfl ?_
      exact Lim.leaf rfl
    )) h

/-! armplan/shape.reaches -/
abbrev o_shape_reaches (v : Bool) : VtsT outs161 × MtsT mouts161 := ((v, ()), ())
abbrev encO_shape_reaches (v : Bool) : R := (encR outs161 (o_shape_reaches v).1, encMts mouts161 (o_shape_reaches v).2)
theorem injO_shape_reaches : ∀ a b, encO_shape_reaches a = encO_shape_reaches b → a = b := by
  rintro a0 b0 h
  have h1 := encR_inj (Prod.mk.inj h).1
  have h2 := encMts_inj (Prod.mk.inj h).2
  simp [o_shape_reaches] at h1 h2
  simp [h1, h2]
noncomputable abbrev X_shape_reaches (a1 : I2) (n : Nat) : Option R := (lvl Try.prog HH n).2 161 [.s (.agg true [.v (.int .i64 a1.c0), .v (.int .i64 a1.c1)])] []
noncomputable def F_shape_reaches (a1 : I2) : Option Bool := den encO_shape_reaches (X_shape_reaches a1)
theorem lim_shape_reaches (k : Nat) (a1 : I2) : Lim (fun v => (encR outs161 (o_shape_reaches v).1, encMts mouts161 (o_shape_reaches v).2)) (fun n => (lvl Try.prog HH (n + k)).2 161 [.s (.agg true [.v (.int .i64 a1.c0), .v (.int .i64 a1.c1)])] []) (F_shape_reaches a1) := Lim.den (x := (X_shape_reaches a1)) k
theorem F_shape_reaches_of (a1 : I2) : ∀ r, ((
    bif decide (a1.c0 ≥ (-268435456)) then (
      bif decide (a1.c0 ≤ a1.c1) then (
        some (decide (a1.c1 ≤ 268435456)))
      else
      some false)
    else
    some false) : Option Bool) = some r →
    F_shape_reaches a1 = some r := fun r h =>
  den_of (x := (X_shape_reaches a1)) injO_shape_reaches 1 (Lim.cong (fun n => fn161 n a1.c0 a1.c1) (by
      refine Lim.bif rfl ?_ ?_
      · refine Lim.bif rfl ?_ ?_
        · exact Lim.leaf rfl
        exact Lim.leaf rfl
      exact Lim.leaf rfl
    )) h
def G_shape_reaches (a1 : I2) : Bool :=
  bif decide (a1.c0 ≥ (-268435456)) then (
    bif decide (a1.c0 ≤ a1.c1) then (
      (decide (a1.c1 ≤ 268435456)))
    else
    false)
  else
  false
theorem F_shape_reaches_eq (a1 : I2) : F_shape_reaches a1 = some (G_shape_reaches a1) := F_shape_reaches_of a1 _ (by
  unfold G_shape_reaches
  refine Tot.bif ?_ ?_
  · refine Tot.bif ?_ ?_
    · rfl
    rfl
  rfl)

/-! armplan/shape.Placed -/
abbrev E_shape_Placed_0 : Type := (Bool) ⊕ ((List I6))
def enc_L_shape_Placed_0 : E_shape_Placed_0 → Ex × St
  | .inl e => (.ret, encSt S99_0_r ((e, ()), ()))
  | .inr e => (.exit 0, encSt S99_0_e0 (((List.map encI6 e), ()), ()))
theorem inj_L_shape_Placed_0 : ∀ a b, enc_L_shape_Placed_0 a = enc_L_shape_Placed_0 b → a = b := by
  rintro (a0 | a0) (b0 | b0) h <;> (first | (cases h; done) | (have h2 := encSt_inj rfl (Prod.mk.inj h).2; simp [map_inj encI6_inj] at h2; simp [h2]) | (have h2 := (Prod.mk.inj h).1; simp at h2) | rfl)
noncomputable abbrev X_L_shape_Placed_0 (v2 : List I6) (v3 : List I6) (v4 : Int) (v5 : Int) (n : Nat) : Option (Ex × St) := (lvl Try.prog HH n).1 ⟨99, 0, true⟩ 0 (loopOf Try.f99 0) (encSt S99_0 (((List.map encI6 v2), (List.map encI6 v3), v4, v5, ()), ()))
noncomputable def L_shape_Placed_0 (v2 : List I6) (v3 : List I6) (v4 : Int) (v5 : Int) : Option E_shape_Placed_0 := den enc_L_shape_Placed_0 (X_L_shape_Placed_0 v2 v3 v4 v5)
theorem L_shape_Placed_0_of (v2 : List I6) (v3 : List I6) (v4 : Int) (v5 : Int) : ∀ r, ((
    bif decide (v5 < v4) then (
      bif decide (0 ≤ v5) then (
        (nth v3 v5.toNat).bind fun x6 =>
        (F_shape_reaches ((I2.mk x6.c0 x6.c1))).bind fun y7 =>
        bif !y7 then (
          some (.inl false))
        else
        (F_shape_reaches ((I2.mk x6.c2 x6.c3))).bind fun y8 =>
        bif !y8 then (
          some (.inl false))
        else
        (F_shape_reaches ((I2.mk x6.c4 x6.c5))).bind fun y9 =>
        bif !y9 then (
          some (.inl false))
        else
        letIn (IntKind.wrap .i64 (v5 + 1) : Int) fun n10 =>
        L_shape_Placed_0 v2 v3 v4 n10)
      else
      none)
    else
    some (.inr v2)) : Option E_shape_Placed_0) = some r →
    L_shape_Placed_0 v2 v3 v4 v5 = some r := fun r h =>
  den_of (x := (X_L_shape_Placed_0 v2 v3 v4 v5)) inj_L_shape_Placed_0 1 (Lim.cong (fun n => loop99_0 n ((List.map encI6 v2)) ((List.map encI6 v3)) v4 v5) (by
      refine Lim.bif rfl ?_ ?_
      · refine Lim.bif rfl ?_ Lim.none_
        refine Lim.nth encI6 rfl rfl fun x6 => ?_
        refine Lim.bifT rfl ?_
        refine Lim.decC (x6.c0, x6.c1, x6.c2, x6.c3, x6.c4, x6.c5, ()) rfl ?_
        refine Lim.call o_shape_reaches (lim_shape_reaches 0 ((I2.mk x6.c0 x6.c1))) rfl rfl fun y7 => ?_
        refine Lim.bif rfl ?_ ?_
        · exact Lim.leaf rfl
        refine Lim.call o_shape_reaches (lim_shape_reaches 0 ((I2.mk x6.c2 x6.c3))) rfl rfl fun y8 => ?_
        refine Lim.bif rfl ?_ ?_
        · exact Lim.leaf rfl
        refine Lim.call o_shape_reaches (lim_shape_reaches 0 ((I2.mk x6.c4 x6.c5))) rfl rfl fun y9 => ?_
        refine Lim.bif rfl ?_ ?_
        · exact Lim.leaf rfl
        refine Lim.letIn rfl fun n10 => ?_
        exact Lim.loop 0 rfl
      exact Lim.leaf rfl
    )) h
abbrev o_shape_Placed (v : Bool) : VtsT outs99 × MtsT mouts99 := ((v, ()), ())
abbrev encO_shape_Placed (v : Bool) : R := (encR outs99 (o_shape_Placed v).1, encMts mouts99 (o_shape_Placed v).2)
theorem injO_shape_Placed : ∀ a b, encO_shape_Placed a = encO_shape_Placed b → a = b := by
  rintro a0 b0 h
  have h1 := encR_inj (Prod.mk.inj h).1
  have h2 := encMts_inj (Prod.mk.inj h).2
  simp [o_shape_Placed] at h1 h2
  simp [h1, h2]
noncomputable abbrev X_shape_Placed (l1 : List I6) (n : Nat) : Option R := (lvl Try.prog HH n).2 99 [.s (.one (.fr 6 (List.map encI6 l1)))] []
noncomputable def F_shape_Placed (l1 : List I6) : Option Bool := den encO_shape_Placed (X_shape_Placed l1)
theorem lim_shape_Placed (k : Nat) (l1 : List I6) : Lim (fun v => (encR outs99 (o_shape_Placed v).1, encMts mouts99 (o_shape_Placed v).2)) (fun n => (lvl Try.prog HH (n + k)).2 99 [.s (.one (.fr 6 (List.map encI6 l1)))] []) (F_shape_Placed l1) := Lim.den (x := (X_shape_Placed l1)) k
theorem F_shape_Placed_of (l1 : List I6) : ∀ r, ((
    (L_shape_Placed_0 l1 l1 (((l1.length : Nat) : Int)) 0).bind fun p11 =>
    match p11 with
    | .inl e12 => (
      some e12)
    | .inr e13 => (
      bif decide ((((e13.length : Nat) : Int)) ≥ 1) then (
        some (decide ((((e13.length : Nat) : Int)) ≤ 8)))
      else
      some false)) : Option Bool) = some r →
    F_shape_Placed l1 = some r := fun r h =>
  den_of (x := (X_shape_Placed l1)) injO_shape_Placed 1 (Lim.cong (fun n => fn99 n ((List.map encI6 l1))) (by
      refine Lim.bind (show Lim enc_L_shape_Placed_0 _ (L_shape_Placed_0 l1 l1 (((l1.length : Nat) : Int)) 0) from Lim.loop 0 (by first | with_reducible rfl | (simp [map_upd] <;> rfl) | rfl)) fun p11 => ?_
      rcases p11 with e12 | e13
      · refine Lim.exit (.ret) S99_0_r ((e12, ()), ()) rfl rfl rfl ?_
        exact Lim.leaf rfl
      · refine Lim.bifF rfl ?_
        refine Lim.exit (.exit 0) S99_0_e0 (((List.map encI6 e13), ()), ()) rfl rfl rfl ?_
        refine Lim.bif (by first | with_reducible rfl | (simp [map_upd] <;> rfl) | rfl) ?_ ?_
        · exact Lim.leaf (by first | rfl | (simp [o_shape_Placed, map_upd] <;> first | rfl | exact ⟨rfl, rfl⟩))
        exact Lim.leaf rfl
    )) h

/-! armplan/shape.Combine -/
abbrev E_shape_Combine_0 : Type := (Int × Bool × I6) ⊕ (Int × I6 × I6)
def enc_L_shape_Combine_0 : E_shape_Combine_0 → Ex × St
  | .inl e => (.ret, encSt S38_0_r (((), e.1, e.2.1, ()), ((e.2.2.c0, e.2.2.c1, e.2.2.c2, e.2.2.c3, e.2.2.c4, e.2.2.c5, ()), ())))
  | .inr e => (.exit 0, encSt S38_0_e0 (((), (), e.1, ()), ((e.2.1.c0, e.2.1.c1, e.2.1.c2, e.2.1.c3, e.2.1.c4, e.2.1.c5, ()), (e.2.2.c0, e.2.2.c1, e.2.2.c2, e.2.2.c3, e.2.2.c4, e.2.2.c5, ()), ())))
theorem inj_L_shape_Combine_0 : ∀ a b, enc_L_shape_Combine_0 a = enc_L_shape_Combine_0 b → a = b := by
  rintro (⟨a0, a1, ⟨a2, a3, a4, a5, a6, a7⟩⟩ | ⟨a0, ⟨a1, a2, a3, a4, a5, a6⟩, ⟨a7, a8, a9, a10, a11, a12⟩⟩) (⟨b0, b1, ⟨b2, b3, b4, b5, b6, b7⟩⟩ | ⟨b0, ⟨b1, b2, b3, b4, b5, b6⟩, ⟨b7, b8, b9, b10, b11, b12⟩⟩) h <;> (first | (cases h; done) | (have h2 := encSt_inj rfl (Prod.mk.inj h).2; simp [] at h2; simp [h2]) | (have h2 := (Prod.mk.inj h).1; simp at h2) | rfl)
abbrev E_shape_Combine_2 : Type := ((List I6) × Int × (List Int) × Int × Int × I6 × I6)
def enc_L_shape_Combine_2 (e : E_shape_Combine_2) : Ex × St := (.exit 2, encSt S38_2_e2 (((List.map encI6 e.1), (), (), e.2.1, (List.map encI e.2.2.1), e.2.2.2.1, e.2.2.2.2.1, ()), ((e.2.2.2.2.2.1.c0, e.2.2.2.2.2.1.c1, e.2.2.2.2.2.1.c2, e.2.2.2.2.2.1.c3, e.2.2.2.2.2.1.c4, e.2.2.2.2.2.1.c5, ()), (e.2.2.2.2.2.2.c0, e.2.2.2.2.2.2.c1, e.2.2.2.2.2.2.c2, e.2.2.2.2.2.2.c3, e.2.2.2.2.2.2.c4, e.2.2.2.2.2.2.c5, ()), ())))
theorem inj_L_shape_Combine_2 : ∀ a b, enc_L_shape_Combine_2 a = enc_L_shape_Combine_2 b → a = b := by
  rintro ⟨a0, a1, a2, a3, a4, ⟨a5, a6, a7, a8, a9, a10⟩, ⟨a11, a12, a13, a14, a15, a16⟩⟩ ⟨b0, b1, b2, b3, b4, ⟨b5, b6, b7, b8, b9, b10⟩, ⟨b11, b12, b13, b14, b15, b16⟩⟩ h
  first | (cases h; done) | (have h2 := encSt_inj rfl (Prod.mk.inj h).2; simp [map_inj encI6_inj, map_inj encI_inj] at h2; simp [h2]) | (have h2 := (Prod.mk.inj h).1; simp at h2) | rfl
noncomputable abbrev X_L_shape_Combine_0 (v4 : List I6) (v5 : Int) (v6 : List Int) (v7 : Int) (v8 : Int) (c9 : I6) (c10 : I6) (n : Nat) : Option (Ex × St) := (lvl Try.prog HH n).1 ⟨38, 0, true⟩ 0 (loopOf Try.f38 0) (encSt S38_0 (((List.map encI6 v4), (), (), v5, (List.map encI v6), v7, v8, ()), ((c9.c0, c9.c1, c9.c2, c9.c3, c9.c4, c9.c5, ()), (c10.c0, c10.c1, c10.c2, c10.c3, c10.c4, c10.c5, ()), ())))
noncomputable def L_shape_Combine_0 (v4 : List I6) (v5 : Int) (v6 : List Int) (v7 : Int) (v8 : Int) (c9 : I6) (c10 : I6) : Option E_shape_Combine_0 := den enc_L_shape_Combine_0 (X_L_shape_Combine_0 v4 v5 v6 v7 v8 c9 c10)
theorem L_shape_Combine_0_of (v4 : List I6) (v5 : Int) (v6 : List Int) (v7 : Int) (v8 : Int) (c9 : I6) (c10 : I6) : ∀ r, ((
    bif decide (v8 < v7) then (
      bif decide (0 ≤ v8) then (
        (nth v6 v8.toNat).bind fun x11 =>
        bif decide (x11 < 0) then (
          some (.inl ((0, false, (I6.mk 0 0 0 0 0 0)))))
        else
        bif decide (x11 > 65536) then (
          some (.inl ((0, false, (I6.mk 0 0 0 0 0 0)))))
        else
        letIn (IntKind.wrap .i64 (v5 + x11) : Int) fun n12 =>
        Option.bind (α := E_shape_Combine_2) (
          bif decide (0 ≤ v8) then (
            (nth v4 v8.toNat).bind fun x13 =>
            letIn (IntKind.wrap .i64 (x11 * x13.c0) : Int) fun n14 =>
            letIn (IntKind.wrap .i64 (c10.c0 + n14) : Int) fun n15 =>
            bif decide (0 ≤ v8) then (
              (nth v4 v8.toNat).bind fun x16 =>
              letIn (IntKind.wrap .i64 (x11 * x16.c1) : Int) fun n17 =>
              letIn (IntKind.wrap .i64 (c10.c1 + n17) : Int) fun n18 =>
              bif decide (0 ≤ v8) then (
                (nth v4 v8.toNat).bind fun x19 =>
                letIn (IntKind.wrap .i64 (x11 * x19.c2) : Int) fun n20 =>
                letIn (IntKind.wrap .i64 (c10.c2 + n20) : Int) fun n21 =>
                bif decide (0 ≤ v8) then (
                  (nth v4 v8.toNat).bind fun x22 =>
                  letIn (IntKind.wrap .i64 (x11 * x22.c3) : Int) fun n23 =>
                  letIn (IntKind.wrap .i64 (c10.c3 + n23) : Int) fun n24 =>
                  bif decide (0 ≤ v8) then (
                    (nth v4 v8.toNat).bind fun x25 =>
                    letIn (IntKind.wrap .i64 (x11 * x25.c4) : Int) fun n26 =>
                    letIn (IntKind.wrap .i64 (c10.c4 + n26) : Int) fun n27 =>
                    bif decide (0 ≤ v8) then (
                      (nth v4 v8.toNat).bind fun x28 =>
                      letIn (IntKind.wrap .i64 (x11 * x28.c5) : Int) fun n29 =>
                      letIn (IntKind.wrap .i64 (c10.c5 + n29) : Int) fun n30 =>
                      some ((v4, n12, v6, v7, v8, c9, (I6.mk n15 n18 n21 n24 n27 n30))))
                    else
                    none)
                  else
                  none)
                else
                none)
              else
              none)
            else
            none)
          else
          none) fun p31 =>
        letIn (IntKind.wrap .i64 (p31.2.2.2.2.1 + 1) : Int) fun n32 =>
        L_shape_Combine_0 p31.1 p31.2.1 p31.2.2.1 p31.2.2.2.1 n32 p31.2.2.2.2.2.1 p31.2.2.2.2.2.2)
      else
      none)
    else
    some (.inr ((v5, c9, c10)))) : Option E_shape_Combine_0) = some r →
    L_shape_Combine_0 v4 v5 v6 v7 v8 c9 c10 = some r := fun r h =>
  den_of (x := (X_L_shape_Combine_0 v4 v5 v6 v7 v8 c9 c10)) inj_L_shape_Combine_0 5 (Lim.cong (fun n => loop38_0 n ((List.map encI6 v4)) v5 ((List.map encI v6)) v7 v8 c9.c0 c9.c1 c9.c2 c9.c3 c9.c4 c9.c5 c10.c0 c10.c1 c10.c2 c10.c3 c10.c4 c10.c5) (by
      refine Lim.bif rfl ?_ ?_
      · refine Lim.bif rfl ?_ Lim.none_
        refine Lim.nth encI rfl rfl fun x11 => ?_
        refine Lim.step rfl ?_
        refine Lim.step rfl ?_
        refine Lim.bif rfl ?_ ?_
        · exact Lim.leaf rfl
        refine Lim.bif rfl ?_ ?_
        · exact Lim.leaf rfl
        refine Lim.letIn rfl fun n12 => ?_
        refine Lim.bind (e := enc_L_shape_Combine_2) ?_ fun p31 => ?_
        · refine Lim.bif rfl ?_ Lim.none_
          refine Lim.nth encI6 rfl rfl fun x13 => ?_
          refine Lim.step rfl ?_
          refine Lim.step rfl ?_
          refine Lim.letIn rfl fun n14 => ?_
          refine Lim.letIn rfl fun n15 => ?_
          refine Lim.bif rfl ?_ Lim.none_
          refine Lim.nth encI6 rfl rfl fun x16 => ?_
          refine Lim.step rfl ?_
          refine Lim.step rfl ?_
          refine Lim.letIn rfl fun n17 => ?_
          refine Lim.letIn rfl fun n18 => ?_
          refine Lim.bif rfl ?_ Lim.none_
          refine Lim.nth encI6 rfl rfl fun x19 => ?_
          refine Lim.step rfl ?_
          refine Lim.step rfl ?_
          refine Lim.letIn rfl fun n20 => ?_
          refine Lim.letIn rfl fun n21 => ?_
          refine Lim.bif rfl ?_ Lim.none_
          refine Lim.nth encI6 rfl rfl fun x22 => ?_
          refine Lim.step rfl ?_
          refine Lim.step rfl ?_
          refine Lim.letIn rfl fun n23 => ?_
          refine Lim.letIn rfl fun n24 => ?_
          refine Lim.bif rfl ?_ Lim.none_
          refine Lim.nth encI6 rfl rfl fun x25 => ?_
          refine Lim.step rfl ?_
          refine Lim.step rfl ?_
          refine Lim.letIn rfl fun n26 => ?_
          refine Lim.letIn rfl fun n27 => ?_
          refine Lim.bif rfl ?_ Lim.none_
          refine Lim.nth encI6 rfl rfl fun x28 => ?_
          refine Lim.step rfl ?_
          refine Lim.step rfl ?_
          refine Lim.letIn rfl fun n29 => ?_
          refine Lim.letIn rfl fun n30 => ?_
          exact Lim.leaf rfl
        refine Lim.exit (.exit 2) S38_2_e2 (((List.map encI6 p31.1), (), (), p31.2.1, (List.map encI p31.2.2.1), p31.2.2.2.1, p31.2.2.2.2.1, ()), ((p31.2.2.2.2.2.1.c0, p31.2.2.2.2.2.1.c1, p31.2.2.2.2.2.1.c2, p31.2.2.2.2.2.1.c3, p31.2.2.2.2.2.1.c4, p31.2.2.2.2.2.1.c5, ()), (p31.2.2.2.2.2.2.c0, p31.2.2.2.2.2.2.c1, p31.2.2.2.2.2.2.c2, p31.2.2.2.2.2.2.c3, p31.2.2.2.2.2.2.c4, p31.2.2.2.2.2.2.c5, ()), ())) rfl rfl rfl ?_
        refine Lim.letIn rfl fun n32 => ?_
        exact Lim.loop 4 rfl
      exact Lim.leaf rfl
    )) h
abbrev o_shape_Combine (v : I6 × Int × Bool) : VtsT outs38 × MtsT mouts38 := (((v.1.c0, v.1.c1, v.1.c2, v.1.c3, v.1.c4, v.1.c5, ()), v.2.1, v.2.2, ()), ())
abbrev encO_shape_Combine (v : I6 × Int × Bool) : R := (encR outs38 (o_shape_Combine v).1, encMts mouts38 (o_shape_Combine v).2)
theorem injO_shape_Combine : ∀ a b, encO_shape_Combine a = encO_shape_Combine b → a = b := by
  rintro ⟨⟨a0, a1, a2, a3, a4, a5⟩, a6, a7⟩ ⟨⟨b0, b1, b2, b3, b4, b5⟩, b6, b7⟩ h
  have h1 := encR_inj (Prod.mk.inj h).1
  have h2 := encMts_inj (Prod.mk.inj h).2
  simp [o_shape_Combine] at h1 h2
  simp [h1, h2]
noncomputable abbrev X_shape_Combine (l1 : List I6) (weights2 : List Int) (n : Nat) : Option R := (lvl Try.prog HH n).2 38 [.s (.one (.fr 6 (List.map encI6 l1))), .s (.one (.fr 1 (List.map encI weights2)))] []
noncomputable def F_shape_Combine (l1 : List I6) (weights2 : List Int) : Option (I6 × Int × Bool) := den encO_shape_Combine (X_shape_Combine l1 weights2)
theorem lim_shape_Combine (k : Nat) (l1 : List I6) (weights2 : List Int) : Lim (fun v => (encR outs38 (o_shape_Combine v).1, encMts mouts38 (o_shape_Combine v).2)) (fun n => (lvl Try.prog HH (n + k)).2 38 [.s (.one (.fr 6 (List.map encI6 l1))), .s (.one (.fr 1 (List.map encI weights2)))] []) (F_shape_Combine l1 weights2) := Lim.den (x := (X_shape_Combine l1 weights2)) k
theorem F_shape_Combine_of (l1 : List I6) (weights2 : List Int) : ∀ r, ((
    (F_shape_Placed l1).bind fun y3 =>
    bif !y3 then (
      some ((I6.mk 0 0 0 0 0 0), 0, false))
    else
    bif (((weights2.length : Nat) : Int)) != (((l1.length : Nat) : Int)) then (
      some ((I6.mk 0 0 0 0 0 0), 0, false))
    else
    (L_shape_Combine_0 l1 0 weights2 (((weights2.length : Nat) : Int)) 0 ((I6.mk 0 0 0 0 0 0)) ((I6.mk 0 0 0 0 0 0))).bind fun p33 =>
    match p33 with
    | .inl e34 => (
      some (e34.2.2, e34.1, e34.2.1))
    | .inr e35 => (
      bif decide (e35.1 < 1) then (
        some ((I6.mk 0 0 0 0 0 0), 0, false))
      else
      bif decide (e35.1 > 65536) then (
        some ((I6.mk 0 0 0 0 0 0), 0, false))
      else
      some (e35.2.2, e35.1, true))) : Option (I6 × Int × Bool)) = some r →
    F_shape_Combine l1 weights2 = some r := fun r h =>
  den_of (x := (X_shape_Combine l1 weights2)) injO_shape_Combine 1 (Lim.cong (fun n => fn38 n ((List.map encI6 l1)) ((List.map encI weights2))) (by
      refine Lim.call o_shape_Placed (lim_shape_Placed 0 l1) rfl rfl fun y3 => ?_
      refine Lim.bif rfl ?_ ?_
      · exact Lim.leaf rfl
      refine Lim.bif (by first | with_reducible rfl | (simp [map_upd] <;> rfl) | rfl) ?_ ?_
      · exact Lim.leaf rfl
      refine Lim.bind (show Lim enc_L_shape_Combine_0 _ (L_shape_Combine_0 l1 0 weights2 (((weights2.length : Nat) : Int)) 0 ((I6.mk 0 0 0 0 0 0)) ((I6.mk 0 0 0 0 0 0))) from Lim.loop 0 (by first | with_reducible rfl | (simp [map_upd] <;> rfl) | rfl)) fun p33 => ?_
      rcases p33 with e34 | e35
      · refine Lim.exit (.ret) S38_0_r (((), e34.1, e34.2.1, ()), ((e34.2.2.c0, e34.2.2.c1, e34.2.2.c2, e34.2.2.c3, e34.2.2.c4, e34.2.2.c5, ()), ())) rfl rfl rfl ?_
        exact Lim.leaf rfl
      · refine Lim.bifF rfl ?_
        refine Lim.exit (.exit 0) S38_0_e0 (((), (), e35.1, ()), ((e35.2.1.c0, e35.2.1.c1, e35.2.1.c2, e35.2.1.c3, e35.2.1.c4, e35.2.1.c5, ()), (e35.2.2.c0, e35.2.2.c1, e35.2.2.c2, e35.2.2.c3, e35.2.2.c4, e35.2.2.c5, ()), ())) rfl rfl rfl ?_
        refine Lim.bif rfl ?_ ?_
        · exact Lim.leaf rfl
        refine Lim.bif rfl ?_ ?_
        · exact Lim.leaf rfl
        exact Lim.leaf rfl
    )) h

/-! armplan/armplanlaw10.awake -/
abbrev o_law10_awake (v : Bool) : VtsT outs36 × MtsT mouts36 := ((v, ()), ())
abbrev encO_law10_awake (v : Bool) : R := (encR outs36 (o_law10_awake v).1, encMts mouts36 (o_law10_awake v).2)
theorem injO_law10_awake : ∀ a b, encO_law10_awake a = encO_law10_awake b → a = b := by
  rintro a0 b0 h
  have h1 := encR_inj (Prod.mk.inj h).1
  have h2 := encMts_inj (Prod.mk.inj h).2
  simp [o_law10_awake] at h1 h2
  simp [h1, h2]
noncomputable abbrev X_law10_awake  (n : Nat) : Option R := (lvl Try.prog HH n).2 36 [] []
noncomputable def F_law10_awake  : Option Bool := den encO_law10_awake X_law10_awake
theorem lim_law10_awake (k : Nat)  : Lim (fun v => (encR outs36 (o_law10_awake v).1, encMts mouts36 (o_law10_awake v).2)) (fun n => (lvl Try.prog HH (n + k)).2 36 [] []) (F_law10_awake) := Lim.den (x := X_law10_awake) k
theorem F_law10_awake_of  : ∀ r, ((
    (F_make_Boxed [(I3.mk 0 0 0), (I3.mk 4 0 0)]).bind fun y1 =>
    (F_shape_Combine y1 [1, 3]).bind fun y2 =>
    bif y2.2.2 then (
      bif y2.2.1 == 4 then (
        (F_ref1_Point ((I3.mk 12 0 0))).bind fun y3 =>
        letIn (((y2.1.c0 == y3.c0) && ((y2.1.c1 == y3.c1) && true)) && (((y2.1.c2 == y3.c2) && ((y2.1.c3 == y3.c3) && true)) && (((y2.1.c4 == y3.c4) && ((y2.1.c5 == y3.c5) && true)) && true)) : Bool) fun b4 =>
        bif b4 then (
          (F_make_Boxed [(I3.mk 1 0 0)]).bind fun y5 =>
          (F_shape_Placed y5).bind fun y6 =>
          some y6)
        else
        some false)
      else
      some false)
    else
    some false) : Option Bool) = some r →
    F_law10_awake = some r := fun r h =>
  den_of (x := X_law10_awake) injO_law10_awake 1 (Lim.cong (fun n => fn36 n ) (by
      refine Lim.call o_make_Boxed (lim_make_Boxed 0 [(I3.mk 0 0 0), (I3.mk 4 0 0)]) (by first | with_reducible rfl | (simp [map_upd, o_shape_Combine, o_ref1_Point, o_make_Boxed] <;> rfl) | (simp only [List.map_append, List.map_cons, List.map_nil, List.map_take, List.map_drop, map_upd, List.map_replicate, List.length_map, o_shape_Combine, o_ref1_Point, o_make_Boxed] <;> rfl) | (simp only [List.map_append, List.map_cons, List.map_nil, List.map_take, List.map_drop, map_upd, List.map_replicate, List.length_map, List.length_append, List.length_cons, List.length_nil, o_shape_Combine, o_ref1_Point, o_make_Boxed] <;> rfl) | rfl) (by first | with_reducible rfl | (simp [map_upd, o_shape_Combine, o_ref1_Point, o_make_Boxed] <;> rfl) | (simp only [List.map_append, List.map_cons, List.map_nil, List.map_take, List.map_drop, map_upd, List.map_replicate, List.length_map, o_shape_Combine, o_ref1_Point, o_make_Boxed] <;> rfl) | (simp only [List.map_append, List.map_cons, List.map_nil, List.map_take, List.map_drop, map_upd, List.map_replicate, List.length_map, List.length_append, List.length_cons, List.length_nil, o_shape_Combine, o_ref1_Point, o_make_Boxed] <;> rfl) | rfl) fun y1 => ?_
      refine Lim.call o_shape_Combine (lim_shape_Combine 0 y1 [1, 3]) (by first | with_reducible rfl | (simp [map_upd, o_shape_Combine, o_ref1_Point, o_make_Boxed] <;> rfl) | (simp only [List.map_append, List.map_cons, List.map_nil, List.map_take, List.map_drop, map_upd, List.map_replicate, List.length_map, o_shape_Combine, o_ref1_Point, o_make_Boxed] <;> rfl) | (simp only [List.map_append, List.map_cons, List.map_nil, List.map_take, List.map_drop, map_upd, List.map_replicate, List.length_map, List.length_append, List.length_cons, List.length_nil, o_shape_Combine, o_ref1_Point, o_make_Boxed] <;> rfl) | rfl) (by first | with_reducible rfl | (simp [map_upd, o_shape_Combine, o_ref1_Point, o_make_Boxed] <;> rfl) | (simp only [List.map_append, List.map_cons, List.map_nil, List.map_take, List.map_drop, map_upd, List.map_replicate, List.length_map, o_shape_Combine, o_ref1_Point, o_make_Boxed] <;> rfl) | (simp only [List.map_append, List.map_cons, List.map_nil, List.map_take, List.map_drop, map_upd, List.map_replicate, List.length_map, List.length_append, List.length_cons, List.length_nil, o_shape_Combine, o_ref1_Point, o_make_Boxed] <;> rfl) | rfl) fun y2 => ?_
      refine Lim.bif rfl ?_ ?_
      · refine Lim.bif rfl ?_ ?_
        · refine Lim.call o_ref1_Point (lim_ref1_Point 0 ((I3.mk 12 0 0))) rfl rfl fun y3 => ?_
          refine Lim.letIn rfl fun b4 => ?_
          refine Lim.bif rfl ?_ ?_
          · refine Lim.call o_make_Boxed (lim_make_Boxed 0 [(I3.mk 1 0 0)]) (by first | with_reducible rfl | (simp [map_upd, o_shape_Combine, o_ref1_Point, o_make_Boxed] <;> rfl) | (simp only [List.map_append, List.map_cons, List.map_nil, List.map_take, List.map_drop, map_upd, List.map_replicate, List.length_map, o_shape_Combine, o_ref1_Point, o_make_Boxed] <;> rfl) | (simp only [List.map_append, List.map_cons, List.map_nil, List.map_take, List.map_drop, map_upd, List.map_replicate, List.length_map, List.length_append, List.length_cons, List.length_nil, o_shape_Combine, o_ref1_Point, o_make_Boxed] <;> rfl) | rfl) (by first | with_reducible rfl | (simp [map_upd, o_shape_Combine, o_ref1_Point, o_make_Boxed] <;> rfl) | (simp only [List.map_append, List.map_cons, List.map_nil, List.map_take, List.map_drop, map_upd, List.map_replicate, List.length_map, o_shape_Combine, o_ref1_Point, o_make_Boxed] <;> rfl) | (simp only [List.map_append, List.map_cons, List.map_nil, List.map_take, List.map_drop, map_upd, List.map_replicate, List.length_map, List.length_append, List.length_cons, List.length_nil, o_shape_Combine, o_ref1_Point, o_make_Boxed] <;> rfl) | rfl) fun y5 => ?_
            refine Lim.call o_shape_Placed (lim_shape_Placed 0 y5) rfl rfl fun y6 => ?_
            exact Lim.leaf rfl
          exact Lim.leaf rfl
        exact Lim.leaf rfl
      exact Lim.leaf rfl
    )) h

/-! armplan/armplanref10.reached -/
abbrev E_ref10_reached_0 : Type := (Bool) ⊕ (Unit)
def enc_L_ref10_reached_0 : E_ref10_reached_0 → Ex × St
  | .inl e => (.ret, encSt S164_0_r ((e, ()), ()))
  | .inr e => (.exit 0, encSt S164_0_e0 ((), ()))
theorem inj_L_ref10_reached_0 : ∀ a b, enc_L_ref10_reached_0 a = enc_L_ref10_reached_0 b → a = b := by
  rintro (a0 | _) (b0 | _) h <;> (first | (cases h; done) | (have h2 := encSt_inj rfl (Prod.mk.inj h).2; simp [] at h2; simp [h2]) | (have h2 := (Prod.mk.inj h).1; simp at h2) | rfl)
abbrev o_ref10_reached (v : Bool) : VtsT outs164 × MtsT mouts164 := ((v, ()), ())
abbrev encO_ref10_reached (v : Bool) : R := (encR outs164 (o_ref10_reached v).1, encMts mouts164 (o_ref10_reached v).2)
theorem injO_ref10_reached : ∀ a b, encO_ref10_reached a = encO_ref10_reached b → a = b := by
  rintro a0 b0 h
  have h1 := encR_inj (Prod.mk.inj h).1
  have h2 := encMts_inj (Prod.mk.inj h).2
  simp [o_ref10_reached] at h1 h2
  simp [h1, h2]
noncomputable abbrev X_ref10_reached (v1 : I6) (n : Nat) : Option R := (lvl Try.prog HH n).2 164 [.s (.agg true [.v (.int .i64 v1.c0), .v (.int .i64 v1.c1), .v (.int .i64 v1.c2), .v (.int .i64 v1.c3), .v (.int .i64 v1.c4), .v (.int .i64 v1.c5)])] []
noncomputable def F_ref10_reached (v1 : I6) : Option Bool := den encO_ref10_reached (X_ref10_reached v1)
theorem lim_ref10_reached (k : Nat) (v1 : I6) : Lim (fun v => (encR outs164 (o_ref10_reached v).1, encMts mouts164 (o_ref10_reached v).2)) (fun n => (lvl Try.prog HH (n + k)).2 164 [.s (.agg true [.v (.int .i64 v1.c0), .v (.int .i64 v1.c1), .v (.int .i64 v1.c2), .v (.int .i64 v1.c3), .v (.int .i64 v1.c4), .v (.int .i64 v1.c5)])] []) (F_ref10_reached v1) := Lim.den (x := (X_ref10_reached v1)) k
theorem F_ref10_reached_of (v1 : I6) : ∀ r, ((
    Option.bind (α := E_ref10_reached_0) (
      bif decide (v1.c0 < (-268435456)) then (
        some (.inl false))
      else
      bif decide (v1.c0 > v1.c1) then (
        some (.inl false))
      else
      bif decide (v1.c1 > 268435456) then (
        some (.inl false))
      else
      bif decide (v1.c2 < (-268435456)) then (
        some (.inl false))
      else
      bif decide (v1.c2 > v1.c3) then (
        some (.inl false))
      else
      bif decide (v1.c3 > 268435456) then (
        some (.inl false))
      else
      bif decide (v1.c4 < (-268435456)) then (
        some (.inl false))
      else
      bif decide (v1.c4 > v1.c5) then (
        some (.inl false))
      else
      bif decide (v1.c5 > 268435456) then (
        some (.inl false))
      else
      some (.inr (()))) fun p2 =>
    match p2 with
    | .inl e3 => (
      some e3)
    | .inr e4 => (
      some true)) : Option Bool) = some r →
    F_ref10_reached v1 = some r := fun r h =>
  den_of (x := (X_ref10_reached v1)) injO_ref10_reached 5 (Lim.cong (fun n => fn164 n v1.c0 v1.c1 v1.c2 v1.c3 v1.c4 v1.c5) (by
      refine Lim.bind (e := enc_L_ref10_reached_0) ?_ fun p2 => ?_
      · refine Lim.bif rfl ?_ ?_
        · exact Lim.leaf rfl
        refine Lim.bif rfl ?_ ?_
        · exact Lim.leaf rfl
        refine Lim.bif rfl ?_ ?_
        · exact Lim.leaf rfl
        refine Lim.bif rfl ?_ ?_
        · exact Lim.leaf rfl
        refine Lim.bif rfl ?_ ?_
        · exact Lim.leaf rfl
        refine Lim.bif rfl ?_ ?_
        · exact Lim.leaf rfl
        refine Lim.bif rfl ?_ ?_
        · exact Lim.leaf rfl
        refine Lim.bif rfl ?_ ?_
        · exact Lim.leaf rfl
        refine Lim.bif rfl ?_ ?_
        · exact Lim.leaf rfl
        exact Lim.leaf rfl
      rcases p2 with e3 | e4
      · refine Lim.exit (.ret) S164_0_r ((e3, ()), ()) rfl rfl rfl ?_
        exact Lim.leaf rfl
      · refine Lim.bifF rfl ?_
        refine Lim.exit (.exit 0) S164_0_e0 ((), ()) rfl rfl rfl ?_
        exact Lim.leaf rfl
    )) h
def G_ref10_reached (v1 : I6) : Bool :=
  letIn (α := E_ref10_reached_0) (
    bif decide (v1.c0 < (-268435456)) then (
      (.inl false))
    else
    bif decide (v1.c0 > v1.c1) then (
      (.inl false))
    else
    bif decide (v1.c1 > 268435456) then (
      (.inl false))
    else
    bif decide (v1.c2 < (-268435456)) then (
      (.inl false))
    else
    bif decide (v1.c2 > v1.c3) then (
      (.inl false))
    else
    bif decide (v1.c3 > 268435456) then (
      (.inl false))
    else
    bif decide (v1.c4 < (-268435456)) then (
      (.inl false))
    else
    bif decide (v1.c4 > v1.c5) then (
      (.inl false))
    else
    bif decide (v1.c5 > 268435456) then (
      (.inl false))
    else
    (.inr (()))) fun p2 =>
  match p2 with
  | .inl e3 => (
    e3)
  | .inr e4 => (
    true)
theorem F_ref10_reached_eq (v1 : I6) : F_ref10_reached v1 = some (G_ref10_reached v1) := F_ref10_reached_of v1 _ (by
  unfold G_ref10_reached
  refine Tot.bind ?_ fun p2 => ?_
  · refine Tot.bif ?_ ?_
    · rfl
    refine Tot.bif ?_ ?_
    · rfl
    refine Tot.bif ?_ ?_
    · rfl
    refine Tot.bif ?_ ?_
    · rfl
    refine Tot.bif ?_ ?_
    · rfl
    refine Tot.bif ?_ ?_
    · rfl
    refine Tot.bif ?_ ?_
    · rfl
    refine Tot.bif ?_ ?_
    · rfl
    refine Tot.bif ?_ ?_
    · rfl
    rfl
  rcases p2 with e3 | e4
  · rfl
  · rfl)

/-! armplan/armplanref10.Placed -/
abbrev E_ref10_Placed_0 : Type := (Bool) ⊕ ((List I6))
def enc_L_ref10_Placed_0 : E_ref10_Placed_0 → Ex × St
  | .inl e => (.ret, encSt S130_0_r ((e, ()), ()))
  | .inr e => (.exit 0, encSt S130_0_e0 (((List.map encI6 e), ()), ()))
theorem inj_L_ref10_Placed_0 : ∀ a b, enc_L_ref10_Placed_0 a = enc_L_ref10_Placed_0 b → a = b := by
  rintro (a0 | a0) (b0 | b0) h <;> (first | (cases h; done) | (have h2 := encSt_inj rfl (Prod.mk.inj h).2; simp [map_inj encI6_inj] at h2; simp [h2]) | (have h2 := (Prod.mk.inj h).1; simp at h2) | rfl)
noncomputable abbrev X_L_ref10_Placed_0 (v2 : List I6) (v3 : Int) (n : Nat) : Option (Ex × St) := (lvl Try.prog HH n).1 ⟨130, 0, true⟩ 0 (loopOf Try.f130 0) (encSt S130_0 (((List.map encI6 v2), v3, ()), ()))
noncomputable def L_ref10_Placed_0 (v2 : List I6) (v3 : Int) : Option E_ref10_Placed_0 := den enc_L_ref10_Placed_0 (X_L_ref10_Placed_0 v2 v3)
theorem L_ref10_Placed_0_of (v2 : List I6) (v3 : Int) : ∀ r, ((
    bif decide (v3 < (((v2.length : Nat) : Int))) then (
      bif decide (v3 ≤ 8) then (
        bif decide (0 ≤ v3) then (
          (nth v2 v3.toNat).bind fun x4 =>
          (F_ref10_reached x4).bind fun y5 =>
          bif !y5 then (
            some (.inl false))
          else
          letIn (IntKind.wrap .i64 (v3 + 1) : Int) fun n6 =>
          L_ref10_Placed_0 v2 n6)
        else
        none)
      else
      some (.inr v2))
    else
    some (.inr v2)) : Option E_ref10_Placed_0) = some r →
    L_ref10_Placed_0 v2 v3 = some r := fun r h =>
  den_of (x := (X_L_ref10_Placed_0 v2 v3)) inj_L_ref10_Placed_0 1 (Lim.cong (fun n => loop130_0 n ((List.map encI6 v2)) v3) (by
      refine Lim.bif (by first | with_reducible rfl | (simp [map_upd] <;> rfl) | rfl) ?_ ?_
      · refine Lim.bif rfl ?_ ?_
        · refine Lim.bif rfl ?_ Lim.none_
          refine Lim.nth encI6 rfl rfl fun x4 => ?_
          refine Lim.bifT rfl ?_
          refine Lim.decC (x4.c0, x4.c1, x4.c2, x4.c3, x4.c4, x4.c5, ()) rfl ?_
          refine Lim.call o_ref10_reached (lim_ref10_reached 0 x4) rfl rfl fun y5 => ?_
          refine Lim.bif rfl ?_ ?_
          · exact Lim.leaf rfl
          refine Lim.letIn rfl fun n6 => ?_
          exact Lim.loop 0 rfl
        exact Lim.leaf rfl
      exact Lim.leaf rfl
    )) h
abbrev o_ref10_Placed (v : Bool) : VtsT outs130 × MtsT mouts130 := ((v, ()), ())
abbrev encO_ref10_Placed (v : Bool) : R := (encR outs130 (o_ref10_Placed v).1, encMts mouts130 (o_ref10_Placed v).2)
theorem injO_ref10_Placed : ∀ a b, encO_ref10_Placed a = encO_ref10_Placed b → a = b := by
  rintro a0 b0 h
  have h1 := encR_inj (Prod.mk.inj h).1
  have h2 := encMts_inj (Prod.mk.inj h).2
  simp [o_ref10_Placed] at h1 h2
  simp [h1, h2]
noncomputable abbrev X_ref10_Placed (l1 : List I6) (n : Nat) : Option R := (lvl Try.prog HH n).2 130 [.s (.one (.fr 6 (List.map encI6 l1)))] []
noncomputable def F_ref10_Placed (l1 : List I6) : Option Bool := den encO_ref10_Placed (X_ref10_Placed l1)
theorem lim_ref10_Placed (k : Nat) (l1 : List I6) : Lim (fun v => (encR outs130 (o_ref10_Placed v).1, encMts mouts130 (o_ref10_Placed v).2)) (fun n => (lvl Try.prog HH (n + k)).2 130 [.s (.one (.fr 6 (List.map encI6 l1)))] []) (F_ref10_Placed l1) := Lim.den (x := (X_ref10_Placed l1)) k
theorem F_ref10_Placed_of (l1 : List I6) : ∀ r, ((
    (L_ref10_Placed_0 l1 0).bind fun p7 =>
    match p7 with
    | .inl e8 => (
      some e8)
    | .inr e9 => (
      bif decide ((((e9.length : Nat) : Int)) ≥ 1) then (
        some (decide ((((e9.length : Nat) : Int)) ≤ 8)))
      else
      some false)) : Option Bool) = some r →
    F_ref10_Placed l1 = some r := fun r h =>
  den_of (x := (X_ref10_Placed l1)) injO_ref10_Placed 1 (Lim.cong (fun n => fn130 n ((List.map encI6 l1))) (by
      refine Lim.bind (show Lim enc_L_ref10_Placed_0 _ (L_ref10_Placed_0 l1 0) from Lim.loop 0 rfl) fun p7 => ?_
      rcases p7 with e8 | e9
      · refine Lim.exit (.ret) S130_0_r ((e8, ()), ()) rfl rfl rfl ?_
        exact Lim.leaf rfl
      · refine Lim.bifF rfl ?_
        refine Lim.exit (.exit 0) S130_0_e0 (((List.map encI6 e9), ()), ()) rfl rfl rfl ?_
        refine Lim.bif (by first | with_reducible rfl | (simp [map_upd] <;> rfl) | rfl) ?_ ?_
        · exact Lim.leaf (by first | rfl | (simp [o_ref10_Placed, map_upd] <;> first | rfl | exact ⟨rfl, rfl⟩))
        exact Lim.leaf rfl
    )) h

/-! armplan/shape.least -/
abbrev E_shape_least_0 : Type := (Int)
def enc_L_shape_least_0 (e : E_shape_least_0) : Ex × St := (.exit 0, encSt S101_0_e0 ((e, ()), ()))
theorem inj_L_shape_least_0 : ∀ a b, enc_L_shape_least_0 a = enc_L_shape_least_0 b → a = b := by
  rintro a0 b0 h
  first | (cases h; done) | (have h2 := encSt_inj rfl (Prod.mk.inj h).2; simp [] at h2; simp [h2]) | (have h2 := (Prod.mk.inj h).1; simp at h2) | rfl
noncomputable abbrev X_L_shape_least_0 (v3 : Int) (v4 : List Int) (v5 : Int) (v6 : Int) (n : Nat) : Option (Ex × St) := (lvl Try.prog HH n).1 ⟨101, 0, true⟩ 0 (loopOf Try.f101 0) (encSt S101_0 ((v3, (List.map encI v4), v5, v6, ()), ()))
noncomputable def L_shape_least_0 (v3 : Int) (v4 : List Int) (v5 : Int) (v6 : Int) : Option E_shape_least_0 := den enc_L_shape_least_0 (X_L_shape_least_0 v3 v4 v5 v6)
theorem L_shape_least_0_of (v3 : Int) (v4 : List Int) (v5 : Int) (v6 : Int) : ∀ r, ((
    bif decide (v6 < v5) then (
      bif decide (0 ≤ v6) then (
        (nth v4 v6.toNat).bind fun x7 =>
        letIn (if x7 < v3 then x7 else v3 : Int) fun n8 =>
        letIn (IntKind.wrap .i64 (v6 + 1) : Int) fun n9 =>
        L_shape_least_0 n8 v4 v5 n9)
      else
      none)
    else
    some v3) : Option E_shape_least_0) = some r →
    L_shape_least_0 v3 v4 v5 v6 = some r := fun r h =>
  den_of (x := (X_L_shape_least_0 v3 v4 v5 v6)) inj_L_shape_least_0 1 (Lim.cong (fun n => loop101_0 n v3 ((List.map encI v4)) v5 v6) (by
      refine Lim.bif rfl ?_ ?_
      · refine Lim.bif rfl ?_ Lim.none_
        refine Lim.nth encI rfl rfl fun x7 => ?_
        refine Lim.step rfl ?_
        refine Lim.step rfl ?_
        refine Lim.letIn rfl fun n8 => ?_
        refine Lim.letIn rfl fun n9 => ?_
        exact Lim.loop 0 rfl
      exact Lim.leaf rfl
    )) h
abbrev o_shape_least (v : Int) : VtsT outs101 × MtsT mouts101 := ((v, ()), ())
abbrev encO_shape_least (v : Int) : R := (encR outs101 (o_shape_least v).1, encMts mouts101 (o_shape_least v).2)
theorem injO_shape_least : ∀ a b, encO_shape_least a = encO_shape_least b → a = b := by
  rintro a0 b0 h
  have h1 := encR_inj (Prod.mk.inj h).1
  have h2 := encMts_inj (Prod.mk.inj h).2
  simp [o_shape_least] at h1 h2
  simp [h1, h2]
noncomputable abbrev X_shape_least (first1 : Int) (l2 : List Int) (n : Nat) : Option R := (lvl Try.prog HH n).2 101 [.s (.one (.v (.int .i64 first1))), .s (.one (.fr 1 (List.map encI l2)))] []
noncomputable def F_shape_least (first1 : Int) (l2 : List Int) : Option Int := den encO_shape_least (X_shape_least first1 l2)
theorem lim_shape_least (k : Nat) (first1 : Int) (l2 : List Int) : Lim (fun v => (encR outs101 (o_shape_least v).1, encMts mouts101 (o_shape_least v).2)) (fun n => (lvl Try.prog HH (n + k)).2 101 [.s (.one (.v (.int .i64 first1))), .s (.one (.fr 1 (List.map encI l2)))] []) (F_shape_least first1 l2) := Lim.den (x := (X_shape_least first1 l2)) k
theorem F_shape_least_of (first1 : Int) (l2 : List Int) : ∀ r, ((
    (L_shape_least_0 first1 l2 (((l2.length : Nat) : Int)) 0).bind fun p10 =>
    some p10) : Option Int) = some r →
    F_shape_least first1 l2 = some r := fun r h =>
  den_of (x := (X_shape_least first1 l2)) injO_shape_least 1 (Lim.cong (fun n => fn101 n first1 ((List.map encI l2))) (by
      refine Lim.bind (show Lim enc_L_shape_least_0 _ (L_shape_least_0 first1 l2 (((l2.length : Nat) : Int)) 0) from Lim.loop 0 (by first | with_reducible rfl | (simp [map_upd] <;> rfl) | rfl)) fun p10 => ?_
      refine Lim.exit (.exit 0) S101_0_e0 ((p10, ()), ()) rfl rfl rfl ?_
      exact Lim.leaf rfl
    )) h

/-! armplan/shape.Bound -/
abbrev E_shape_Bound_0 : Type := (I6 × I6)
def enc_L_shape_Bound_0 (e : E_shape_Bound_0) : Ex × St := (.exit 0, encSt S42_0_e0 (((), (), ()), ((e.1.c0, e.1.c1, e.1.c2, e.1.c3, e.1.c4, e.1.c5, ()), (e.2.c0, e.2.c1, e.2.c2, e.2.c3, e.2.c4, e.2.c5, ()), ())))
theorem inj_L_shape_Bound_0 : ∀ a b, enc_L_shape_Bound_0 a = enc_L_shape_Bound_0 b → a = b := by
  rintro ⟨⟨a0, a1, a2, a3, a4, a5⟩, ⟨a6, a7, a8, a9, a10, a11⟩⟩ ⟨⟨b0, b1, b2, b3, b4, b5⟩, ⟨b6, b7, b8, b9, b10, b11⟩⟩ h
  first | (cases h; done) | (have h2 := encSt_inj rfl (Prod.mk.inj h).2; simp [] at h2; simp [h2]) | (have h2 := (Prod.mk.inj h).1; simp at h2) | rfl
abbrev E_shape_Bound_2 : Type := ((List I6) × Int × Int × Int × I6 × I6 × (List Int) × (List Int))
def enc_L_shape_Bound_2 (e : E_shape_Bound_2) : Ex × St := (.exit 2, encSt S42_2_e2 (((List.map encI6 e.1), e.2.1, (), (), e.2.2.1, (), (), e.2.2.2.1, ()), ((e.2.2.2.2.1.c0, e.2.2.2.2.1.c1, e.2.2.2.2.1.c2, e.2.2.2.2.1.c3, e.2.2.2.2.1.c4, e.2.2.2.2.1.c5, ()), (e.2.2.2.2.2.1.c0, e.2.2.2.2.2.1.c1, e.2.2.2.2.2.1.c2, e.2.2.2.2.2.1.c3, e.2.2.2.2.2.1.c4, e.2.2.2.2.2.1.c5, ()), (List.map encI e.2.2.2.2.2.2.1), (List.map encI e.2.2.2.2.2.2.2), ())))
theorem inj_L_shape_Bound_2 : ∀ a b, enc_L_shape_Bound_2 a = enc_L_shape_Bound_2 b → a = b := by
  rintro ⟨a0, a1, a2, a3, ⟨a4, a5, a6, a7, a8, a9⟩, ⟨a10, a11, a12, a13, a14, a15⟩, a16, a17⟩ ⟨b0, b1, b2, b3, ⟨b4, b5, b6, b7, b8, b9⟩, ⟨b10, b11, b12, b13, b14, b15⟩, b16, b17⟩ h
  first | (cases h; done) | (have h2 := encSt_inj rfl (Prod.mk.inj h).2; simp [map_inj encI6_inj, map_inj encI_inj] at h2; simp [h2]) | (have h2 := (Prod.mk.inj h).1; simp at h2) | rfl
noncomputable abbrev X_L_shape_Bound_0 (v4 : List I6) (v5 : Int) (v6 : Int) (c7 : I6) (c8 : I6) (n : Nat) : Option (Ex × St) := (lvl Try.prog HH n).1 ⟨42, 0, true⟩ 0 (loopOf Try.f42 0) (encSt S42_0 (((List.map encI6 v4), v5, (), (), v6, ()), ((c7.c0, c7.c1, c7.c2, c7.c3, c7.c4, c7.c5, ()), (c8.c0, c8.c1, c8.c2, c8.c3, c8.c4, c8.c5, ()), ())))
noncomputable def L_shape_Bound_0 (v4 : List I6) (v5 : Int) (v6 : Int) (c7 : I6) (c8 : I6) : Option E_shape_Bound_0 := den enc_L_shape_Bound_0 (X_L_shape_Bound_0 v4 v5 v6 c7 c8)
noncomputable abbrev X_L_shape_Bound_2 (v9 : List I6) (v10 : Int) (v11 : Int) (v12 : Int) (v13 : List I6) (v14 : Int) (v15 : Int) (c16 : I6) (c17 : I6) (es18 : List Int) (es19 : List Int) (n : Nat) : Option (Ex × St) := (lvl Try.prog HH n).1 ⟨42, 0, true⟩ 2 (loopOf Try.f42 2) (encSt S42_2 (((List.map encI6 v9), v10, (), (), v11, (), (), v12, (List.map encI6 v13), v14, v15, ()), ((c16.c0, c16.c1, c16.c2, c16.c3, c16.c4, c16.c5, ()), (c17.c0, c17.c1, c17.c2, c17.c3, c17.c4, c17.c5, ()), (List.map encI es18), (List.map encI es19), ())))
noncomputable def L_shape_Bound_2 (v9 : List I6) (v10 : Int) (v11 : Int) (v12 : Int) (v13 : List I6) (v14 : Int) (v15 : Int) (c16 : I6) (c17 : I6) (es18 : List Int) (es19 : List Int) : Option E_shape_Bound_2 := den enc_L_shape_Bound_2 (X_L_shape_Bound_2 v9 v10 v11 v12 v13 v14 v15 c16 c17 es18 es19)
theorem L_shape_Bound_0_of (v4 : List I6) (v5 : Int) (v6 : Int) (c7 : I6) (c8 : I6) : ∀ r, ((
    bif decide (v6 < 3) then (
      (L_shape_Bound_2 v4 v5 v6 v6 v4 (((v4.length : Nat) : Int)) 0 c7 c8 [] []).bind fun p27 =>
      (nth p27.2.2.2.2.2.2.1 0).bind fun x28 =>
      (nth p27.2.2.2.2.2.2.1 0).bind fun x29 =>
      (F_shape_least x29 p27.2.2.2.2.2.2.1).bind fun y30 =>
      letIn (IntKind.wrap .i64 (y30 - p27.2.1) : Int) fun n31 =>
      (nth p27.2.2.2.2.2.2.2 0).bind fun x32 =>
      (nth p27.2.2.2.2.2.2.2 0).bind fun x33 =>
      (F_shape_least x33 p27.2.2.2.2.2.2.2).bind fun y34 =>
      letIn (IntKind.wrap .i64 (p27.2.1 - y34) : Int) fun n35 =>
      bif (decide (0 ≤ p27.2.2.1)) && (decide (p27.2.2.1 < 3)) then (
        (setCells [.v (.int .i64 p27.2.2.2.2.2.1.c0), .v (.int .i64 p27.2.2.2.2.2.1.c1), .v (.int .i64 p27.2.2.2.2.2.1.c2), .v (.int .i64 p27.2.2.2.2.2.1.c3), .v (.int .i64 p27.2.2.2.2.2.1.c4), .v (.int .i64 p27.2.2.2.2.2.1.c5)] (0 + (p27.2.2.1.toNat * 2)) [.v (.int .i64 n31), .v (.int .i64 n35)]).bind fun cs36 =>
        letIn (IntKind.wrap .i64 (p27.2.2.2.1 + 1) : Int) fun n37 =>
        (decCts [.int .i64, .int .i64, .int .i64, .int .i64, .int .i64, .int .i64] cs36 some).bind fun c38 =>
        L_shape_Bound_0 p27.1 p27.2.1 n37 p27.2.2.2.2.1 ((I6.mk c38.1 c38.2.1 c38.2.2.1 c38.2.2.2.1 c38.2.2.2.2.1 c38.2.2.2.2.2.1)))
      else
      none)
    else
    some ((c7, c8))) : Option E_shape_Bound_0) = some r →
    L_shape_Bound_0 v4 v5 v6 c7 c8 = some r := fun r h =>
  den_of (x := (X_L_shape_Bound_0 v4 v5 v6 c7 c8)) inj_L_shape_Bound_0 1 (Lim.cong (fun n => loop42_0 n ((List.map encI6 v4)) v5 v6 c7.c0 c7.c1 c7.c2 c7.c3 c7.c4 c7.c5 c8.c0 c8.c1 c8.c2 c8.c3 c8.c4 c8.c5) (by
      refine Lim.bif rfl ?_ ?_
      · refine Lim.bind (show Lim enc_L_shape_Bound_2 _ (L_shape_Bound_2 v4 v5 v6 v6 v4 (((v4.length : Nat) : Int)) 0 c7 c8 [] []) from Lim.loop 0 (by first | with_reducible rfl | (simp [map_upd] <;> rfl) | rfl)) fun p27 => ?_
        refine Lim.exit (.exit 2) S42_2_e2 (((List.map encI6 p27.1), p27.2.1, (), (), p27.2.2.1, (), (), p27.2.2.2.1, ()), ((p27.2.2.2.2.1.c0, p27.2.2.2.2.1.c1, p27.2.2.2.2.1.c2, p27.2.2.2.2.1.c3, p27.2.2.2.2.1.c4, p27.2.2.2.2.1.c5, ()), (p27.2.2.2.2.2.1.c0, p27.2.2.2.2.2.1.c1, p27.2.2.2.2.2.1.c2, p27.2.2.2.2.2.1.c3, p27.2.2.2.2.2.1.c4, p27.2.2.2.2.2.1.c5, ()), (List.map encI p27.2.2.2.2.2.2.1), (List.map encI p27.2.2.2.2.2.2.2), ())) rfl rfl rfl ?_
        refine Lim.nth encI rfl rfl fun x28 => ?_
        refine Lim.nth encI rfl rfl fun x29 => ?_
        refine Lim.step rfl ?_
        refine Lim.step rfl ?_
        refine Lim.call o_shape_least (lim_shape_least 0 x29 p27.2.2.2.2.2.2.1) rfl rfl fun y30 => ?_
        refine Lim.letIn rfl fun n31 => ?_
        refine Lim.nth encI rfl rfl fun x32 => ?_
        refine Lim.nth encI rfl rfl fun x33 => ?_
        refine Lim.step rfl ?_
        refine Lim.step rfl ?_
        refine Lim.call o_shape_least (lim_shape_least 0 x33 p27.2.2.2.2.2.2.2) rfl rfl fun y34 => ?_
        refine Lim.letIn rfl fun n35 => ?_
        refine Lim.bif rfl ?_ Lim.none_
        refine Lim.raw (by first | with_reducible rfl | (simp [map_upd] <;> rfl) | rfl) fun cs36 => ?_
        refine Lim.letIn rfl fun n37 => ?_
        refine Lim.decRaw (by first | with_reducible rfl | (simp [map_upd] <;> rfl) | rfl) fun c38 => ?_
        exact Lim.loop 0 rfl
      exact Lim.leaf rfl
    )) h
theorem L_shape_Bound_2_of (v9 : List I6) (v10 : Int) (v11 : Int) (v12 : Int) (v13 : List I6) (v14 : Int) (v15 : Int) (c16 : I6) (c17 : I6) (es18 : List Int) (es19 : List Int) : ∀ r, ((
    bif decide (v15 < v14) then (
      bif decide (0 ≤ v15) then (
        (nth v13 v15.toNat).bind fun x20 =>
        bif (decide (0 ≤ v11)) && (decide (v11 < 3)) then (
          (nth ([.v (.int .i64 x20.c0), .v (.int .i64 x20.c1), .v (.int .i64 x20.c2), .v (.int .i64 x20.c3), .v (.int .i64 x20.c4), .v (.int .i64 x20.c5)] : List D1) (0 + (v11.toNat * 2))).bind fun d21 =>
          (asInt? .i64 d21).bind fun n22 =>
          bif decide ((es18.length + 1) * 8 ≤ 140737488355328) then (
            bif (decide (0 ≤ v11)) && (decide (v11 < 3)) then (
              (nth ([.v (.int .i64 x20.c0), .v (.int .i64 x20.c1), .v (.int .i64 x20.c2), .v (.int .i64 x20.c3), .v (.int .i64 x20.c4), .v (.int .i64 x20.c5)] : List D1) ((0 + (v11.toNat * 2)) + 1)).bind fun d23 =>
              (asInt? .i64 d23).bind fun n24 =>
              letIn (IntKind.wrap .i64 (0 - n24) : Int) fun n25 =>
              bif decide ((es19.length + 1) * 8 ≤ 140737488355328) then (
                letIn (IntKind.wrap .i64 (v15 + 1) : Int) fun n26 =>
                L_shape_Bound_2 v9 v10 v11 v12 v13 v14 n26 c16 c17 (es18 ++ [n22]) (es19 ++ [n25]))
              else
              none)
            else
            none)
          else
          none)
        else
        none)
      else
      none)
    else
    some ((v9, v10, v11, v12, c16, c17, es18, es19))) : Option E_shape_Bound_2) = some r →
    L_shape_Bound_2 v9 v10 v11 v12 v13 v14 v15 c16 c17 es18 es19 = some r := fun r h =>
  den_of (x := (X_L_shape_Bound_2 v9 v10 v11 v12 v13 v14 v15 c16 c17 es18 es19)) inj_L_shape_Bound_2 1 (Lim.cong (fun n => loop42_2 n ((List.map encI6 v9)) v10 v11 v12 ((List.map encI6 v13)) v14 v15 c16.c0 c16.c1 c16.c2 c16.c3 c16.c4 c16.c5 c17.c0 c17.c1 c17.c2 c17.c3 c17.c4 c17.c5 ((List.map encI es18)) ((List.map encI es19))) (by
      refine Lim.bif rfl ?_ ?_
      · refine Lim.bif rfl ?_ Lim.none_
        refine Lim.nth encI6 rfl rfl fun x20 => ?_
        refine Lim.bifT rfl ?_
        refine Lim.decC (x20.c0, x20.c1, x20.c2, x20.c3, x20.c4, x20.c5, ()) rfl ?_
        refine Lim.bif rfl ?_ Lim.none_
        refine Lim.raw rfl fun d21 => ?_
        refine Lim.raw rfl fun n22 => ?_
        refine Lim.bif (by first | with_reducible rfl | (simp [map_upd] <;> rfl) | rfl) ?_ Lim.none_
        refine Lim.bif rfl ?_ Lim.none_
        refine Lim.raw rfl fun d23 => ?_
        refine Lim.raw rfl fun n24 => ?_
        refine Lim.letIn rfl fun n25 => ?_
        refine Lim.bif (by first | with_reducible rfl | (simp [map_upd] <;> rfl) | rfl) ?_ Lim.none_
        refine Lim.letIn rfl fun n26 => ?_
        exact Lim.loop 0 (by first | with_reducible rfl | (simp [map_upd] <;> rfl) | rfl)
      exact Lim.leaf rfl
    )) h
abbrev o_shape_Bound (v : I6) : VtsT outs42 × MtsT mouts42 := (((v.c0, v.c1, v.c2, v.c3, v.c4, v.c5, ()), ()), ())
abbrev encO_shape_Bound (v : I6) : R := (encR outs42 (o_shape_Bound v).1, encMts mouts42 (o_shape_Bound v).2)
theorem injO_shape_Bound : ∀ a b, encO_shape_Bound a = encO_shape_Bound b → a = b := by
  rintro ⟨a0, a1, a2, a3, a4, a5⟩ ⟨b0, b1, b2, b3, b4, b5⟩ h
  have h1 := encR_inj (Prod.mk.inj h).1
  have h2 := encMts_inj (Prod.mk.inj h).2
  simp [o_shape_Bound] at h1 h2
  simp [h1, h2]
noncomputable abbrev X_shape_Bound (l1 : List I6) (radius2 : Int) (n : Nat) : Option R := (lvl Try.prog HH n).2 42 [.s (.one (.fr 6 (List.map encI6 l1))), .s (.one (.v (.int .i64 radius2)))] []
noncomputable def F_shape_Bound (l1 : List I6) (radius2 : Int) : Option I6 := den encO_shape_Bound (X_shape_Bound l1 radius2)
theorem lim_shape_Bound (k : Nat) (l1 : List I6) (radius2 : Int) : Lim (fun v => (encR outs42 (o_shape_Bound v).1, encMts mouts42 (o_shape_Bound v).2)) (fun n => (lvl Try.prog HH (n + k)).2 42 [.s (.one (.fr 6 (List.map encI6 l1))), .s (.one (.v (.int .i64 radius2)))] []) (F_shape_Bound l1 radius2) := Lim.den (x := (X_shape_Bound l1 radius2)) k
theorem F_shape_Bound_of (l1 : List I6) (radius2 : Int) : ∀ r, ((
    (F_shape_Placed l1).bind fun y3 =>
    bif !y3 then (
      some ((I6.mk 0 0 0 0 0 0)))
    else
    bif decide (radius2 < 0) then (
      some ((I6.mk 0 0 0 0 0 0)))
    else
    bif decide (radius2 > 1048576) then (
      some ((I6.mk 0 0 0 0 0 0)))
    else
    (L_shape_Bound_0 l1 radius2 0 ((I6.mk 0 0 0 0 0 0)) ((I6.mk 0 0 0 0 0 0))).bind fun p39 =>
    some p39.2) : Option I6) = some r →
    F_shape_Bound l1 radius2 = some r := fun r h =>
  den_of (x := (X_shape_Bound l1 radius2)) injO_shape_Bound 1 (Lim.cong (fun n => fn42 n ((List.map encI6 l1)) radius2) (by
      refine Lim.call o_shape_Placed (lim_shape_Placed 0 l1) rfl rfl fun y3 => ?_
      refine Lim.bif rfl ?_ ?_
      · exact Lim.leaf rfl
      refine Lim.bif rfl ?_ ?_
      · exact Lim.leaf rfl
      refine Lim.bif rfl ?_ ?_
      · exact Lim.leaf rfl
      refine Lim.bind (show Lim enc_L_shape_Bound_0 _ (L_shape_Bound_0 l1 radius2 0 ((I6.mk 0 0 0 0 0 0)) ((I6.mk 0 0 0 0 0 0))) from Lim.loop 0 rfl) fun p39 => ?_
      refine Lim.exit (.exit 0) S42_0_e0 (((), (), ()), ((p39.1.c0, p39.1.c1, p39.1.c2, p39.1.c3, p39.1.c4, p39.1.c5, ()), (p39.2.c0, p39.2.c1, p39.2.c2, p39.2.c3, p39.2.c4, p39.2.c5, ()), ())) rfl rfl rfl ?_
      exact Lim.leaf rfl
    )) h

/-! armplan/armplanref1.Valid -/
abbrev o_ref1_Valid (v : Bool) : VtsT outs103 × MtsT mouts103 := ((v, ()), ())
abbrev encO_ref1_Valid (v : Bool) : R := (encR outs103 (o_ref1_Valid v).1, encMts mouts103 (o_ref1_Valid v).2)
theorem injO_ref1_Valid : ∀ a b, encO_ref1_Valid a = encO_ref1_Valid b → a = b := by
  rintro a0 b0 h
  have h1 := encR_inj (Prod.mk.inj h).1
  have h2 := encMts_inj (Prod.mk.inj h).2
  simp [o_ref1_Valid] at h1 h2
  simp [h1, h2]
noncomputable abbrev X_ref1_Valid (a1 : I2) (n : Nat) : Option R := (lvl Try.prog HH n).2 103 [.s (.agg true [.v (.int .i64 a1.c0), .v (.int .i64 a1.c1)])] []
noncomputable def F_ref1_Valid (a1 : I2) : Option Bool := den encO_ref1_Valid (X_ref1_Valid a1)
theorem lim_ref1_Valid (k : Nat) (a1 : I2) : Lim (fun v => (encR outs103 (o_ref1_Valid v).1, encMts mouts103 (o_ref1_Valid v).2)) (fun n => (lvl Try.prog HH (n + k)).2 103 [.s (.agg true [.v (.int .i64 a1.c0), .v (.int .i64 a1.c1)])] []) (F_ref1_Valid a1) := Lim.den (x := (X_ref1_Valid a1)) k
theorem F_ref1_Valid_of (a1 : I2) : ∀ r, ((
    bif decide ((-2147483648) ≤ a1.c0) then (
      bif decide (a1.c0 ≤ a1.c1) then (
        some (decide (a1.c1 ≤ 2147483648)))
      else
      some false)
    else
    some false) : Option Bool) = some r →
    F_ref1_Valid a1 = some r := fun r h =>
  den_of (x := (X_ref1_Valid a1)) injO_ref1_Valid 1 (Lim.cong (fun n => fn103 n a1.c0 a1.c1) (by
      refine Lim.bif rfl ?_ ?_
      · refine Lim.bif rfl ?_ ?_
        · exact Lim.leaf rfl
        exact Lim.leaf rfl
      exact Lim.leaf rfl
    )) h
def G_ref1_Valid (a1 : I2) : Bool :=
  bif decide ((-2147483648) ≤ a1.c0) then (
    bif decide (a1.c0 ≤ a1.c1) then (
      (decide (a1.c1 ≤ 2147483648)))
    else
    false)
  else
  false
theorem F_ref1_Valid_eq (a1 : I2) : F_ref1_Valid a1 = some (G_ref1_Valid a1) := F_ref1_Valid_of a1 _ (by
  unfold G_ref1_Valid
  refine Tot.bif ?_ ?_
  · refine Tot.bif ?_ ?_
    · rfl
    rfl
  rfl)

/-! armplan/armplanref1.Hull -/
abbrev o_ref1_Hull (v : I2) : VtsT outs122 × MtsT mouts122 := (((v.c0, v.c1, ()), ()), ())
abbrev encO_ref1_Hull (v : I2) : R := (encR outs122 (o_ref1_Hull v).1, encMts mouts122 (o_ref1_Hull v).2)
theorem injO_ref1_Hull : ∀ a b, encO_ref1_Hull a = encO_ref1_Hull b → a = b := by
  rintro ⟨a0, a1⟩ ⟨b0, b1⟩ h
  have h1 := encR_inj (Prod.mk.inj h).1
  have h2 := encMts_inj (Prod.mk.inj h).2
  simp [o_ref1_Hull] at h1 h2
  simp [h1, h2]
noncomputable abbrev X_ref1_Hull (a1 : I2) (b2 : I2) (n : Nat) : Option R := (lvl Try.prog HH n).2 122 [.s (.agg true [.v (.int .i64 a1.c0), .v (.int .i64 a1.c1)]), .s (.agg true [.v (.int .i64 b2.c0), .v (.int .i64 b2.c1)])] []
noncomputable def F_ref1_Hull (a1 : I2) (b2 : I2) : Option I2 := den encO_ref1_Hull (X_ref1_Hull a1 b2)
theorem lim_ref1_Hull (k : Nat) (a1 : I2) (b2 : I2) : Lim (fun v => (encR outs122 (o_ref1_Hull v).1, encMts mouts122 (o_ref1_Hull v).2)) (fun n => (lvl Try.prog HH (n + k)).2 122 [.s (.agg true [.v (.int .i64 a1.c0), .v (.int .i64 a1.c1)]), .s (.agg true [.v (.int .i64 b2.c0), .v (.int .i64 b2.c1)])] []) (F_ref1_Hull a1 b2) := Lim.den (x := (X_ref1_Hull a1 b2)) k
theorem F_ref1_Hull_of (a1 : I2) (b2 : I2) : ∀ r, ((
    (F_ref1_Valid a1).bind fun y3 =>
    bif !y3 then (
      some ((I2.mk 0 0)))
    else
    (F_ref1_Valid b2).bind fun y4 =>
    bif !y4 then (
      some ((I2.mk 0 0)))
    else
    letIn (if b2.c0 < a1.c0 then b2.c0 else a1.c0 : Int) fun n5 =>
    letIn (if b2.c1 > a1.c1 then b2.c1 else a1.c1 : Int) fun n6 =>
    some ((I2.mk n5 n6))) : Option I2) = some r →
    F_ref1_Hull a1 b2 = some r := fun r h =>
  den_of (x := (X_ref1_Hull a1 b2)) injO_ref1_Hull 1 (Lim.cong (fun n => fn122 n a1.c0 a1.c1 b2.c0 b2.c1) (by
      refine Lim.call o_ref1_Valid (lim_ref1_Valid 0 a1) rfl rfl fun y3 => ?_
      refine Lim.bif rfl ?_ ?_
      · exact Lim.leaf rfl
      refine Lim.call o_ref1_Valid (lim_ref1_Valid 0 b2) rfl rfl fun y4 => ?_
      refine Lim.bif rfl ?_ ?_
      · exact Lim.leaf rfl
      refine Lim.letIn rfl fun n5 => ?_
      refine Lim.letIn rfl fun n6 => ?_
      exact Lim.leaf rfl
    )) h
def G_ref1_Hull (a1 : I2) (b2 : I2) : I2 :=
  letIn (G_ref1_Valid a1) fun y3 =>
  bif !y3 then (
    ((I2.mk 0 0)))
  else
  letIn (G_ref1_Valid b2) fun y4 =>
  bif !y4 then (
    ((I2.mk 0 0)))
  else
  letIn (if b2.c0 < a1.c0 then b2.c0 else a1.c0 : Int) fun n5 =>
  letIn (if b2.c1 > a1.c1 then b2.c1 else a1.c1 : Int) fun n6 =>
  ((I2.mk n5 n6))
theorem F_ref1_Hull_eq (a1 : I2) (b2 : I2) : F_ref1_Hull a1 b2 = some (G_ref1_Hull a1 b2) := F_ref1_Hull_of a1 b2 _ (by
  unfold G_ref1_Hull
  refine Tot.bind (F_ref1_Valid_eq a1) fun y3 => ?_
  refine Tot.bif ?_ ?_
  · rfl
  refine Tot.bind (F_ref1_Valid_eq b2) fun y4 => ?_
  refine Tot.bif ?_ ?_
  · rfl
  refine Tot.letIn fun n5 => ?_
  refine Tot.letIn fun n6 => ?_
  rfl)

/-! armplan/armplanref10.Bound -/
abbrev E_ref10_Bound_0 : Type := (Int × I6 × I6)
def enc_L_ref10_Bound_0 (e : E_ref10_Bound_0) : Ex × St := (.exit 0, encSt S131_0_e0 ((e.1, (), (), ()), ((e.2.1.c0, e.2.1.c1, e.2.1.c2, e.2.1.c3, e.2.1.c4, e.2.1.c5, ()), (e.2.2.c0, e.2.2.c1, e.2.2.c2, e.2.2.c3, e.2.2.c4, e.2.2.c5, ()), ())))
theorem inj_L_ref10_Bound_0 : ∀ a b, enc_L_ref10_Bound_0 a = enc_L_ref10_Bound_0 b → a = b := by
  rintro ⟨a0, ⟨a1, a2, a3, a4, a5, a6⟩, ⟨a7, a8, a9, a10, a11, a12⟩⟩ ⟨b0, ⟨b1, b2, b3, b4, b5, b6⟩, ⟨b7, b8, b9, b10, b11, b12⟩⟩ h
  first | (cases h; done) | (have h2 := encSt_inj rfl (Prod.mk.inj h).2; simp [] at h2; simp [h2]) | (have h2 := (Prod.mk.inj h).1; simp at h2) | rfl
abbrev E_ref10_Bound_2 : Type := ((List I6) × Int × Int × I6 × I6)
def enc_L_ref10_Bound_2 (e : E_ref10_Bound_2) : Ex × St := (.exit 2, encSt S131_2_e2 (((List.map encI6 e.1), e.2.1, (), (), e.2.2.1, ()), ((e.2.2.2.1.c0, e.2.2.2.1.c1, e.2.2.2.1.c2, e.2.2.2.1.c3, e.2.2.2.1.c4, e.2.2.2.1.c5, ()), (e.2.2.2.2.c0, e.2.2.2.2.c1, e.2.2.2.2.c2, e.2.2.2.2.c3, e.2.2.2.2.c4, e.2.2.2.2.c5, ()), ())))
theorem inj_L_ref10_Bound_2 : ∀ a b, enc_L_ref10_Bound_2 a = enc_L_ref10_Bound_2 b → a = b := by
  rintro ⟨a0, a1, a2, ⟨a3, a4, a5, a6, a7, a8⟩, ⟨a9, a10, a11, a12, a13, a14⟩⟩ ⟨b0, b1, b2, ⟨b3, b4, b5, b6, b7, b8⟩, ⟨b9, b10, b11, b12, b13, b14⟩⟩ h
  first | (cases h; done) | (have h2 := encSt_inj rfl (Prod.mk.inj h).2; simp [map_inj encI6_inj] at h2; simp [h2]) | (have h2 := (Prod.mk.inj h).1; simp at h2) | rfl
abbrev E_ref10_Bound_4 : Type := (I6 × I6)
def enc_L_ref10_Bound_4 (e : E_ref10_Bound_4) : Ex × St := (.exit 4, encSt S131_4_e4 (((), (), ()), ((e.1.c0, e.1.c1, e.1.c2, e.1.c3, e.1.c4, e.1.c5, ()), (e.2.c0, e.2.c1, e.2.c2, e.2.c3, e.2.c4, e.2.c5, ()), ())))
theorem inj_L_ref10_Bound_4 : ∀ a b, enc_L_ref10_Bound_4 a = enc_L_ref10_Bound_4 b → a = b := by
  rintro ⟨⟨a0, a1, a2, a3, a4, a5⟩, ⟨a6, a7, a8, a9, a10, a11⟩⟩ ⟨⟨b0, b1, b2, b3, b4, b5⟩, ⟨b6, b7, b8, b9, b10, b11⟩⟩ h
  first | (cases h; done) | (have h2 := encSt_inj rfl (Prod.mk.inj h).2; simp [] at h2; simp [h2]) | (have h2 := (Prod.mk.inj h).1; simp at h2) | rfl
noncomputable abbrev X_L_ref10_Bound_0 (v5 : List I6) (v6 : Int) (v7 : Int) (c8 : I6) (c9 : I6) (n : Nat) : Option (Ex × St) := (lvl Try.prog HH n).1 ⟨131, 0, true⟩ 0 (loopOf Try.f131 0) (encSt S131_0 (((List.map encI6 v5), v6, (), (), v7, ()), ((c8.c0, c8.c1, c8.c2, c8.c3, c8.c4, c8.c5, ()), (c9.c0, c9.c1, c9.c2, c9.c3, c9.c4, c9.c5, ()), ())))
noncomputable def L_ref10_Bound_0 (v5 : List I6) (v6 : Int) (v7 : Int) (c8 : I6) (c9 : I6) : Option E_ref10_Bound_0 := den enc_L_ref10_Bound_0 (X_L_ref10_Bound_0 v5 v6 v7 c8 c9)
theorem L_ref10_Bound_0_of (v5 : List I6) (v6 : Int) (v7 : Int) (c8 : I6) (c9 : I6) : ∀ r, ((
    bif decide (v7 < (((v5.length : Nat) : Int))) then (
      Option.bind (α := E_ref10_Bound_2) (
        bif decide (0 ≤ v7) then (
          (nth v5 v7.toNat).bind fun x10 =>
          (F_ref1_Hull ((I2.mk c9.c0 c9.c1)) ((I2.mk x10.c0 x10.c1))).bind fun y11 =>
          bif decide (0 ≤ v7) then (
            (nth v5 v7.toNat).bind fun x12 =>
            (F_ref1_Hull ((I2.mk c9.c2 c9.c3)) ((I2.mk x12.c2 x12.c3))).bind fun y13 =>
            bif decide (0 ≤ v7) then (
              (nth v5 v7.toNat).bind fun x14 =>
              (F_ref1_Hull ((I2.mk c9.c4 c9.c5)) ((I2.mk x14.c4 x14.c5))).bind fun y15 =>
              some ((v5, v6, v7, c8, (I6.mk y11.c0 y11.c1 y13.c0 y13.c1 y15.c0 y15.c1))))
            else
            none)
          else
          none)
        else
        none) fun p16 =>
      letIn (IntKind.wrap .i64 (p16.2.2.1 + 1) : Int) fun n17 =>
      L_ref10_Bound_0 p16.1 p16.2.1 n17 p16.2.2.2.1 p16.2.2.2.2)
    else
    some ((v6, c8, c9))) : Option E_ref10_Bound_0) = some r →
    L_ref10_Bound_0 v5 v6 v7 c8 c9 = some r := fun r h =>
  den_of (x := (X_L_ref10_Bound_0 v5 v6 v7 c8 c9)) inj_L_ref10_Bound_0 5 (Lim.cong (fun n => loop131_0 n ((List.map encI6 v5)) v6 v7 c8.c0 c8.c1 c8.c2 c8.c3 c8.c4 c8.c5 c9.c0 c9.c1 c9.c2 c9.c3 c9.c4 c9.c5) (by
      refine Lim.bif (by first | with_reducible rfl | (simp [map_upd, o_ref1_Hull] <;> rfl) | (simp only [List.map_append, List.map_cons, List.map_nil, List.map_take, List.map_drop, map_upd, List.map_replicate, List.length_map, o_ref1_Hull] <;> rfl) | (simp only [List.map_append, List.map_cons, List.map_nil, List.map_take, List.map_drop, map_upd, List.map_replicate, List.length_map, List.length_append, List.length_cons, List.length_nil, o_ref1_Hull] <;> rfl) | rfl) ?_ ?_
      · refine Lim.bind (e := enc_L_ref10_Bound_2) ?_ fun p16 => ?_
        · refine Lim.bif rfl ?_ Lim.none_
          refine Lim.nth encI6 rfl rfl fun x10 => ?_
          refine Lim.bifT rfl ?_
          refine Lim.decC (x10.c0, x10.c1, ()) rfl ?_
          refine Lim.call o_ref1_Hull (lim_ref1_Hull 3 ((I2.mk c9.c0 c9.c1)) ((I2.mk x10.c0 x10.c1))) rfl rfl fun y11 => ?_
          refine Lim.bif rfl ?_ Lim.none_
          refine Lim.nth encI6 rfl rfl fun x12 => ?_
          refine Lim.bifT rfl ?_
          refine Lim.decC (x12.c2, x12.c3, ()) rfl ?_
          refine Lim.call o_ref1_Hull (lim_ref1_Hull 2 ((I2.mk c9.c2 c9.c3)) ((I2.mk x12.c2 x12.c3))) rfl rfl fun y13 => ?_
          refine Lim.bif rfl ?_ Lim.none_
          refine Lim.nth encI6 rfl rfl fun x14 => ?_
          refine Lim.bifT rfl ?_
          refine Lim.decC (x14.c4, x14.c5, ()) rfl ?_
          refine Lim.call o_ref1_Hull (lim_ref1_Hull 1 ((I2.mk c9.c4 c9.c5)) ((I2.mk x14.c4 x14.c5))) rfl rfl fun y15 => ?_
          exact Lim.leaf rfl
        refine Lim.exit (.exit 2) S131_2_e2 (((List.map encI6 p16.1), p16.2.1, (), (), p16.2.2.1, ()), ((p16.2.2.2.1.c0, p16.2.2.2.1.c1, p16.2.2.2.1.c2, p16.2.2.2.1.c3, p16.2.2.2.1.c4, p16.2.2.2.1.c5, ()), (p16.2.2.2.2.c0, p16.2.2.2.2.c1, p16.2.2.2.2.c2, p16.2.2.2.2.c3, p16.2.2.2.2.c4, p16.2.2.2.2.c5, ()), ())) rfl rfl rfl ?_
        refine Lim.letIn rfl fun n17 => ?_
        exact Lim.loop 4 rfl
      exact Lim.leaf rfl
    )) h
abbrev o_ref10_Bound (v : I6) : VtsT outs131 × MtsT mouts131 := (((v.c0, v.c1, v.c2, v.c3, v.c4, v.c5, ()), ()), ())
abbrev encO_ref10_Bound (v : I6) : R := (encR outs131 (o_ref10_Bound v).1, encMts mouts131 (o_ref10_Bound v).2)
theorem injO_ref10_Bound : ∀ a b, encO_ref10_Bound a = encO_ref10_Bound b → a = b := by
  rintro ⟨a0, a1, a2, a3, a4, a5⟩ ⟨b0, b1, b2, b3, b4, b5⟩ h
  have h1 := encR_inj (Prod.mk.inj h).1
  have h2 := encMts_inj (Prod.mk.inj h).2
  simp [o_ref10_Bound] at h1 h2
  simp [h1, h2]
noncomputable abbrev X_ref10_Bound (l1 : List I6) (radius2 : Int) (n : Nat) : Option R := (lvl Try.prog HH n).2 131 [.s (.one (.fr 6 (List.map encI6 l1))), .s (.one (.v (.int .i64 radius2)))] []
noncomputable def F_ref10_Bound (l1 : List I6) (radius2 : Int) : Option I6 := den encO_ref10_Bound (X_ref10_Bound l1 radius2)
theorem lim_ref10_Bound (k : Nat) (l1 : List I6) (radius2 : Int) : Lim (fun v => (encR outs131 (o_ref10_Bound v).1, encMts mouts131 (o_ref10_Bound v).2)) (fun n => (lvl Try.prog HH (n + k)).2 131 [.s (.one (.fr 6 (List.map encI6 l1))), .s (.one (.v (.int .i64 radius2)))] []) (F_ref10_Bound l1 radius2) := Lim.den (x := (X_ref10_Bound l1 radius2)) k
theorem F_ref10_Bound_of (l1 : List I6) (radius2 : Int) : ∀ r, ((
    (F_ref10_Placed l1).bind fun y3 =>
    bif !y3 then (
      some ((I6.mk 0 0 0 0 0 0)))
    else
    bif decide (radius2 < 0) then (
      some ((I6.mk 0 0 0 0 0 0)))
    else
    bif decide (radius2 > 1048576) then (
      some ((I6.mk 0 0 0 0 0 0)))
    else
    (nth l1 0).bind fun x4 =>
    (L_ref10_Bound_0 l1 radius2 1 ((I6.mk 0 0 0 0 0 0)) x4).bind fun p18 =>
    letIn (IntKind.wrap .i64 (p18.2.2.c0 - p18.1) : Int) fun n19 =>
    letIn (IntKind.wrap .i64 (p18.2.2.c1 + p18.1) : Int) fun n20 =>
    letIn (IntKind.wrap .i64 (p18.2.2.c2 - p18.1) : Int) fun n21 =>
    letIn (IntKind.wrap .i64 (p18.2.2.c3 + p18.1) : Int) fun n22 =>
    letIn (IntKind.wrap .i64 (p18.2.2.c4 - p18.1) : Int) fun n23 =>
    letIn (IntKind.wrap .i64 (p18.2.2.c5 + p18.1) : Int) fun n24 =>
    some ((I6.mk n19 n20 n21 n22 n23 n24))) : Option I6) = some r →
    F_ref10_Bound l1 radius2 = some r := fun r h =>
  den_of (x := (X_ref10_Bound l1 radius2)) injO_ref10_Bound 5 (Lim.cong (fun n => fn131 n ((List.map encI6 l1)) radius2) (by
      refine Lim.call o_ref10_Placed (lim_ref10_Placed 4 l1) rfl rfl fun y3 => ?_
      refine Lim.bif rfl ?_ ?_
      · exact Lim.leaf rfl
      refine Lim.bif rfl ?_ ?_
      · exact Lim.leaf rfl
      refine Lim.bif rfl ?_ ?_
      · exact Lim.leaf rfl
      refine Lim.nth encI6 rfl rfl fun x4 => ?_
      refine Lim.bifT rfl ?_
      refine Lim.decC (x4.c0, x4.c1, x4.c2, x4.c3, x4.c4, x4.c5, ()) rfl ?_
      refine Lim.bind (show Lim enc_L_ref10_Bound_0 _ (L_ref10_Bound_0 l1 radius2 1 ((I6.mk 0 0 0 0 0 0)) x4) from Lim.loop 4 rfl) fun p18 => ?_
      refine Lim.exit (.exit 0) S131_0_e0 ((p18.1, (), (), ()), ((p18.2.1.c0, p18.2.1.c1, p18.2.1.c2, p18.2.1.c3, p18.2.1.c4, p18.2.1.c5, ()), (p18.2.2.c0, p18.2.2.c1, p18.2.2.c2, p18.2.2.c3, p18.2.2.c4, p18.2.2.c5, ()), ())) rfl rfl rfl ?_
      refine Lim.letIn rfl fun n19 => ?_
      refine Lim.letIn rfl fun n20 => ?_
      refine Lim.letIn rfl fun n21 => ?_
      refine Lim.letIn rfl fun n22 => ?_
      refine Lim.letIn rfl fun n23 => ?_
      refine Lim.letIn rfl fun n24 => ?_
      exact Lim.leaf rfl
    )) h

/-! armplan/interval.Valid -/
abbrev o_interval_Valid (v : Bool) : VtsT outs48 × MtsT mouts48 := ((v, ()), ())
abbrev encO_interval_Valid (v : Bool) : R := (encR outs48 (o_interval_Valid v).1, encMts mouts48 (o_interval_Valid v).2)
theorem injO_interval_Valid : ∀ a b, encO_interval_Valid a = encO_interval_Valid b → a = b := by
  rintro a0 b0 h
  have h1 := encR_inj (Prod.mk.inj h).1
  have h2 := encMts_inj (Prod.mk.inj h).2
  simp [o_interval_Valid] at h1 h2
  simp [h1, h2]
noncomputable abbrev X_interval_Valid (a1 : I2) (n : Nat) : Option R := (lvl Try.prog HH n).2 48 [.s (.agg true [.v (.int .i64 a1.c0), .v (.int .i64 a1.c1)])] []
noncomputable def F_interval_Valid (a1 : I2) : Option Bool := den encO_interval_Valid (X_interval_Valid a1)
theorem lim_interval_Valid (k : Nat) (a1 : I2) : Lim (fun v => (encR outs48 (o_interval_Valid v).1, encMts mouts48 (o_interval_Valid v).2)) (fun n => (lvl Try.prog HH (n + k)).2 48 [.s (.agg true [.v (.int .i64 a1.c0), .v (.int .i64 a1.c1)])] []) (F_interval_Valid a1) := Lim.den (x := (X_interval_Valid a1)) k
theorem F_interval_Valid_of (a1 : I2) : ∀ r, ((
    bif decide (a1.c0 ≥ (-2147483648)) then (
      bif decide (a1.c0 ≤ a1.c1) then (
        some (decide (a1.c1 ≤ 2147483648)))
      else
      some false)
    else
    some false) : Option Bool) = some r →
    F_interval_Valid a1 = some r := fun r h =>
  den_of (x := (X_interval_Valid a1)) injO_interval_Valid 1 (Lim.cong (fun n => fn48 n a1.c0 a1.c1) (by
      refine Lim.bif rfl ?_ ?_
      · refine Lim.bif rfl ?_ ?_
        · exact Lim.leaf rfl
        exact Lim.leaf rfl
      exact Lim.leaf rfl
    )) h
def G_interval_Valid (a1 : I2) : Bool :=
  bif decide (a1.c0 ≥ (-2147483648)) then (
    bif decide (a1.c0 ≤ a1.c1) then (
      (decide (a1.c1 ≤ 2147483648)))
    else
    false)
  else
  false
theorem F_interval_Valid_eq (a1 : I2) : F_interval_Valid a1 = some (G_interval_Valid a1) := F_interval_Valid_of a1 _ (by
  unfold G_interval_Valid
  refine Tot.bif ?_ ?_
  · refine Tot.bif ?_ ?_
    · rfl
    rfl
  rfl)

/-! armplan/interval.Mid -/
abbrev o_interval_Mid (v : Int) : VtsT outs125 × MtsT mouts125 := ((v, ()), ())
abbrev encO_interval_Mid (v : Int) : R := (encR outs125 (o_interval_Mid v).1, encMts mouts125 (o_interval_Mid v).2)
theorem injO_interval_Mid : ∀ a b, encO_interval_Mid a = encO_interval_Mid b → a = b := by
  rintro a0 b0 h
  have h1 := encR_inj (Prod.mk.inj h).1
  have h2 := encMts_inj (Prod.mk.inj h).2
  simp [o_interval_Mid] at h1 h2
  simp [h1, h2]
noncomputable abbrev X_interval_Mid (a1 : I2) (n : Nat) : Option R := (lvl Try.prog HH n).2 125 [.s (.agg true [.v (.int .i64 a1.c0), .v (.int .i64 a1.c1)])] []
noncomputable def F_interval_Mid (a1 : I2) : Option Int := den encO_interval_Mid (X_interval_Mid a1)
theorem lim_interval_Mid (k : Nat) (a1 : I2) : Lim (fun v => (encR outs125 (o_interval_Mid v).1, encMts mouts125 (o_interval_Mid v).2)) (fun n => (lvl Try.prog HH (n + k)).2 125 [.s (.agg true [.v (.int .i64 a1.c0), .v (.int .i64 a1.c1)])] []) (F_interval_Mid a1) := Lim.den (x := (X_interval_Mid a1)) k
theorem F_interval_Mid_of (a1 : I2) : ∀ r, ((
    (F_interval_Valid a1).bind fun y2 =>
    bif !y2 then (
      some 0)
    else
    letIn (IntKind.wrap .i64 (a1.c0 + a1.c1) : Int) fun n3 =>
    letIn (Int.fdiv n3 2 : Int) fun n4 =>
    some n4) : Option Int) = some r →
    F_interval_Mid a1 = some r := fun r h =>
  den_of (x := (X_interval_Mid a1)) injO_interval_Mid 1 (Lim.cong (fun n => fn125 n a1.c0 a1.c1) (by
      refine Lim.call o_interval_Valid (lim_interval_Valid 0 a1) rfl rfl fun y2 => ?_
      refine Lim.bif rfl ?_ ?_
      · exact Lim.leaf rfl
      refine Lim.letIn rfl fun n3 => ?_
      refine Lim.letIn rfl fun n4 => ?_
      exact Lim.leaf rfl
    )) h
def G_interval_Mid (a1 : I2) : Int :=
  letIn (G_interval_Valid a1) fun y2 =>
  bif !y2 then (
    0)
  else
  letIn (IntKind.wrap .i64 (a1.c0 + a1.c1) : Int) fun n3 =>
  letIn (Int.fdiv n3 2 : Int) fun n4 =>
  n4
theorem F_interval_Mid_eq (a1 : I2) : F_interval_Mid a1 = some (G_interval_Mid a1) := F_interval_Mid_of a1 _ (by
  unfold G_interval_Mid
  refine Tot.bind (F_interval_Valid_eq a1) fun y2 => ?_
  refine Tot.bif ?_ ?_
  · rfl
  refine Tot.letIn fun n3 => ?_
  refine Tot.letIn fun n4 => ?_
  rfl)

/-! armplan/shape.Centers -/
abbrev E_shape_Centers_0 : Type := ((List I3))
def enc_L_shape_Centers_0 (e : E_shape_Centers_0) : Ex × St := (.exit 0, encSt S133_0_e0 (((), ()), ((List.map encI3 e), ())))
theorem inj_L_shape_Centers_0 : ∀ a b, enc_L_shape_Centers_0 a = enc_L_shape_Centers_0 b → a = b := by
  rintro a0 b0 h
  first | (cases h; done) | (have h2 := encSt_inj rfl (Prod.mk.inj h).2; simp [map_inj encI3_inj] at h2; simp [h2]) | (have h2 := (Prod.mk.inj h).1; simp at h2) | rfl
abbrev E_shape_Centers_2 : Type := ((List I6) × Int × Int × (List I3))
def enc_L_shape_Centers_2 (e : E_shape_Centers_2) : Ex × St := (.exit 2, encSt S133_2_e2 (((), (List.map encI6 e.1), e.2.1, e.2.2.1, ()), ((List.map encI3 e.2.2.2), ())))
theorem inj_L_shape_Centers_2 : ∀ a b, enc_L_shape_Centers_2 a = enc_L_shape_Centers_2 b → a = b := by
  rintro ⟨a0, a1, a2, a3⟩ ⟨b0, b1, b2, b3⟩ h
  first | (cases h; done) | (have h2 := encSt_inj rfl (Prod.mk.inj h).2; simp [map_inj encI3_inj, map_inj encI6_inj] at h2; simp [h2]) | (have h2 := (Prod.mk.inj h).1; simp at h2) | rfl
noncomputable abbrev X_L_shape_Centers_0 (v3 : List I6) (v4 : Int) (v5 : Int) (es6 : List I3) (n : Nat) : Option (Ex × St) := (lvl Try.prog HH n).1 ⟨133, 0, true⟩ 0 (loopOf Try.f133 0) (encSt S133_0 (((), (List.map encI6 v3), v4, v5, ()), ((List.map encI3 es6), ())))
noncomputable def L_shape_Centers_0 (v3 : List I6) (v4 : Int) (v5 : Int) (es6 : List I3) : Option E_shape_Centers_0 := den enc_L_shape_Centers_0 (X_L_shape_Centers_0 v3 v4 v5 es6)
theorem L_shape_Centers_0_of (v3 : List I6) (v4 : Int) (v5 : Int) (es6 : List I3) : ∀ r, ((
    bif decide (v5 < v4) then (
      bif decide (0 ≤ v5) then (
        (nth v3 v5.toNat).bind fun x7 =>
        Option.bind (α := E_shape_Centers_2) (
          (F_interval_Mid ((I2.mk x7.c0 x7.c1))).bind fun y8 =>
          bif decide (0 ≤ v5) then (
            (nth es6 v5.toNat).bind fun x9 =>
            (nth es6 v5.toNat).bind fun x10 =>
            (F_interval_Mid ((I2.mk x7.c2 x7.c3))).bind fun y11 =>
            bif decide (0 ≤ v5) then (
              (nth (upd es6 v5.toNat ((I3.mk y8 x10.c1 x10.c2))) v5.toNat).bind fun x12 =>
              (nth (upd es6 v5.toNat ((I3.mk y8 x10.c1 x10.c2))) v5.toNat).bind fun x13 =>
              (F_interval_Mid ((I2.mk x7.c4 x7.c5))).bind fun y14 =>
              bif decide (0 ≤ v5) then (
                (nth (upd (upd es6 v5.toNat ((I3.mk y8 x10.c1 x10.c2))) v5.toNat ((I3.mk x13.c0 y11 x13.c2))) v5.toNat).bind fun x15 =>
                (nth (upd (upd es6 v5.toNat ((I3.mk y8 x10.c1 x10.c2))) v5.toNat ((I3.mk x13.c0 y11 x13.c2))) v5.toNat).bind fun x16 =>
                some ((v3, v4, v5, upd (upd (upd es6 v5.toNat ((I3.mk y8 x10.c1 x10.c2))) v5.toNat ((I3.mk x13.c0 y11 x13.c2))) v5.toNat ((I3.mk x16.c0 x16.c1 y14)))))
              else
              none)
            else
            none)
          else
          none) fun p17 =>
        letIn (IntKind.wrap .i64 (p17.2.2.1 + 1) : Int) fun n18 =>
        L_shape_Centers_0 p17.1 p17.2.1 n18 p17.2.2.2)
      else
      none)
    else
    some es6) : Option E_shape_Centers_0) = some r →
    L_shape_Centers_0 v3 v4 v5 es6 = some r := fun r h =>
  den_of (x := (X_L_shape_Centers_0 v3 v4 v5 es6)) inj_L_shape_Centers_0 5 (Lim.cong (fun n => loop133_0 n ((List.map encI6 v3)) v4 v5 ((List.map encI3 es6))) (by
      refine Lim.bif rfl ?_ ?_
      · refine Lim.bif rfl ?_ Lim.none_
        refine Lim.nth encI6 rfl rfl fun x7 => ?_
        refine Lim.bifT rfl ?_
        refine Lim.decC (x7.c0, x7.c1, x7.c2, x7.c3, x7.c4, x7.c5, ()) rfl ?_
        refine Lim.bind (e := enc_L_shape_Centers_2) ?_ fun p17 => ?_
        · refine Lim.call o_interval_Mid (lim_interval_Mid 3 ((I2.mk x7.c0 x7.c1))) rfl rfl fun y8 => ?_
          refine Lim.bif rfl ?_ Lim.none_
          refine Lim.nth encI3 rfl rfl fun x9 => ?_
          refine Lim.nth encI3 rfl rfl fun x10 => ?_
          refine Lim.step rfl ?_
          refine Lim.call o_interval_Mid (lim_interval_Mid 2 ((I2.mk x7.c2 x7.c3))) rfl rfl fun y11 => ?_
          refine Lim.bif rfl ?_ Lim.none_
          refine Lim.nth encI3 (by first | with_reducible rfl | (simp [map_upd] <;> rfl) | rfl) rfl fun x12 => ?_
          refine Lim.nth encI3 (by first | with_reducible rfl | (simp [map_upd] <;> rfl) | rfl) rfl fun x13 => ?_
          refine Lim.step rfl ?_
          refine Lim.call o_interval_Mid (lim_interval_Mid 1 ((I2.mk x7.c4 x7.c5))) rfl rfl fun y14 => ?_
          refine Lim.bif rfl ?_ Lim.none_
          refine Lim.nth encI3 (by first | with_reducible rfl | (simp [map_upd] <;> rfl) | rfl) rfl fun x15 => ?_
          refine Lim.nth encI3 (by first | with_reducible rfl | (simp [map_upd] <;> rfl) | rfl) rfl fun x16 => ?_
          refine Lim.step rfl ?_
          exact Lim.leaf (by first | rfl | (simp [enc_L_shape_Centers_2, map_upd] <;> rfl))
        refine Lim.exit (.exit 2) S133_2_e2 (((), (List.map encI6 p17.1), p17.2.1, p17.2.2.1, ()), ((List.map encI3 p17.2.2.2), ())) rfl rfl rfl ?_
        refine Lim.letIn rfl fun n18 => ?_
        exact Lim.loop 4 rfl
      exact Lim.leaf rfl
    )) h
abbrev o_shape_Centers (v : (List I3)) : VtsT outs133 × MtsT mouts133 := (((List.map encI3 v), ()), ())
abbrev encO_shape_Centers (v : (List I3)) : R := (encR outs133 (o_shape_Centers v).1, encMts mouts133 (o_shape_Centers v).2)
theorem injO_shape_Centers : ∀ a b, encO_shape_Centers a = encO_shape_Centers b → a = b := by
  rintro a0 b0 h
  have h1 := encR_inj (Prod.mk.inj h).1
  have h2 := encMts_inj (Prod.mk.inj h).2
  simp [o_shape_Centers, map_inj encI3_inj] at h1 h2
  simp [h1, h2]
noncomputable abbrev X_shape_Centers (l1 : List I6) (n : Nat) : Option R := (lvl Try.prog HH n).2 133 [.s (.one (.fr 6 (List.map encI6 l1)))] []
noncomputable def F_shape_Centers (l1 : List I6) : Option ((List I3)) := den encO_shape_Centers (X_shape_Centers l1)
theorem lim_shape_Centers (k : Nat) (l1 : List I6) : Lim (fun v => (encR outs133 (o_shape_Centers v).1, encMts mouts133 (o_shape_Centers v).2)) (fun n => (lvl Try.prog HH (n + k)).2 133 [.s (.one (.fr 6 (List.map encI6 l1)))] []) (F_shape_Centers l1) := Lim.den (x := (X_shape_Centers l1)) k
theorem F_shape_Centers_of (l1 : List I6) : ∀ r, ((
    (F_shape_Placed l1).bind fun y2 =>
    bif !y2 then (
      some [])
    else
    bif (decide (0 ≤ (((l1.length : Nat) : Int)))) && (decide ((((l1.length : Nat) : Int)) ≤ (((l1.length : Nat) : Int)))) && (decide ((((l1.length : Nat) : Int)) ≤ (((l1.length : Nat) : Int)))) && decide ((((l1.length : Nat) : Int)).toNat * 24 ≤ 140737488355328) then (
      (L_shape_Centers_0 l1 (((l1.length : Nat) : Int)) 0 (List.replicate ((((l1.length : Nat) : Int)).toNat) ((I3.mk 0 0 0)))).bind fun p19 =>
      some p19)
    else
    none) : Option ((List I3))) = some r →
    F_shape_Centers l1 = some r := fun r h =>
  den_of (x := (X_shape_Centers l1)) injO_shape_Centers 1 (Lim.cong (fun n => fn133 n ((List.map encI6 l1))) (by
      refine Lim.call o_shape_Placed (lim_shape_Placed 0 l1) rfl rfl fun y2 => ?_
      refine Lim.bif rfl ?_ ?_
      · exact Lim.leaf (by first | rfl | (simp [o_shape_Centers, map_upd] <;> first | rfl | exact ⟨rfl, rfl⟩))
      refine Lim.bif (by first | with_reducible rfl | (simp [map_upd] <;> rfl) | rfl) ?_ Lim.none_
      refine Lim.bind (show Lim enc_L_shape_Centers_0 _ (L_shape_Centers_0 l1 (((l1.length : Nat) : Int)) 0 (List.replicate ((((l1.length : Nat) : Int)).toNat) ((I3.mk 0 0 0)))) from Lim.loop 0 (by first | with_reducible rfl | (simp [map_upd] <;> rfl) | rfl)) fun p19 => ?_
      refine Lim.exit (.exit 0) S133_0_e0 (((), ()), ((List.map encI3 p19), ())) rfl rfl rfl ?_
      exact Lim.leaf rfl
    )) h

/-! armplan/armplanref1.Floor -/
abbrev o_ref1_Floor (v : Int) : VtsT outs116 × MtsT mouts116 := ((v, ()), ())
abbrev encO_ref1_Floor (v : Int) : R := (encR outs116 (o_ref1_Floor v).1, encMts mouts116 (o_ref1_Floor v).2)
theorem injO_ref1_Floor : ∀ a b, encO_ref1_Floor a = encO_ref1_Floor b → a = b := by
  rintro a0 b0 h
  have h1 := encR_inj (Prod.mk.inj h).1
  have h2 := encMts_inj (Prod.mk.inj h).2
  simp [o_ref1_Floor] at h1 h2
  simp [h1, h2]
noncomputable abbrev X_ref1_Floor (a1 : Int) (b2 : Int) (n : Nat) : Option R := (lvl Try.prog HH n).2 116 [.s (.one (.v (.int .i64 a1))), .s (.one (.v (.int .i64 b2)))] []
noncomputable def F_ref1_Floor (a1 : Int) (b2 : Int) : Option Int := den encO_ref1_Floor (X_ref1_Floor a1 b2)
theorem lim_ref1_Floor (k : Nat) (a1 : Int) (b2 : Int) : Lim (fun v => (encR outs116 (o_ref1_Floor v).1, encMts mouts116 (o_ref1_Floor v).2)) (fun n => (lvl Try.prog HH (n + k)).2 116 [.s (.one (.v (.int .i64 a1))), .s (.one (.v (.int .i64 b2)))] []) (F_ref1_Floor a1 b2) := Lim.den (x := (X_ref1_Floor a1 b2)) k
theorem F_ref1_Floor_of (a1 : Int) (b2 : Int) : ∀ r, ((
    bif b2 == 0 then (
      none)
    else
    letIn (IntKind.wrap .i64 (Int.tdiv a1 b2) : Int) fun n3 =>
    bif b2 == 0 then (
      none)
    else
    letIn (Int.tmod a1 b2 : Int) fun n4 =>
    bif decide (n4 < 0) then (
      letIn (IntKind.wrap .i64 (n3 - 1) : Int) fun n5 =>
      some n5)
    else
    some n3) : Option Int) = some r →
    F_ref1_Floor a1 b2 = some r := fun r h =>
  den_of (x := (X_ref1_Floor a1 b2)) injO_ref1_Floor 1 (Lim.cong (fun n => fn116 n a1 b2) (by
      refine Lim.bif rfl Lim.none_ ?_
      refine Lim.letIn rfl fun n3 => ?_
      refine Lim.bif rfl Lim.none_ ?_
      refine Lim.letIn rfl fun n4 => ?_
      refine Lim.bif rfl ?_ ?_
      · refine Lim.letIn rfl fun n5 => ?_
        exact Lim.leaf rfl
      exact Lim.leaf rfl
    )) h

/-! armplan/armplanref1.Mid -/
abbrev o_ref1_Mid (v : Int) : VtsT outs126 × MtsT mouts126 := ((v, ()), ())
abbrev encO_ref1_Mid (v : Int) : R := (encR outs126 (o_ref1_Mid v).1, encMts mouts126 (o_ref1_Mid v).2)
theorem injO_ref1_Mid : ∀ a b, encO_ref1_Mid a = encO_ref1_Mid b → a = b := by
  rintro a0 b0 h
  have h1 := encR_inj (Prod.mk.inj h).1
  have h2 := encMts_inj (Prod.mk.inj h).2
  simp [o_ref1_Mid] at h1 h2
  simp [h1, h2]
noncomputable abbrev X_ref1_Mid (a1 : I2) (n : Nat) : Option R := (lvl Try.prog HH n).2 126 [.s (.agg true [.v (.int .i64 a1.c0), .v (.int .i64 a1.c1)])] []
noncomputable def F_ref1_Mid (a1 : I2) : Option Int := den encO_ref1_Mid (X_ref1_Mid a1)
theorem lim_ref1_Mid (k : Nat) (a1 : I2) : Lim (fun v => (encR outs126 (o_ref1_Mid v).1, encMts mouts126 (o_ref1_Mid v).2)) (fun n => (lvl Try.prog HH (n + k)).2 126 [.s (.agg true [.v (.int .i64 a1.c0), .v (.int .i64 a1.c1)])] []) (F_ref1_Mid a1) := Lim.den (x := (X_ref1_Mid a1)) k
theorem F_ref1_Mid_of (a1 : I2) : ∀ r, ((
    (F_ref1_Valid a1).bind fun y2 =>
    bif !y2 then (
      some 0)
    else
    letIn (IntKind.wrap .i64 (a1.c0 + a1.c1) : Int) fun n3 =>
    (F_ref1_Floor n3 2).bind fun y4 =>
    some y4) : Option Int) = some r →
    F_ref1_Mid a1 = some r := fun r h =>
  den_of (x := (X_ref1_Mid a1)) injO_ref1_Mid 1 (Lim.cong (fun n => fn126 n a1.c0 a1.c1) (by
      refine Lim.call o_ref1_Valid (lim_ref1_Valid 0 a1) rfl rfl fun y2 => ?_
      refine Lim.bif rfl ?_ ?_
      · exact Lim.leaf rfl
      refine Lim.letIn rfl fun n3 => ?_
      refine Lim.call o_ref1_Floor (lim_ref1_Floor 0 n3 2) rfl rfl fun y4 => ?_
      exact Lim.leaf rfl
    )) h

/-! armplan/armplanref10.Centers -/
abbrev E_ref10_Centers_0 : Type := ((List I3))
def enc_L_ref10_Centers_0 (e : E_ref10_Centers_0) : Ex × St := (.exit 0, encSt S134_0_e0 (((), ()), ((List.map encI3 e), ())))
theorem inj_L_ref10_Centers_0 : ∀ a b, enc_L_ref10_Centers_0 a = enc_L_ref10_Centers_0 b → a = b := by
  rintro a0 b0 h
  first | (cases h; done) | (have h2 := encSt_inj rfl (Prod.mk.inj h).2; simp [map_inj encI3_inj] at h2; simp [h2]) | (have h2 := (Prod.mk.inj h).1; simp at h2) | rfl
noncomputable abbrev X_L_ref10_Centers_0 (v3 : List I6) (v4 : Int) (es5 : List I3) (n : Nat) : Option (Ex × St) := (lvl Try.prog HH n).1 ⟨134, 0, true⟩ 0 (loopOf Try.f134 0) (encSt S134_0 (((List.map encI6 v3), (), v4, ()), ((List.map encI3 es5), ())))
noncomputable def L_ref10_Centers_0 (v3 : List I6) (v4 : Int) (es5 : List I3) : Option E_ref10_Centers_0 := den enc_L_ref10_Centers_0 (X_L_ref10_Centers_0 v3 v4 es5)
theorem L_ref10_Centers_0_of (v3 : List I6) (v4 : Int) (es5 : List I3) : ∀ r, ((
    bif decide (v4 < (((v3.length : Nat) : Int))) then (
      bif decide (0 ≤ v4) then (
        (nth v3 v4.toNat).bind fun x6 =>
        (F_ref1_Mid ((I2.mk x6.c0 x6.c1))).bind fun y7 =>
        bif decide (0 ≤ v4) then (
          (nth v3 v4.toNat).bind fun x8 =>
          (F_ref1_Mid ((I2.mk x8.c2 x8.c3))).bind fun y9 =>
          bif decide (0 ≤ v4) then (
            (nth v3 v4.toNat).bind fun x10 =>
            (F_ref1_Mid ((I2.mk x10.c4 x10.c5))).bind fun y11 =>
            bif decide ((es5.length + 1) * 24 ≤ 140737488355328) then (
              letIn (IntKind.wrap .i64 (v4 + 1) : Int) fun n12 =>
              L_ref10_Centers_0 v3 n12 (es5 ++ [(I3.mk y7 y9 y11)]))
            else
            none)
          else
          none)
        else
        none)
      else
      none)
    else
    some es5) : Option E_ref10_Centers_0) = some r →
    L_ref10_Centers_0 v3 v4 es5 = some r := fun r h =>
  den_of (x := (X_L_ref10_Centers_0 v3 v4 es5)) inj_L_ref10_Centers_0 1 (Lim.cong (fun n => loop134_0 n ((List.map encI6 v3)) v4 ((List.map encI3 es5))) (by
      refine Lim.bif (by first | with_reducible rfl | (simp [map_upd] <;> rfl) | rfl) ?_ ?_
      · refine Lim.bif rfl ?_ Lim.none_
        refine Lim.nth encI6 rfl rfl fun x6 => ?_
        refine Lim.bifT rfl ?_
        refine Lim.decC (x6.c0, x6.c1, ()) rfl ?_
        refine Lim.call o_ref1_Mid (lim_ref1_Mid 0 ((I2.mk x6.c0 x6.c1))) rfl rfl fun y7 => ?_
        refine Lim.bif rfl ?_ Lim.none_
        refine Lim.nth encI6 rfl rfl fun x8 => ?_
        refine Lim.bifT rfl ?_
        refine Lim.decC (x8.c2, x8.c3, ()) rfl ?_
        refine Lim.call o_ref1_Mid (lim_ref1_Mid 0 ((I2.mk x8.c2 x8.c3))) rfl rfl fun y9 => ?_
        refine Lim.bif rfl ?_ Lim.none_
        refine Lim.nth encI6 rfl rfl fun x10 => ?_
        refine Lim.bifT rfl ?_
        refine Lim.decC (x10.c4, x10.c5, ()) rfl ?_
        refine Lim.call o_ref1_Mid (lim_ref1_Mid 0 ((I2.mk x10.c4 x10.c5))) rfl rfl fun y11 => ?_
        refine Lim.bif (by first | with_reducible rfl | (simp [map_upd] <;> rfl) | rfl) ?_ Lim.none_
        refine Lim.letIn rfl fun n12 => ?_
        exact Lim.loop 0 (by first | with_reducible rfl | (simp [map_upd] <;> rfl) | rfl)
      exact Lim.leaf rfl
    )) h
abbrev o_ref10_Centers (v : (List I3)) : VtsT outs134 × MtsT mouts134 := (((List.map encI3 v), ()), ())
abbrev encO_ref10_Centers (v : (List I3)) : R := (encR outs134 (o_ref10_Centers v).1, encMts mouts134 (o_ref10_Centers v).2)
theorem injO_ref10_Centers : ∀ a b, encO_ref10_Centers a = encO_ref10_Centers b → a = b := by
  rintro a0 b0 h
  have h1 := encR_inj (Prod.mk.inj h).1
  have h2 := encMts_inj (Prod.mk.inj h).2
  simp [o_ref10_Centers, map_inj encI3_inj] at h1 h2
  simp [h1, h2]
noncomputable abbrev X_ref10_Centers (l1 : List I6) (n : Nat) : Option R := (lvl Try.prog HH n).2 134 [.s (.one (.fr 6 (List.map encI6 l1)))] []
noncomputable def F_ref10_Centers (l1 : List I6) : Option ((List I3)) := den encO_ref10_Centers (X_ref10_Centers l1)
theorem lim_ref10_Centers (k : Nat) (l1 : List I6) : Lim (fun v => (encR outs134 (o_ref10_Centers v).1, encMts mouts134 (o_ref10_Centers v).2)) (fun n => (lvl Try.prog HH (n + k)).2 134 [.s (.one (.fr 6 (List.map encI6 l1)))] []) (F_ref10_Centers l1) := Lim.den (x := (X_ref10_Centers l1)) k
theorem F_ref10_Centers_of (l1 : List I6) : ∀ r, ((
    (F_ref10_Placed l1).bind fun y2 =>
    bif !y2 then (
      some [])
    else
    (L_ref10_Centers_0 l1 0 []).bind fun p13 =>
    some p13) : Option ((List I3))) = some r →
    F_ref10_Centers l1 = some r := fun r h =>
  den_of (x := (X_ref10_Centers l1)) injO_ref10_Centers 1 (Lim.cong (fun n => fn134 n ((List.map encI6 l1))) (by
      refine Lim.call o_ref10_Placed (lim_ref10_Placed 0 l1) rfl rfl fun y2 => ?_
      refine Lim.bif rfl ?_ ?_
      · exact Lim.leaf (by first | rfl | (simp [o_ref10_Centers, map_upd] <;> first | rfl | exact ⟨rfl, rfl⟩))
      refine Lim.bind (show Lim enc_L_ref10_Centers_0 _ (L_ref10_Centers_0 l1 0 []) from Lim.loop 0 (by first | with_reducible rfl | (simp [map_upd] <;> rfl) | rfl)) fun p13 => ?_
      refine Lim.exit (.exit 0) S134_0_e0 (((), ()), ((List.map encI3 p13), ())) rfl rfl rfl ?_
      exact Lim.leaf rfl
    )) h

/-! armplan/armplanmake.Same[armplan/api.Vec] -/
abbrev E_make_Same_api_Vec_0 : Type := (Bool) ⊕ (Unit)
def enc_L_make_Same_api_Vec_0 : E_make_Same_api_Vec_0 → Ex × St
  | .inl e => (.ret, encSt S132_0_r ((e, ()), ()))
  | .inr e => (.exit 0, encSt S132_0_e0 ((), ()))
theorem inj_L_make_Same_api_Vec_0 : ∀ a b, enc_L_make_Same_api_Vec_0 a = enc_L_make_Same_api_Vec_0 b → a = b := by
  rintro (a0 | _) (b0 | _) h <;> (first | (cases h; done) | (have h2 := encSt_inj rfl (Prod.mk.inj h).2; simp [] at h2; simp [h2]) | (have h2 := (Prod.mk.inj h).1; simp at h2) | rfl)
noncomputable abbrev X_L_make_Same_api_Vec_0 (v3 : List I3) (v4 : List I3) (v5 : Int) (n : Nat) : Option (Ex × St) := (lvl Try.prog HH n).1 ⟨132, 0, true⟩ 0 (loopOf Try.f132 0) (encSt S132_0 (((List.map encI3 v3), (List.map encI3 v4), v5, ()), ()))
noncomputable def L_make_Same_api_Vec_0 (v3 : List I3) (v4 : List I3) (v5 : Int) : Option E_make_Same_api_Vec_0 := den enc_L_make_Same_api_Vec_0 (X_L_make_Same_api_Vec_0 v3 v4 v5)
theorem L_make_Same_api_Vec_0_of (v3 : List I3) (v4 : List I3) (v5 : Int) : ∀ r, ((
    bif decide (v5 < (((v3.length : Nat) : Int))) then (
      bif decide (0 ≤ v5) then (
        (nth v3 v5.toNat).bind fun x6 =>
        bif decide (0 ≤ v5) then (
          (nth v4 v5.toNat).bind fun x7 =>
          letIn (!((x6.c0 == x7.c0) && ((x6.c1 == x7.c1) && ((x6.c2 == x7.c2) && true))) : Bool) fun b8 =>
          bif b8 then (
            some (.inl false))
          else
          letIn (IntKind.wrap .i64 (v5 + 1) : Int) fun n9 =>
          L_make_Same_api_Vec_0 v3 v4 n9)
        else
        none)
      else
      none)
    else
    some (.inr (()))) : Option E_make_Same_api_Vec_0) = some r →
    L_make_Same_api_Vec_0 v3 v4 v5 = some r := fun r h =>
  den_of (x := (X_L_make_Same_api_Vec_0 v3 v4 v5)) inj_L_make_Same_api_Vec_0 1 (Lim.cong (fun n => loop132_0 n ((List.map encI3 v3)) ((List.map encI3 v4)) v5) (by
      refine Lim.bif (by first | with_reducible rfl | (simp [map_upd] <;> rfl) | rfl) ?_ ?_
      · refine Lim.bif rfl ?_ Lim.none_
        refine Lim.nth encI3 rfl rfl fun x6 => ?_
        refine Lim.bifT rfl ?_
        refine Lim.decC (x6.c0, x6.c1, x6.c2, ()) rfl ?_
        refine Lim.bif rfl ?_ Lim.none_
        refine Lim.nth encI3 rfl rfl fun x7 => ?_
        refine Lim.bifT rfl ?_
        refine Lim.decC (x7.c0, x7.c1, x7.c2, ()) rfl ?_
        refine Lim.letIn rfl fun b8 => ?_
        refine Lim.bif rfl ?_ ?_
        · exact Lim.leaf rfl
        refine Lim.letIn rfl fun n9 => ?_
        exact Lim.loop 0 rfl
      exact Lim.leaf rfl
    )) h
abbrev o_make_Same_api_Vec (v : Bool) : VtsT outs132 × MtsT mouts132 := ((v, ()), ())
abbrev encO_make_Same_api_Vec (v : Bool) : R := (encR outs132 (o_make_Same_api_Vec v).1, encMts mouts132 (o_make_Same_api_Vec v).2)
theorem injO_make_Same_api_Vec : ∀ a b, encO_make_Same_api_Vec a = encO_make_Same_api_Vec b → a = b := by
  rintro a0 b0 h
  have h1 := encR_inj (Prod.mk.inj h).1
  have h2 := encMts_inj (Prod.mk.inj h).2
  simp [o_make_Same_api_Vec] at h1 h2
  simp [h1, h2]
noncomputable abbrev X_make_Same_api_Vec (a1 : List I3) (b2 : List I3) (n : Nat) : Option R := (lvl Try.prog HH n).2 132 [.s (.one (.fr 3 (List.map encI3 a1))), .s (.one (.fr 3 (List.map encI3 b2)))] []
noncomputable def F_make_Same_api_Vec (a1 : List I3) (b2 : List I3) : Option Bool := den encO_make_Same_api_Vec (X_make_Same_api_Vec a1 b2)
theorem lim_make_Same_api_Vec (k : Nat) (a1 : List I3) (b2 : List I3) : Lim (fun v => (encR outs132 (o_make_Same_api_Vec v).1, encMts mouts132 (o_make_Same_api_Vec v).2)) (fun n => (lvl Try.prog HH (n + k)).2 132 [.s (.one (.fr 3 (List.map encI3 a1))), .s (.one (.fr 3 (List.map encI3 b2)))] []) (F_make_Same_api_Vec a1 b2) := Lim.den (x := (X_make_Same_api_Vec a1 b2)) k
theorem F_make_Same_api_Vec_of (a1 : List I3) (b2 : List I3) : ∀ r, ((
    bif (((a1.length : Nat) : Int)) != (((b2.length : Nat) : Int)) then (
      some false)
    else
    (L_make_Same_api_Vec_0 a1 b2 0).bind fun p10 =>
    match p10 with
    | .inl e11 => (
      some e11)
    | .inr e12 => (
      some true)) : Option Bool) = some r →
    F_make_Same_api_Vec a1 b2 = some r := fun r h =>
  den_of (x := (X_make_Same_api_Vec a1 b2)) injO_make_Same_api_Vec 1 (Lim.cong (fun n => fn132 n ((List.map encI3 a1)) ((List.map encI3 b2))) (by
      refine Lim.bif (by first | with_reducible rfl | (simp [map_upd] <;> rfl) | rfl) ?_ ?_
      · exact Lim.leaf rfl
      refine Lim.bind (show Lim enc_L_make_Same_api_Vec_0 _ (L_make_Same_api_Vec_0 a1 b2 0) from Lim.loop 0 rfl) fun p10 => ?_
      rcases p10 with e11 | e12
      · refine Lim.exit (.ret) S132_0_r ((e11, ()), ()) rfl rfl rfl ?_
        exact Lim.leaf rfl
      · refine Lim.bifF rfl ?_
        refine Lim.exit (.exit 0) S132_0_e0 ((), ()) rfl rfl rfl ?_
        exact Lim.leaf rfl
    )) h

/-! armplan/armplanlaw10.bounds -/
abbrev o_law10_bounds (v : Bool) : VtsT outs80 × MtsT mouts80 := ((v, ()), ())
abbrev encO_law10_bounds (v : Bool) : R := (encR outs80 (o_law10_bounds v).1, encMts mouts80 (o_law10_bounds v).2)
theorem injO_law10_bounds : ∀ a b, encO_law10_bounds a = encO_law10_bounds b → a = b := by
  rintro a0 b0 h
  have h1 := encR_inj (Prod.mk.inj h).1
  have h2 := encMts_inj (Prod.mk.inj h).2
  simp [o_law10_bounds] at h1 h2
  simp [h1, h2]
noncomputable abbrev X_law10_bounds (l1 : List I6) (radius2 : Int) (n : Nat) : Option R := (lvl Try.prog HH n).2 80 [.s (.one (.fr 6 (List.map encI6 l1))), .s (.one (.v (.int .i64 radius2)))] []
noncomputable def F_law10_bounds (l1 : List I6) (radius2 : Int) : Option Bool := den encO_law10_bounds (X_law10_bounds l1 radius2)
theorem lim_law10_bounds (k : Nat) (l1 : List I6) (radius2 : Int) : Lim (fun v => (encR outs80 (o_law10_bounds v).1, encMts mouts80 (o_law10_bounds v).2)) (fun n => (lvl Try.prog HH (n + k)).2 80 [.s (.one (.fr 6 (List.map encI6 l1))), .s (.one (.v (.int .i64 radius2)))] []) (F_law10_bounds l1 radius2) := Lim.den (x := (X_law10_bounds l1 radius2)) k
theorem F_law10_bounds_of (l1 : List I6) (radius2 : Int) : ∀ r, ((
    (F_shape_Placed l1).bind fun y3 =>
    (F_ref10_Placed l1).bind fun y4 =>
    bif y3 == y4 then (
      (F_shape_Bound l1 radius2).bind fun y5 =>
      (F_ref10_Bound l1 radius2).bind fun y6 =>
      letIn (((y5.c0 == y6.c0) && ((y5.c1 == y6.c1) && true)) && (((y5.c2 == y6.c2) && ((y5.c3 == y6.c3) && true)) && (((y5.c4 == y6.c4) && ((y5.c5 == y6.c5) && true)) && true)) : Bool) fun b7 =>
      bif b7 then (
        (F_shape_Centers l1).bind fun y8 =>
        (F_ref10_Centers l1).bind fun y9 =>
        (F_make_Same_api_Vec y8 y9).bind fun y10 =>
        some y10)
      else
      some false)
    else
    some false) : Option Bool) = some r →
    F_law10_bounds l1 radius2 = some r := fun r h =>
  den_of (x := (X_law10_bounds l1 radius2)) injO_law10_bounds 1 (Lim.cong (fun n => fn80 n ((List.map encI6 l1)) radius2) (by
      refine Lim.call o_shape_Placed (lim_shape_Placed 0 l1) rfl rfl fun y3 => ?_
      refine Lim.call o_ref10_Placed (lim_ref10_Placed 0 l1) rfl rfl fun y4 => ?_
      refine Lim.bif rfl ?_ ?_
      · refine Lim.call o_shape_Bound (lim_shape_Bound 0 l1 radius2) rfl rfl fun y5 => ?_
        refine Lim.call o_ref10_Bound (lim_ref10_Bound 0 l1 radius2) rfl rfl fun y6 => ?_
        refine Lim.letIn rfl fun b7 => ?_
        refine Lim.bif rfl ?_ ?_
        · refine Lim.call o_shape_Centers (lim_shape_Centers 0 l1) rfl rfl fun y8 => ?_
          refine Lim.call o_ref10_Centers (lim_ref10_Centers 0 l1) rfl rfl fun y9 => ?_
          refine Lim.call o_make_Same_api_Vec (lim_make_Same_api_Vec 0 y8 y9) rfl rfl fun y10 => ?_
          exact Lim.leaf rfl
        exact Lim.leaf rfl
      exact Lim.leaf rfl
    )) h

/-! armplan/armplanlaw10.ShapeBounds -/
abbrev o_law10_ShapeBounds (v : Bool) : VtsT outs22 × MtsT mouts22 := ((v, ()), ())
abbrev encO_law10_ShapeBounds (v : Bool) : R := (encR outs22 (o_law10_ShapeBounds v).1, encMts mouts22 (o_law10_ShapeBounds v).2)
theorem injO_law10_ShapeBounds : ∀ a b, encO_law10_ShapeBounds a = encO_law10_ShapeBounds b → a = b := by
  rintro a0 b0 h
  have h1 := encR_inj (Prod.mk.inj h).1
  have h2 := encMts_inj (Prod.mk.inj h).2
  simp [o_law10_ShapeBounds] at h1 h2
  simp [h1, h2]
noncomputable abbrev X_law10_ShapeBounds (raw1 : List I6) (radius2 : Int) (l3 : List Int) (width4 : Int) (n : Nat) : Option R := (lvl Try.prog HH n).2 22 [.s (.one (.fr 6 (List.map encI6 raw1))), .s (.one (.v (.int .i64 radius2))), .s (.one (.fr 1 (List.map encI l3))), .s (.one (.v (.int .i64 width4)))] []
noncomputable def F_law10_ShapeBounds (raw1 : List I6) (radius2 : Int) (l3 : List Int) (width4 : Int) : Option Bool := den encO_law10_ShapeBounds (X_law10_ShapeBounds raw1 radius2 l3 width4)
theorem lim_law10_ShapeBounds (k : Nat) (raw1 : List I6) (radius2 : Int) (l3 : List Int) (width4 : Int) : Lim (fun v => (encR outs22 (o_law10_ShapeBounds v).1, encMts mouts22 (o_law10_ShapeBounds v).2)) (fun n => (lvl Try.prog HH (n + k)).2 22 [.s (.one (.fr 6 (List.map encI6 raw1))), .s (.one (.v (.int .i64 radius2))), .s (.one (.fr 1 (List.map encI l3))), .s (.one (.v (.int .i64 width4)))] []) (F_law10_ShapeBounds raw1 radius2 l3 width4) := Lim.den (x := (X_law10_ShapeBounds raw1 radius2 l3 width4)) k
theorem F_law10_ShapeBounds_of (raw1 : List I6) (radius2 : Int) (l3 : List Int) (width4 : Int) : ∀ r, ((
    (F_make_Round width4 5000).bind fun y5 =>
    (F_make_Points l3 y5).bind fun y6 =>
    letIn (IntKind.wrap .i64 ((BitVec.ofInt 64 radius2 &&& BitVec.ofInt 64 16777215).toNat : Nat) : Int) fun n7 =>
    (F_make_Round n7 2097152).bind fun y8 =>
    letIn (IntKind.wrap .i64 (y8 - 5) : Int) fun n9 =>
    (F_law10_awake).bind fun y10 =>
    bif y10 then (
      (F_law10_bounds raw1 radius2).bind fun y11 =>
      bif y11 then (
        (F_law10_bounds y6 n9).bind fun y12 =>
        bif y12 then (
          bif decide ((y6.length + raw1.length) * 48 ≤ 140737488355328) then (
            (F_law10_bounds (y6 ++ raw1) n9).bind fun y13 =>
            some y13)
          else
          none)
        else
        some false)
      else
      some false)
    else
    some false) : Option Bool) = some r →
    F_law10_ShapeBounds raw1 radius2 l3 width4 = some r := fun r h =>
  den_of (x := (X_law10_ShapeBounds raw1 radius2 l3 width4)) injO_law10_ShapeBounds 1 (Lim.cong (fun n => fn22 n ((List.map encI6 raw1)) radius2 ((List.map encI l3)) width4) (by
      refine Lim.call o_make_Round (lim_make_Round 0 width4 5000) rfl rfl fun y5 => ?_
      refine Lim.call o_make_Points (lim_make_Points 0 l3 y5) rfl rfl fun y6 => ?_
      refine Lim.letIn rfl fun n7 => ?_
      refine Lim.call o_make_Round (lim_make_Round 0 n7 2097152) rfl rfl fun y8 => ?_
      refine Lim.letIn rfl fun n9 => ?_
      refine Lim.call o_law10_awake (lim_law10_awake 0 ) rfl rfl fun y10 => ?_
      refine Lim.bif rfl ?_ ?_
      · refine Lim.call o_law10_bounds (lim_law10_bounds 0 raw1 radius2) rfl rfl fun y11 => ?_
        refine Lim.bif rfl ?_ ?_
        · refine Lim.call o_law10_bounds (lim_law10_bounds 0 y6 n9) rfl rfl fun y12 => ?_
          refine Lim.bif rfl ?_ ?_
          · refine Lim.bif (by first | with_reducible rfl | (simp [map_upd, o_make_Points] <;> rfl) | (simp only [List.map_append, List.map_cons, List.map_nil, List.map_take, List.map_drop, map_upd, List.map_replicate, List.length_map, o_make_Points] <;> rfl) | (simp only [List.map_append, List.map_cons, List.map_nil, List.map_take, List.map_drop, map_upd, List.map_replicate, List.length_map, List.length_append, List.length_cons, List.length_nil, o_make_Points] <;> rfl) | rfl) ?_ Lim.none_
            refine Lim.call o_law10_bounds (lim_law10_bounds 0 (y6 ++ raw1) n9) (by first | with_reducible rfl | (simp [map_upd, o_make_Points] <;> rfl) | (simp only [List.map_append, List.map_cons, List.map_nil, List.map_take, List.map_drop, map_upd, List.map_replicate, List.length_map, o_make_Points] <;> rfl) | (simp only [List.map_append, List.map_cons, List.map_nil, List.map_take, List.map_drop, map_upd, List.map_replicate, List.length_map, List.length_append, List.length_cons, List.length_nil, o_make_Points] <;> rfl) | rfl) (by first | with_reducible rfl | (simp [map_upd, o_make_Points] <;> rfl) | (simp only [List.map_append, List.map_cons, List.map_nil, List.map_take, List.map_drop, map_upd, List.map_replicate, List.length_map, o_make_Points] <;> rfl) | (simp only [List.map_append, List.map_cons, List.map_nil, List.map_take, List.map_drop, map_upd, List.map_replicate, List.length_map, List.length_append, List.length_cons, List.length_nil, o_make_Points] <;> rfl) | rfl) fun y13 => ?_
            exact Lim.leaf rfl
          exact Lim.leaf rfl
        exact Lim.leaf rfl
      exact Lim.leaf rfl
    )) h
end Go.Proofs.Ytfpdjpleplhcgaa.Am
