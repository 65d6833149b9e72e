/- PRINTED: the functions without levels. -/
import Derived.Test.YtcldcnolhmmegaaE0
import Derived.Test.YtcldcnolhmmegaaE1
import Derived.Test.YtcldcnolhmmegaaE2
import Derived.Test.YtcldcnolhmmegaaE3
import Derived.Test.YtcldcnolhmmegaaV
set_option linter.unusedVariables false
set_option linter.unusedSimpArgs false
set_option maxRecDepth 100000
namespace Go.Proofs.Ytcldcnolhmmegaa.Am
open Go Go.Proofs
/-! armplan/armplanmake.From -/
abbrev o_make_From (v : LI_I) : VtsT outs37 × MtsT mouts37 := (((), ()), (((List.map encI v.c0), v.c1, ()), ()))
abbrev encO_make_From (v : LI_I) : R := (encR outs37 (o_make_From v).1, encMts mouts37 (o_make_From v).2)
theorem injO_make_From : ∀ a b, encO_make_From a = encO_make_From b → a = b := by
  rintro ⟨a0, a1⟩ ⟨b0, b1⟩ h
  have h1 := encR_inj (Prod.mk.inj h).1
  have h2 := encMts_inj (Prod.mk.inj h).2
  simp [o_make_From, map_inj encI_inj] at h1 h2
  simp [h1, h2]
noncomputable abbrev X_make_From (l1 : List Int) (n : Nat) : Option R := (lvl Try.prog HH n).2 37 [.s (.one (.fr 1 (List.map encI l1)))] []
noncomputable def F_make_From (l1 : List Int) : Option LI_I := den encO_make_From (X_make_From l1)
theorem lim_make_From (k : Nat) (l1 : List Int) : Lim (fun v => (encR outs37 (o_make_From v).1, encMts mouts37 (o_make_From v).2)) (fun n => (lvl Try.prog HH (n + k)).2 37 [.s (.one (.fr 1 (List.map encI l1)))] []) (F_make_From l1) := Lim.den (x := (X_make_From l1)) k
theorem F_make_From_of (l1 : List Int) : ∀ r, ((
    some ((LI_I.mk l1 0))) : Option LI_I) = some r →
    F_make_From l1 = some r := fun r h =>
  den_of (x := (X_make_From l1)) injO_make_From 1 (Lim.cong (fun n => fn37 n ((List.map encI l1))) (by
      exact Lim.leaf rfl
    )) h
def G_make_From (l1 : List Int) : LI_I :=
  ((LI_I.mk l1 0))
theorem F_make_From_eq (l1 : List Int) : F_make_From l1 = some (G_make_From l1) := F_make_From_of l1 _ (by
  unfold G_make_From
  rfl)

/-! armplan/armplanmake.Round -/
abbrev o_make_Round (v : Int) : VtsT outs11 × MtsT mouts11 := ((v, ()), ())
abbrev encO_make_Round (v : Int) : R := (encR outs11 (o_make_Round v).1, encMts mouts11 (o_make_Round v).2)
theorem injO_make_Round : ∀ a b, encO_make_Round a = encO_make_Round b → a = b := by
  rintro a0 b0 h
  have h1 := encR_inj (Prod.mk.inj h).1
  have h2 := encMts_inj (Prod.mk.inj h).2
  simp [o_make_Round] at h1 h2
  simp [h1, h2]
noncomputable abbrev X_make_Round (n1 : Int) (k2 : Int) (n : Nat) : Option R := (lvl Try.prog HH n).2 11 [.s (.one (.v (.int .i64 n1))), .s (.one (.v (.int .i64 k2)))] []
noncomputable def F_make_Round (n1 : Int) (k2 : Int) : Option Int := den encO_make_Round (X_make_Round n1 k2)
theorem lim_make_Round (k : Nat) (n1 : Int) (k2 : Int) : Lim (fun v => (encR outs11 (o_make_Round v).1, encMts mouts11 (o_make_Round v).2)) (fun n => (lvl Try.prog HH (n + k)).2 11 [.s (.one (.v (.int .i64 n1))), .s (.one (.v (.int .i64 k2)))] []) (F_make_Round n1 k2) := Lim.den (x := (X_make_Round n1 k2)) k
theorem F_make_Round_of (n1 : Int) (k2 : Int) : ∀ r, ((
    bif k2 == 0 then (
      none)
    else
    letIn (Int.tmod n1 k2 : Int) fun n3 =>
    bif decide (n3 < 0) then (
      letIn (IntKind.wrap .i64 (n3 + k2) : Int) fun n4 =>
      some n4)
    else
    some n3) : Option Int) = some r →
    F_make_Round n1 k2 = some r := fun r h =>
  den_of (x := (X_make_Round n1 k2)) injO_make_Round 1 (Lim.cong (fun n => fn11 n n1 k2) (by
      refine Lim.bif rfl Lim.none_ ?_
      refine Lim.letIn rfl fun n3 => ?_
      refine Lim.bif rfl ?_ ?_
      · refine Lim.letIn rfl fun n4 => ?_
        exact Lim.leaf rfl
      exact Lim.leaf rfl
    )) h

/-! (*armplan/armplanmake.Source).Next -/
abbrev o_make_Source_Next (v : Int × LI_I) : VtsT outs39 × MtsT mouts39 := ((v.1, ()), (((List.map encI v.2.c0), v.2.c1, ()), ()))
abbrev encO_make_Source_Next (v : Int × LI_I) : R := (encR outs39 (o_make_Source_Next v).1, encMts mouts39 (o_make_Source_Next v).2)
theorem injO_make_Source_Next : ∀ a b, encO_make_Source_Next a = encO_make_Source_Next b → a = b := by
  rintro ⟨a0, ⟨a1, a2⟩⟩ ⟨b0, ⟨b1, b2⟩⟩ h
  have h1 := encR_inj (Prod.mk.inj h).1
  have h2 := encMts_inj (Prod.mk.inj h).2
  simp [o_make_Source_Next, map_inj encI_inj] at h1 h2
  simp [h1, h2]
noncomputable abbrev X_make_Source_Next (k1 : Int) (c2 : LI_I) (n : Nat) : Option R := (lvl Try.prog HH n).2 39 [.s (.one (.ptr 0 0 0)), .s (.one (.v (.int .i64 k1)))] [.own 2 true [[.fr 1 (List.map encI c2.c0), .v (.int .i64 c2.c1)]]]
noncomputable def F_make_Source_Next (k1 : Int) (c2 : LI_I) : Option (Int × LI_I) := den encO_make_Source_Next (X_make_Source_Next k1 c2)
theorem lim_make_Source_Next (k : Nat) (k1 : Int) (c2 : LI_I) : Lim (fun v => (encR outs39 (o_make_Source_Next v).1, encMts mouts39 (o_make_Source_Next v).2)) (fun n => (lvl Try.prog HH (n + k)).2 39 [.s (.one (.ptr 0 0 0)), .s (.one (.v (.int .i64 k1)))] [.own 2 true [[.fr 1 (List.map encI c2.c0), .v (.int .i64 c2.c1)]]]) (F_make_Source_Next k1 c2) := Lim.den (x := (X_make_Source_Next k1 c2)) k
theorem F_make_Source_Next_of (k1 : Int) (c2 : LI_I) : ∀ r, ((
    bif decide (c2.c1 ≥ (((c2.c0.length : Nat) : Int))) then (
      some (0, c2))
    else
    letIn (IntKind.wrap .i64 (c2.c1 + 1) : Int) fun n3 =>
    letIn (IntKind.wrap .i64 (n3 - 1) : Int) fun n4 =>
    bif decide (0 ≤ n4) then (
      (nth c2.c0 n4.toNat).bind fun x5 =>
      (F_make_Round x5 k1).bind fun y6 =>
      some (y6, (LI_I.mk c2.c0 n3)))
    else
    none) : Option (Int × LI_I)) = some r →
    F_make_Source_Next k1 c2 = some r := fun r h =>
  den_of (x := (X_make_Source_Next k1 c2)) injO_make_Source_Next 1 (Lim.cong (fun n => fn39s0 n k1 ((List.map encI c2.c0)) c2.c1) (by
      refine Lim.bif (by first | with_reducible rfl | (simp only [List.map_replicate, map_upd]; rfl) | (simp [map_upd] <;> rfl) | rfl) ?_ ?_
      · exact Lim.leaf rfl
      refine Lim.letIn rfl fun n3 => ?_
      refine Lim.letIn rfl fun n4 => ?_
      refine Lim.bif rfl ?_ Lim.none_
      refine Lim.nth encI rfl rfl fun x5 => ?_
      refine Lim.step rfl ?_
      refine Lim.step rfl ?_
      refine Lim.call o_make_Round (lim_make_Round 0 x5 k1) rfl rfl fun y6 => ?_
      exact Lim.leaf rfl
    )) h

/-! (*armplan/armplanmake.Source).Signed -/
abbrev o_make_Source_Signed (v : Int × LI_I) : VtsT outs38 × MtsT mouts38 := ((v.1, ()), (((List.map encI v.2.c0), v.2.c1, ()), ()))
abbrev encO_make_Source_Signed (v : Int × LI_I) : R := (encR outs38 (o_make_Source_Signed v).1, encMts mouts38 (o_make_Source_Signed v).2)
theorem injO_make_Source_Signed : ∀ a b, encO_make_Source_Signed a = encO_make_Source_Signed b → a = b := by
  rintro ⟨a0, ⟨a1, a2⟩⟩ ⟨b0, ⟨b1, b2⟩⟩ h
  have h1 := encR_inj (Prod.mk.inj h).1
  have h2 := encMts_inj (Prod.mk.inj h).2
  simp [o_make_Source_Signed, map_inj encI_inj] at h1 h2
  simp [h1, h2]
noncomputable abbrev X_make_Source_Signed (k1 : Int) (c2 : LI_I) (n : Nat) : Option R := (lvl Try.prog HH n).2 38 [.s (.one (.ptr 0 0 0)), .s (.one (.v (.int .i64 k1)))] [.own 2 true [[.fr 1 (List.map encI c2.c0), .v (.int .i64 c2.c1)]]]
noncomputable def F_make_Source_Signed (k1 : Int) (c2 : LI_I) : Option (Int × LI_I) := den encO_make_Source_Signed (X_make_Source_Signed k1 c2)
theorem lim_make_Source_Signed (k : Nat) (k1 : Int) (c2 : LI_I) : Lim (fun v => (encR outs38 (o_make_Source_Signed v).1, encMts mouts38 (o_make_Source_Signed v).2)) (fun n => (lvl Try.prog HH (n + k)).2 38 [.s (.one (.ptr 0 0 0)), .s (.one (.v (.int .i64 k1)))] [.own 2 true [[.fr 1 (List.map encI c2.c0), .v (.int .i64 c2.c1)]]]) (F_make_Source_Signed k1 c2) := Lim.den (x := (X_make_Source_Signed k1 c2)) k
theorem F_make_Source_Signed_of (k1 : Int) (c2 : LI_I) : ∀ r, ((
    letIn (IntKind.wrap .i64 (2 * k1) : Int) fun n3 =>
    letIn (IntKind.wrap .i64 (n3 + 1) : Int) fun n4 =>
    (F_make_Source_Next n4 c2).bind fun y5 =>
    letIn (IntKind.wrap .i64 (y5.1 - k1) : Int) fun n6 =>
    some (n6, y5.2)) : Option (Int × LI_I)) = some r →
    F_make_Source_Signed k1 c2 = some r := fun r h =>
  den_of (x := (X_make_Source_Signed k1 c2)) injO_make_Source_Signed 1 (Lim.cong (fun n => fn38s0 n k1 ((List.map encI c2.c0)) c2.c1) (by
      refine Lim.letIn rfl fun n3 => ?_
      refine Lim.letIn rfl fun n4 => ?_
      refine Lim.call o_make_Source_Next (lim_make_Source_Next 0 n4 c2) rfl rfl fun y5 => ?_
      refine Lim.letIn rfl fun n6 => ?_
      exact Lim.leaf rfl
    )) h

/-! armplan/armplanmake.Points -/
abbrev E_make_Points_0 : Type := ((List I6))
def enc_L_make_Points_0 (e : E_make_Points_0) : Ex × St := (.exit 0, encSt S24_0_e0 (((), ()), ((List.map encI6 e), ())))
theorem inj_L_make_Points_0 : ∀ a b, enc_L_make_Points_0 a = enc_L_make_Points_0 b → a = b := by
  rintro a0 b0 h
  first | (cases h; done) | (have h2 := encSt_inj rfl (Prod.mk.inj h).2; simp [map_inj encI6_inj] at h2; simp [h2]) | (have h2 := (Prod.mk.inj h).1; simp at h2) | rfl
abbrev E_make_Points_2 : Type := (Int × Int × LI_I × I3 × (List I6) × I6)
def enc_L_make_Points_2 (e : E_make_Points_2) : Ex × St := (.exit 2, encSt S24_2_e2 ((e.1, (), (), (), e.2.1, (), ()), (((List.map encI e.2.2.1.c0), e.2.2.1.c1, ()), (e.2.2.2.1.c0, e.2.2.2.1.c1, e.2.2.2.1.c2, ()), (List.map encI6 e.2.2.2.2.1), (e.2.2.2.2.2.c0, e.2.2.2.2.2.c1, e.2.2.2.2.2.c2, e.2.2.2.2.2.c3, e.2.2.2.2.2.c4, e.2.2.2.2.2.c5, ()), ())))
theorem inj_L_make_Points_2 : ∀ a b, enc_L_make_Points_2 a = enc_L_make_Points_2 b → a = b := by
  rintro ⟨a0, a1, ⟨a2, a3⟩, ⟨a4, a5, a6⟩, a7, ⟨a8, a9, a10, a11, a12, a13⟩⟩ ⟨b0, b1, ⟨b2, b3⟩, ⟨b4, b5, b6⟩, b7, ⟨b8, b9, b10, b11, b12, b13⟩⟩ h
  first | (cases h; done) | (have h2 := encSt_inj rfl (Prod.mk.inj h).2; simp [map_inj encI6_inj, map_inj encI_inj] at h2; simp [h2]) | (have h2 := (Prod.mk.inj h).1; simp at h2) | rfl
noncomputable abbrev X_L_make_Points_0 (v12 : Int) (v13 : Int) (c14 : LI_I) (c15 : I3) (es16 : List I6) (n : Nat) : Option (Ex × St) := (lvl Try.prog HH n).1 ⟨24, 0, true⟩ 0 (loopOf Try.f24 0) (encSt S24_0 ((v12, (), (), (), v13, ()), (((List.map encI c14.c0), c14.c1, ()), (c15.c0, c15.c1, c15.c2, ()), (List.map encI6 es16), ())))
noncomputable def L_make_Points_0 (v12 : Int) (v13 : Int) (c14 : LI_I) (c15 : I3) (es16 : List I6) : Option E_make_Points_0 := den enc_L_make_Points_0 (X_L_make_Points_0 v12 v13 c14 c15 es16)
theorem L_make_Points_0_of (v12 : Int) (v13 : Int) (c14 : LI_I) (c15 : I3) (es16 : List I6) : ∀ r, ((
    bif decide (v13 > 0) then (
      Option.bind (α := E_make_Points_2) (
        (F_make_Source_Signed 4 c14).bind fun y17 =>
        letIn (IntKind.wrap .i64 (y17.1 * 32768) : Int) fun n18 =>
        letIn (IntKind.wrap .i64 (c15.c0 + n18) : Int) fun n19 =>
        (F_make_Source_Signed 9 y17.2).bind fun y20 =>
        letIn (IntKind.wrap .i64 (n19 + y20.1) : Int) fun n21 =>
        letIn (IntKind.wrap .i64 (v12 + 1) : Int) fun n22 =>
        (F_make_Source_Next n22 y20.2).bind fun y23 =>
        letIn (IntKind.wrap .i64 (n21 + y23.1) : Int) fun n24 =>
        (F_make_Source_Signed 4 y23.2).bind fun y25 =>
        letIn (IntKind.wrap .i64 (y25.1 * 32768) : Int) fun n26 =>
        letIn (IntKind.wrap .i64 (c15.c1 + n26) : Int) fun n27 =>
        (F_make_Source_Signed 9 y25.2).bind fun y28 =>
        letIn (IntKind.wrap .i64 (n27 + y28.1) : Int) fun n29 =>
        letIn (IntKind.wrap .i64 (v12 + 1) : Int) fun n30 =>
        (F_make_Source_Next n30 y28.2).bind fun y31 =>
        letIn (IntKind.wrap .i64 (n29 + y31.1) : Int) fun n32 =>
        (F_make_Source_Signed 4 y31.2).bind fun y33 =>
        letIn (IntKind.wrap .i64 (y33.1 * 32768) : Int) fun n34 =>
        letIn (IntKind.wrap .i64 (c15.c2 + n34) : Int) fun n35 =>
        (F_make_Source_Signed 9 y33.2).bind fun y36 =>
        letIn (IntKind.wrap .i64 (n35 + y36.1) : Int) fun n37 =>
        letIn (IntKind.wrap .i64 (v12 + 1) : Int) fun n38 =>
        (F_make_Source_Next n38 y36.2).bind fun y39 =>
        letIn (IntKind.wrap .i64 (n37 + y39.1) : Int) fun n40 =>
        some ((v12, v13, y39.2, c15, es16, (I6.mk n21 n24 n29 n32 n37 n40)))) fun p41 =>
      bif decide ((p41.2.2.2.2.1.length + 1) * 48 ≤ 140737488355328) then (
        letIn (IntKind.wrap .i64 (p41.2.1 - 1) : Int) fun n42 =>
        L_make_Points_0 p41.1 n42 p41.2.2.1 p41.2.2.2.1 (p41.2.2.2.2.1 ++ [p41.2.2.2.2.2]))
      else
      none)
    else
    some es16) : Option E_make_Points_0) = some r →
    L_make_Points_0 v12 v13 c14 c15 es16 = some r := fun r h =>
  den_of (x := (X_L_make_Points_0 v12 v13 c14 c15 es16)) inj_L_make_Points_0 5 (Lim.cong (fun n => loop24_0 n v12 v13 ((List.map encI c14.c0)) c14.c1 c15.c0 c15.c1 c15.c2 ((List.map encI6 es16))) (by
      refine Lim.bif rfl ?_ ?_
      · refine Lim.bind (e := enc_L_make_Points_2) ?_ fun p41 => ?_
        · refine Lim.call o_make_Source_Signed (lim_make_Source_Signed 3 4 c14) rfl rfl fun y17 => ?_
          refine Lim.letIn rfl fun n18 => ?_
          refine Lim.letIn rfl fun n19 => ?_
          refine Lim.call o_make_Source_Signed (lim_make_Source_Signed 3 9 y17.2) rfl rfl fun y20 => ?_
          refine Lim.letIn rfl fun n21 => ?_
          refine Lim.letIn rfl fun n22 => ?_
          refine Lim.call o_make_Source_Next (lim_make_Source_Next 3 n22 y20.2) rfl rfl fun y23 => ?_
          refine Lim.letIn rfl fun n24 => ?_
          refine Lim.call o_make_Source_Signed (lim_make_Source_Signed 2 4 y23.2) rfl rfl fun y25 => ?_
          refine Lim.letIn rfl fun n26 => ?_
          refine Lim.letIn rfl fun n27 => ?_
          refine Lim.call o_make_Source_Signed (lim_make_Source_Signed 2 9 y25.2) rfl rfl fun y28 => ?_
          refine Lim.letIn rfl fun n29 => ?_
          refine Lim.letIn rfl fun n30 => ?_
          refine Lim.call o_make_Source_Next (lim_make_Source_Next 2 n30 y28.2) rfl rfl fun y31 => ?_
          refine Lim.letIn rfl fun n32 => ?_
          refine Lim.call o_make_Source_Signed (lim_make_Source_Signed 1 4 y31.2) rfl rfl fun y33 => ?_
          refine Lim.letIn rfl fun n34 => ?_
          refine Lim.letIn rfl fun n35 => ?_
          refine Lim.call o_make_Source_Signed (lim_make_Source_Signed 1 9 y33.2) rfl rfl fun y36 => ?_
          refine Lim.letIn rfl fun n37 => ?_
          refine Lim.letIn rfl fun n38 => ?_
          refine Lim.call o_make_Source_Next (lim_make_Source_Next 1 n38 y36.2) rfl rfl fun y39 => ?_
          refine Lim.letIn rfl fun n40 => ?_
          exact Lim.leaf rfl
        refine Lim.exit (.exit 2) S24_2_e2 ((p41.1, (), (), (), p41.2.1, (), ()), (((List.map encI p41.2.2.1.c0), p41.2.2.1.c1, ()), (p41.2.2.2.1.c0, p41.2.2.2.1.c1, p41.2.2.2.1.c2, ()), (List.map encI6 p41.2.2.2.2.1), (p41.2.2.2.2.2.c0, p41.2.2.2.2.2.c1, p41.2.2.2.2.2.c2, p41.2.2.2.2.2.c3, p41.2.2.2.2.2.c4, p41.2.2.2.2.2.c5, ()), ())) rfl rfl rfl ?_
        refine Lim.bif (by first | with_reducible rfl | (simp [map_upd, o_make_From, o_make_Source_Signed, o_make_Source_Next] <;> rfl) | (simp only [List.map_append, List.map_cons, List.map_nil, List.map_take, List.map_drop, map_upd, List.map_replicate, List.length_map, o_make_From, o_make_Source_Signed, o_make_Source_Next] <;> rfl) | (simp only [List.map_append, List.map_cons, List.map_nil, List.map_take, List.map_drop, map_upd, List.map_replicate, List.length_map, List.length_append, List.length_cons, List.length_nil, o_make_From, o_make_Source_Signed, o_make_Source_Next] <;> rfl) | rfl) ?_ Lim.none_
        refine Lim.letIn rfl fun n42 => ?_
        exact Lim.loop 4 (by first | with_reducible rfl | (simp [map_upd, o_make_From, o_make_Source_Signed, o_make_Source_Next] <;> rfl) | (simp only [List.map_append, List.map_cons, List.map_nil, List.map_take, List.map_drop, map_upd, List.map_replicate, List.length_map, o_make_From, o_make_Source_Signed, o_make_Source_Next] <;> rfl) | (simp only [List.map_append, List.map_cons, List.map_nil, List.map_take, List.map_drop, map_upd, List.map_replicate, List.length_map, List.length_append, List.length_cons, List.length_nil, o_make_From, o_make_Source_Signed, o_make_Source_Next] <;> rfl) | rfl)
      exact Lim.leaf rfl
    )) h
abbrev o_make_Points (v : (List I6)) : VtsT outs24 × MtsT mouts24 := (((List.map encI6 v), ()), ())
abbrev encO_make_Points (v : (List I6)) : R := (encR outs24 (o_make_Points v).1, encMts mouts24 (o_make_Points v).2)
theorem injO_make_Points : ∀ a b, encO_make_Points a = encO_make_Points b → a = b := by
  rintro a0 b0 h
  have h1 := encR_inj (Prod.mk.inj h).1
  have h2 := encMts_inj (Prod.mk.inj h).2
  simp [o_make_Points, map_inj encI6_inj] at h1 h2
  simp [h1, h2]
noncomputable abbrev X_make_Points (l1 : List Int) (width2 : Int) (n : Nat) : Option R := (lvl Try.prog HH n).2 24 [.s (.one (.fr 1 (List.map encI l1))), .s (.one (.v (.int .i64 width2)))] []
noncomputable def F_make_Points (l1 : List Int) (width2 : Int) : Option ((List I6)) := den encO_make_Points (X_make_Points l1 width2)
theorem lim_make_Points (k : Nat) (l1 : List Int) (width2 : Int) : Lim (fun v => (encR outs24 (o_make_Points v).1, encMts mouts24 (o_make_Points v).2)) (fun n => (lvl Try.prog HH (n + k)).2 24 [.s (.one (.fr 1 (List.map encI l1))), .s (.one (.v (.int .i64 width2)))] []) (F_make_Points l1 width2) := Lim.den (x := (X_make_Points l1 width2)) k
theorem F_make_Points_of (l1 : List Int) (width2 : Int) : ∀ r, ((
    (F_make_From l1).bind fun y3 =>
    (F_make_Source_Signed 6 y3).bind fun y4 =>
    letIn (IntKind.wrap .i64 (y4.1 * 32768) : Int) fun n5 =>
    (F_make_Source_Signed 6 y4.2).bind fun y6 =>
    letIn (IntKind.wrap .i64 (y6.1 * 32768) : Int) fun n7 =>
    (F_make_Source_Signed 3 y6.2).bind fun y8 =>
    letIn (IntKind.wrap .i64 (y8.1 * 32768) : Int) fun n9 =>
    (F_make_Source_Next 5 y8.2).bind fun y10 =>
    letIn (IntKind.wrap .i64 (1 + y10.1) : Int) fun n11 =>
    (L_make_Points_0 width2 n11 y10.2 ((I3.mk n5 n7 n9)) []).bind fun p43 =>
    some p43) : Option ((List I6))) = some r →
    F_make_Points l1 width2 = some r := fun r h =>
  den_of (x := (X_make_Points l1 width2)) injO_make_Points 1 (Lim.cong (fun n => fn24 n ((List.map encI l1)) width2) (by
      refine Lim.call o_make_From (lim_make_From 0 l1) rfl rfl fun y3 => ?_
      refine Lim.call o_make_Source_Signed (lim_make_Source_Signed 0 6 y3) rfl rfl fun y4 => ?_
      refine Lim.letIn rfl fun n5 => ?_
      refine Lim.call o_make_Source_Signed (lim_make_Source_Signed 0 6 y4.2) rfl rfl fun y6 => ?_
      refine Lim.letIn rfl fun n7 => ?_
      refine Lim.call o_make_Source_Signed (lim_make_Source_Signed 0 3 y6.2) rfl rfl fun y8 => ?_
      refine Lim.letIn rfl fun n9 => ?_
      refine Lim.call o_make_Source_Next (lim_make_Source_Next 0 5 y8.2) rfl rfl fun y10 => ?_
      refine Lim.letIn rfl fun n11 => ?_
      refine Lim.bind (show Lim enc_L_make_Points_0 _ (L_make_Points_0 width2 n11 y10.2 ((I3.mk n5 n7 n9)) []) from Lim.loop 0 (by first | with_reducible rfl | (simp [map_upd, o_make_From, o_make_Source_Signed, o_make_Source_Next] <;> rfl) | (simp only [List.map_append, List.map_cons, List.map_nil, List.map_take, List.map_drop, map_upd, List.map_replicate, List.length_map, o_make_From, o_make_Source_Signed, o_make_Source_Next] <;> rfl) | (simp only [List.map_append, List.map_cons, List.map_nil, List.map_take, List.map_drop, map_upd, List.map_replicate, List.length_map, List.length_append, List.length_cons, List.length_nil, o_make_From, o_make_Source_Signed, o_make_Source_Next] <;> rfl) | rfl)) fun p43 => ?_
      refine Lim.exit (.exit 0) S24_0_e0 (((), ()), ((List.map encI6 p43), ())) rfl rfl rfl ?_
      exact Lim.leaf rfl
    )) h

/-! armplan/armplanmake.Corners -/
abbrev E_make_Corners_0 : Type := ((List I3))
def enc_L_make_Corners_0 (e : E_make_Corners_0) : Ex × St := (.exit 0, encSt S23_0_e0 (((), ()), ((List.map encI3 e), ())))
theorem inj_L_make_Corners_0 : ∀ a b, enc_L_make_Corners_0 a = enc_L_make_Corners_0 b → a = b := by
  rintro a0 b0 h
  first | (cases h; done) | (have h2 := encSt_inj rfl (Prod.mk.inj h).2; simp [map_inj encI3_inj] at h2; simp [h2]) | (have h2 := (Prod.mk.inj h).1; simp at h2) | rfl
noncomputable abbrev X_L_make_Corners_0 (v2 : List I6) (v3 : Int) (es4 : List I3) (n : Nat) : Option (Ex × St) := (lvl Try.prog HH n).1 ⟨23, 0, true⟩ 0 (loopOf Try.f23 0) (encSt S23_0 (((List.map encI6 v2), (), v3, ()), ((List.map encI3 es4), ())))
noncomputable def L_make_Corners_0 (v2 : List I6) (v3 : Int) (es4 : List I3) : Option E_make_Corners_0 := den enc_L_make_Corners_0 (X_L_make_Corners_0 v2 v3 es4)
theorem L_make_Corners_0_of (v2 : List I6) (v3 : Int) (es4 : List I3) : ∀ r, ((
    bif decide (v3 < (((v2.length : Nat) : Int))) then (
      bif decide (0 ≤ v3) then (
        (nth v2 v3.toNat).bind fun x5 =>
        bif decide (0 ≤ v3) then (
          (nth v2 v3.toNat).bind fun x6 =>
          bif decide (0 ≤ v3) then (
            (nth v2 v3.toNat).bind fun x7 =>
            bif decide ((es4.length + 1) * 24 ≤ 140737488355328) then (
              letIn (IntKind.wrap .i64 (v3 + 1) : Int) fun n8 =>
              L_make_Corners_0 v2 n8 (es4 ++ [(I3.mk x5.c0 x6.c2 x7.c4)]))
            else
            none)
          else
          none)
        else
        none)
      else
      none)
    else
    some es4) : Option E_make_Corners_0) = some r →
    L_make_Corners_0 v2 v3 es4 = some r := fun r h =>
  den_of (x := (X_L_make_Corners_0 v2 v3 es4)) inj_L_make_Corners_0 1 (Lim.cong (fun n => loop23_0 n ((List.map encI6 v2)) v3 ((List.map encI3 es4))) (by
      refine Lim.bif (by first | with_reducible rfl | (simp only [List.map_replicate, map_upd]; rfl) | (simp [map_upd] <;> rfl) | rfl) ?_ ?_
      · refine Lim.bif rfl ?_ Lim.none_
        refine Lim.nth encI6 rfl rfl fun x5 => ?_
        refine Lim.step rfl ?_
        refine Lim.step rfl ?_
        refine Lim.bif rfl ?_ Lim.none_
        refine Lim.nth encI6 rfl rfl fun x6 => ?_
        refine Lim.step rfl ?_
        refine Lim.step rfl ?_
        refine Lim.bif rfl ?_ Lim.none_
        refine Lim.nth encI6 rfl rfl fun x7 => ?_
        refine Lim.step rfl ?_
        refine Lim.step rfl ?_
        refine Lim.bif (by first | with_reducible rfl | (simp only [List.map_replicate, map_upd]; rfl) | (simp [map_upd] <;> rfl) | rfl) ?_ Lim.none_
        refine Lim.letIn rfl fun n8 => ?_
        exact Lim.loop 0 (by first | with_reducible rfl | (simp only [List.map_replicate, map_upd]; rfl) | (simp [map_upd] <;> rfl) | rfl)
      exact Lim.leaf rfl
    )) h
abbrev o_make_Corners (v : (List I3)) : VtsT outs23 × MtsT mouts23 := (((List.map encI3 v), ()), ())
abbrev encO_make_Corners (v : (List I3)) : R := (encR outs23 (o_make_Corners v).1, encMts mouts23 (o_make_Corners v).2)
theorem injO_make_Corners : ∀ a b, encO_make_Corners a = encO_make_Corners b → a = b := by
  rintro a0 b0 h
  have h1 := encR_inj (Prod.mk.inj h).1
  have h2 := encMts_inj (Prod.mk.inj h).2
  simp [o_make_Corners, map_inj encI3_inj] at h1 h2
  simp [h1, h2]
noncomputable abbrev X_make_Corners (l1 : List I6) (n : Nat) : Option R := (lvl Try.prog HH n).2 23 [.s (.one (.fr 6 (List.map encI6 l1)))] []
noncomputable def F_make_Corners (l1 : List I6) : Option ((List I3)) := den encO_make_Corners (X_make_Corners l1)
theorem lim_make_Corners (k : Nat) (l1 : List I6) : Lim (fun v => (encR outs23 (o_make_Corners v).1, encMts mouts23 (o_make_Corners v).2)) (fun n => (lvl Try.prog HH (n + k)).2 23 [.s (.one (.fr 6 (List.map encI6 l1)))] []) (F_make_Corners l1) := Lim.den (x := (X_make_Corners l1)) k
theorem F_make_Corners_of (l1 : List I6) : ∀ r, ((
    (L_make_Corners_0 l1 0 []).bind fun p9 =>
    some p9) : Option ((List I3))) = some r →
    F_make_Corners l1 = some r := fun r h =>
  den_of (x := (X_make_Corners l1)) injO_make_Corners 1 (Lim.cong (fun n => fn23 n ((List.map encI6 l1))) (by
      refine Lim.bind (show Lim enc_L_make_Corners_0 _ (L_make_Corners_0 l1 0 []) from Lim.loop 0 (by first | with_reducible rfl | (simp only [List.map_replicate, map_upd]; rfl) | (simp [map_upd] <;> rfl) | rfl)) fun p9 => ?_
      refine Lim.exit (.exit 0) S23_0_e0 (((), ()), ((List.map encI3 p9), ())) rfl rfl rfl ?_
      exact Lim.leaf rfl
    )) h

/-! armplan/armplanlaw14.hulls -/
abbrev o_law14_hulls (v : (List I3) × (List I3) × Int) : VtsT outs10 × MtsT mouts10 := (((List.map encI3 v.1), (List.map encI3 v.2.1), v.2.2, ()), ())
abbrev encO_law14_hulls (v : (List I3) × (List I3) × Int) : R := (encR outs10 (o_law14_hulls v).1, encMts mouts10 (o_law14_hulls v).2)
theorem injO_law14_hulls : ∀ a b, encO_law14_hulls a = encO_law14_hulls b → a = b := by
  rintro ⟨a0, a1, a2⟩ ⟨b0, b1, b2⟩ h
  have h1 := encR_inj (Prod.mk.inj h).1
  have h2 := encMts_inj (Prod.mk.inj h).2
  simp [o_law14_hulls, map_inj encI3_inj] at h1 h2
  simp [h1, h2]
noncomputable abbrev X_law14_hulls (l1 : List Int) (m2 : List Int) (rho3 : Int) (n : Nat) : Option R := (lvl Try.prog HH n).2 10 [.s (.one (.fr 1 (List.map encI l1))), .s (.one (.fr 1 (List.map encI m2))), .s (.one (.v (.int .i64 rho3)))] []
noncomputable def F_law14_hulls (l1 : List Int) (m2 : List Int) (rho3 : Int) : Option ((List I3) × (List I3) × Int) := den encO_law14_hulls (X_law14_hulls l1 m2 rho3)
theorem lim_law14_hulls (k : Nat) (l1 : List Int) (m2 : List Int) (rho3 : Int) : Lim (fun v => (encR outs10 (o_law14_hulls v).1, encMts mouts10 (o_law14_hulls v).2)) (fun n => (lvl Try.prog HH (n + k)).2 10 [.s (.one (.fr 1 (List.map encI l1))), .s (.one (.fr 1 (List.map encI m2))), .s (.one (.v (.int .i64 rho3)))] []) (F_law14_hulls l1 m2 rho3) := Lim.den (x := (X_law14_hulls l1 m2 rho3)) k
theorem F_law14_hulls_of (l1 : List Int) (m2 : List Int) (rho3 : Int) : ∀ r, ((
    (F_make_Points l1 0).bind fun y4 =>
    (F_make_Corners y4).bind fun y5 =>
    (F_make_Points m2 0).bind fun y6 =>
    (F_make_Corners y6).bind fun y7 =>
    letIn (Int.fdiv rho3 16 : Int) fun n8 =>
    letIn (IntKind.wrap .i64 ((BitVec.ofInt 64 rho3 &&& BitVec.ofInt 64 3).toNat : Nat) : Int) fun n9 =>
    bif (decide (0 ≤ n9)) && (decide (n9 < 4)) then (
      (nth ([.v (.int .i64 1), .v (.int .i64 30000), .v (.int .i64 100000), .v (.int .i64 2097153)] : List D1) (n9.toNat * 1)).bind fun d10 =>
      (asInt? .i64 d10).bind fun n11 =>
      (F_make_Round n8 n11).bind fun y12 =>
      some (y5, y7, y12))
    else
    none) : Option ((List I3) × (List I3) × Int)) = some r →
    F_law14_hulls l1 m2 rho3 = some r := fun r h =>
  den_of (x := (X_law14_hulls l1 m2 rho3)) injO_law14_hulls 1 (Lim.cong (fun n => fn10 n ((List.map encI l1)) ((List.map encI m2)) rho3) (by
      refine Lim.call o_make_Points (lim_make_Points 0 l1 0) rfl rfl fun y4 => ?_
      refine Lim.call o_make_Corners (lim_make_Corners 0 y4) rfl rfl fun y5 => ?_
      refine Lim.call o_make_Points (lim_make_Points 0 m2 0) rfl rfl fun y6 => ?_
      refine Lim.call o_make_Corners (lim_make_Corners 0 y6) rfl rfl fun y7 => ?_
      refine Lim.letIn rfl fun n8 => ?_
      refine Lim.letIn rfl fun n9 => ?_
      refine Lim.bif rfl ?_ Lim.none_
      refine Lim.raw rfl fun d10 => ?_
      refine Lim.raw rfl fun n11 => ?_
      refine Lim.call o_make_Round (lim_make_Round 0 n8 n11) rfl rfl fun y12 => ?_
      exact Lim.leaf rfl
    )) h

/-! armplan/nearest.far$1 -/
abbrev o_nearest_far_1 (v : Bool) : VtsT outs68 × MtsT mouts68 := ((v, ()), ())
abbrev encO_nearest_far_1 (v : Bool) : R := (encR outs68 (o_nearest_far_1 v).1, encMts mouts68 (o_nearest_far_1 v).2)
theorem injO_nearest_far_1 : ∀ a b, encO_nearest_far_1 a = encO_nearest_far_1 b → a = b := by
  rintro a0 b0 h
  have h1 := encR_inj (Prod.mk.inj h).1
  have h2 := encMts_inj (Prod.mk.inj h).2
  simp [o_nearest_far_1] at h1 h2
  simp [h1, h2]
noncomputable abbrev X_nearest_far_1 (x1 : Int) (n : Nat) : Option R := (lvl Try.prog HH n).2 68 [.s (.one (.v (.int .i64 x1)))] []
noncomputable def F_nearest_far_1 (x1 : Int) : Option Bool := den encO_nearest_far_1 (X_nearest_far_1 x1)
theorem lim_nearest_far_1 (k : Nat) (x1 : Int) : Lim (fun v => (encR outs68 (o_nearest_far_1 v).1, encMts mouts68 (o_nearest_far_1 v).2)) (fun n => (lvl Try.prog HH (n + k)).2 68 [.s (.one (.v (.int .i64 x1)))] []) (F_nearest_far_1 x1) := Lim.den (x := (X_nearest_far_1 x1)) k
theorem F_nearest_far_1_of (x1 : Int) : ∀ r, ((
    bif decide (x1 < (-268435456)) then (
      some true)
    else
    some (decide (x1 > 268435456))) : Option Bool) = some r →
    F_nearest_far_1 x1 = some r := fun r h =>
  den_of (x := (X_nearest_far_1 x1)) injO_nearest_far_1 1 (Lim.cong (fun n => fn68 n x1) (by
      refine Lim.bif rfl ?_ ?_
      · exact Lim.leaf rfl
      exact Lim.leaf rfl
    )) h
def G_nearest_far_1 (x1 : Int) : Bool :=
  bif decide (x1 < (-268435456)) then (
    true)
  else
  (decide (x1 > 268435456))
theorem F_nearest_far_1_eq (x1 : Int) : F_nearest_far_1 x1 = some (G_nearest_far_1 x1) := F_nearest_far_1_of x1 _ (by
  unfold G_nearest_far_1
  refine Tot.bif ?_ ?_
  · rfl
  rfl)

/-! slices.IndexFunc[[]int64,int64] -/
abbrev E_slices_IndexFunc_int64_int64_nearest_far_1_0 : Type := (Int) ⊕ (Unit)
def enc_L_slices_IndexFunc_int64_int64_nearest_far_1_0 : E_slices_IndexFunc_int64_int64_nearest_far_1_0 → Ex × St
  | .inl e => (.ret, encSt S75s0_0_r ((e, ()), ()))
  | .inr e => (.exit 0, encSt S75s0_0_e0 ((), ()))
theorem inj_L_slices_IndexFunc_int64_int64_nearest_far_1_0 : ∀ a b, enc_L_slices_IndexFunc_int64_int64_nearest_far_1_0 a = enc_L_slices_IndexFunc_int64_int64_nearest_far_1_0 b → a = b := by
  rintro (a0 | _) (b0 | _) h <;> (first | (cases h; done) | (have h2 := encSt_inj rfl (Prod.mk.inj h).2; simp [] at h2; simp [h2]) | (have h2 := (Prod.mk.inj h).1; simp at h2) | rfl)
noncomputable abbrev X_L_slices_IndexFunc_int64_int64_nearest_far_1_0 (v2 : List Int) (v3 : Int) (v4 : Int) (n : Nat) : Option (Ex × St) := (lvl Try.prog HH n).1 ⟨75, 0, true⟩ 0 (loopOf Try.f75 0) (encSt S75s0_0 (((List.map encI v2), (.v (.func (.func 68) #[] #[])), v3, v4, ()), ()))
noncomputable def L_slices_IndexFunc_int64_int64_nearest_far_1_0 (v2 : List Int) (v3 : Int) (v4 : Int) : Option E_slices_IndexFunc_int64_int64_nearest_far_1_0 := den enc_L_slices_IndexFunc_int64_int64_nearest_far_1_0 (X_L_slices_IndexFunc_int64_int64_nearest_far_1_0 v2 v3 v4)
theorem L_slices_IndexFunc_int64_int64_nearest_far_1_0_of (v2 : List Int) (v3 : Int) (v4 : Int) : ∀ r, ((
    bif decide (v4 < v3) then (
      bif decide (0 ≤ v4) then (
        (nth v2 v4.toNat).bind fun x5 =>
        (F_nearest_far_1 x5).bind fun y6 =>
        bif y6 then (
          some (.inl v4))
        else
        letIn (IntKind.wrap .i64 (v4 + 1) : Int) fun n7 =>
        L_slices_IndexFunc_int64_int64_nearest_far_1_0 v2 v3 n7)
      else
      none)
    else
    some (.inr (()))) : Option E_slices_IndexFunc_int64_int64_nearest_far_1_0) = some r →
    L_slices_IndexFunc_int64_int64_nearest_far_1_0 v2 v3 v4 = some r := fun r h =>
  den_of (x := (X_L_slices_IndexFunc_int64_int64_nearest_far_1_0 v2 v3 v4)) inj_L_slices_IndexFunc_int64_int64_nearest_far_1_0 1 (Lim.cong (fun n => loop75s0_0 n ((List.map encI v2)) v3 v4) (by
      refine Lim.bif rfl ?_ ?_
      · refine Lim.bif rfl ?_ Lim.none_
        refine Lim.nth encI rfl rfl fun x5 => ?_
        refine Lim.step rfl ?_
        refine Lim.step rfl ?_
        refine Lim.call o_nearest_far_1 (lim_nearest_far_1 0 x5) rfl rfl fun y6 => ?_
        refine Lim.bif rfl ?_ ?_
        · exact Lim.leaf rfl
        refine Lim.letIn rfl fun n7 => ?_
        exact Lim.loop 0 rfl
      exact Lim.leaf rfl
    )) h
abbrev o_slices_IndexFunc_int64_int64_nearest_far_1 (v : Int) : VtsT outs75 × MtsT mouts75 := ((v, ()), ())
abbrev encO_slices_IndexFunc_int64_int64_nearest_far_1 (v : Int) : R := (encR outs75 (o_slices_IndexFunc_int64_int64_nearest_far_1 v).1, encMts mouts75 (o_slices_IndexFunc_int64_int64_nearest_far_1 v).2)
theorem injO_slices_IndexFunc_int64_int64_nearest_far_1 : ∀ a b, encO_slices_IndexFunc_int64_int64_nearest_far_1 a = encO_slices_IndexFunc_int64_int64_nearest_far_1 b → a = b := by
  rintro a0 b0 h
  have h1 := encR_inj (Prod.mk.inj h).1
  have h2 := encMts_inj (Prod.mk.inj h).2
  simp [o_slices_IndexFunc_int64_int64_nearest_far_1] at h1 h2
  simp [h1, h2]
noncomputable abbrev X_slices_IndexFunc_int64_int64_nearest_far_1 (s1 : List Int) (n : Nat) : Option R := (lvl Try.prog HH n).2 75 [.s (.one (.fr 1 (List.map encI s1))), .s (.one (.v (.func (.func 68) #[] #[])))] []
noncomputable def F_slices_IndexFunc_int64_int64_nearest_far_1 (s1 : List Int) : Option Int := den encO_slices_IndexFunc_int64_int64_nearest_far_1 (X_slices_IndexFunc_int64_int64_nearest_far_1 s1)
theorem lim_slices_IndexFunc_int64_int64_nearest_far_1 (k : Nat) (s1 : List Int) : Lim (fun v => (encR outs75 (o_slices_IndexFunc_int64_int64_nearest_far_1 v).1, encMts mouts75 (o_slices_IndexFunc_int64_int64_nearest_far_1 v).2)) (fun n => (lvl Try.prog HH (n + k)).2 75 [.s (.one (.fr 1 (List.map encI s1))), .s (.one (.v (.func (.func 68) #[] #[])))] []) (F_slices_IndexFunc_int64_int64_nearest_far_1 s1) := Lim.den (x := (X_slices_IndexFunc_int64_int64_nearest_far_1 s1)) k
theorem F_slices_IndexFunc_int64_int64_nearest_far_1_of (s1 : List Int) : ∀ r, ((
    (L_slices_IndexFunc_int64_int64_nearest_far_1_0 s1 (((s1.length : Nat) : Int)) 0).bind fun p8 =>
    match p8 with
    | .inl e9 => (
      some e9)
    | .inr e10 => (
      some ((-1)))) : Option Int) = some r →
    F_slices_IndexFunc_int64_int64_nearest_far_1 s1 = some r := fun r h =>
  den_of (x := (X_slices_IndexFunc_int64_int64_nearest_far_1 s1)) injO_slices_IndexFunc_int64_int64_nearest_far_1 1 (Lim.cong (fun n => fn75s0 n ((List.map encI s1))) (by
      refine Lim.bind (show Lim enc_L_slices_IndexFunc_int64_int64_nearest_far_1_0 _ (L_slices_IndexFunc_int64_int64_nearest_far_1_0 s1 (((s1.length : Nat) : Int)) 0) from Lim.loop 0 (by first | with_reducible rfl | (simp only [List.map_replicate, map_upd]; rfl) | (simp [map_upd] <;> rfl) | rfl)) fun p8 => ?_
      rcases p8 with e9 | e10
      · refine Lim.exit (.ret) S75s0_0_r ((e9, ()), ()) rfl rfl rfl ?_
        exact Lim.leaf rfl
      · refine Lim.bifF rfl ?_
        refine Lim.exit (.exit 0) S75s0_0_e0 ((), ()) rfl rfl rfl ?_
        exact Lim.leaf rfl
    )) h

/-! slices.ContainsFunc[[]int64,int64] -/
abbrev o_slices_ContainsFunc_int64_int64_nearest_far_1 (v : Bool) : VtsT outs67 × MtsT mouts67 := ((v, ()), ())
abbrev encO_slices_ContainsFunc_int64_int64_nearest_far_1 (v : Bool) : R := (encR outs67 (o_slices_ContainsFunc_int64_int64_nearest_far_1 v).1, encMts mouts67 (o_slices_ContainsFunc_int64_int64_nearest_far_1 v).2)
theorem injO_slices_ContainsFunc_int64_int64_nearest_far_1 : ∀ a b, encO_slices_ContainsFunc_int64_int64_nearest_far_1 a = encO_slices_ContainsFunc_int64_int64_nearest_far_1 b → a = b := by
  rintro a0 b0 h
  have h1 := encR_inj (Prod.mk.inj h).1
  have h2 := encMts_inj (Prod.mk.inj h).2
  simp [o_slices_ContainsFunc_int64_int64_nearest_far_1] at h1 h2
  simp [h1, h2]
noncomputable abbrev X_slices_ContainsFunc_int64_int64_nearest_far_1 (s1 : List Int) (n : Nat) : Option R := (lvl Try.prog HH n).2 67 [.s (.one (.fr 1 (List.map encI s1))), .s (.one (.v (.func (.func 68) #[] #[])))] []
noncomputable def F_slices_ContainsFunc_int64_int64_nearest_far_1 (s1 : List Int) : Option Bool := den encO_slices_ContainsFunc_int64_int64_nearest_far_1 (X_slices_ContainsFunc_int64_int64_nearest_far_1 s1)
theorem lim_slices_ContainsFunc_int64_int64_nearest_far_1 (k : Nat) (s1 : List Int) : Lim (fun v => (encR outs67 (o_slices_ContainsFunc_int64_int64_nearest_far_1 v).1, encMts mouts67 (o_slices_ContainsFunc_int64_int64_nearest_far_1 v).2)) (fun n => (lvl Try.prog HH (n + k)).2 67 [.s (.one (.fr 1 (List.map encI s1))), .s (.one (.v (.func (.func 68) #[] #[])))] []) (F_slices_ContainsFunc_int64_int64_nearest_far_1 s1) := Lim.den (x := (X_slices_ContainsFunc_int64_int64_nearest_far_1 s1)) k
theorem F_slices_ContainsFunc_int64_int64_nearest_far_1_of (s1 : List Int) : ∀ r, ((
    (F_slices_IndexFunc_int64_int64_nearest_far_1 s1).bind fun y2 =>
    some (decide (y2 ≥ 0))) : Option Bool) = some r →
    F_slices_ContainsFunc_int64_int64_nearest_far_1 s1 = some r := fun r h =>
  den_of (x := (X_slices_ContainsFunc_int64_int64_nearest_far_1 s1)) injO_slices_ContainsFunc_int64_int64_nearest_far_1 1 (Lim.cong (fun n => fn67s0 n ((List.map encI s1))) (by
      refine Lim.call o_slices_IndexFunc_int64_int64_nearest_far_1 (lim_slices_IndexFunc_int64_int64_nearest_far_1 0 s1) rfl rfl fun y2 => ?_
      exact Lim.leaf rfl
    )) h

/-! armplan/nearest.far -/
abbrev o_nearest_far (v : Bool) : VtsT outs49 × MtsT mouts49 := ((v, ()), ())
abbrev encO_nearest_far (v : Bool) : R := (encR outs49 (o_nearest_far v).1, encMts mouts49 (o_nearest_far v).2)
theorem injO_nearest_far : ∀ a b, encO_nearest_far a = encO_nearest_far b → a = b := by
  rintro a0 b0 h
  have h1 := encR_inj (Prod.mk.inj h).1
  have h2 := encMts_inj (Prod.mk.inj h).2
  simp [o_nearest_far] at h1 h2
  simp [h1, h2]
noncomputable abbrev X_nearest_far (v1 : I3) (n : Nat) : Option R := (lvl Try.prog HH n).2 49 [.s (.agg true [.v (.int .i64 v1.c0), .v (.int .i64 v1.c1), .v (.int .i64 v1.c2)])] []
noncomputable def F_nearest_far (v1 : I3) : Option Bool := den encO_nearest_far (X_nearest_far v1)
theorem lim_nearest_far (k : Nat) (v1 : I3) : Lim (fun v => (encR outs49 (o_nearest_far v).1, encMts mouts49 (o_nearest_far v).2)) (fun n => (lvl Try.prog HH (n + k)).2 49 [.s (.agg true [.v (.int .i64 v1.c0), .v (.int .i64 v1.c1), .v (.int .i64 v1.c2)])] []) (F_nearest_far v1) := Lim.den (x := (X_nearest_far v1)) k
theorem F_nearest_far_of (v1 : I3) : ∀ r, ((
    (F_slices_ContainsFunc_int64_int64_nearest_far_1 [v1.c0, v1.c1, v1.c2]).bind fun y2 =>
    some y2) : Option Bool) = some r →
    F_nearest_far v1 = some r := fun r h =>
  den_of (x := (X_nearest_far v1)) injO_nearest_far 1 (Lim.cong (fun n => fn49 n v1.c0 v1.c1 v1.c2) (by
      refine Lim.call o_slices_ContainsFunc_int64_int64_nearest_far_1 (lim_slices_ContainsFunc_int64_int64_nearest_far_1 0 [v1.c0, v1.c1, v1.c2]) (by first | with_reducible rfl | (simp only [List.map_replicate, map_upd]; rfl) | (simp [map_upd] <;> rfl) | rfl) (by first | with_reducible rfl | (simp only [List.map_replicate, map_upd]; rfl) | (simp [map_upd] <;> rfl) | rfl) fun y2 => ?_
      exact Lim.leaf rfl
    )) h

/-! slices.IndexFunc[[]armplan/api.Vec,armplan/api.Vec] -/
abbrev E_slices_IndexFunc_api_Vec_api_Vec_nearest_far_0 : Type := (Int) ⊕ (Unit)
def enc_L_slices_IndexFunc_api_Vec_api_Vec_nearest_far_0 : E_slices_IndexFunc_api_Vec_api_Vec_nearest_far_0 → Ex × St
  | .inl e => (.ret, encSt S66s0_0_r ((e, ()), ()))
  | .inr e => (.exit 0, encSt S66s0_0_e0 ((), ()))
theorem inj_L_slices_IndexFunc_api_Vec_api_Vec_nearest_far_0 : ∀ a b, enc_L_slices_IndexFunc_api_Vec_api_Vec_nearest_far_0 a = enc_L_slices_IndexFunc_api_Vec_api_Vec_nearest_far_0 b → a = b := by
  rintro (a0 | _) (b0 | _) h <;> (first | (cases h; done) | (have h2 := encSt_inj rfl (Prod.mk.inj h).2; simp [] at h2; simp [h2]) | (have h2 := (Prod.mk.inj h).1; simp at h2) | rfl)
noncomputable abbrev X_L_slices_IndexFunc_api_Vec_api_Vec_nearest_far_0 (v2 : List I3) (v3 : Int) (v4 : Int) (n : Nat) : Option (Ex × St) := (lvl Try.prog HH n).1 ⟨66, 0, true⟩ 0 (loopOf Try.f66 0) (encSt S66s0_0 (((List.map encI3 v2), (.v (.func (.func 49) #[] #[])), v3, v4, ()), ()))
noncomputable def L_slices_IndexFunc_api_Vec_api_Vec_nearest_far_0 (v2 : List I3) (v3 : Int) (v4 : Int) : Option E_slices_IndexFunc_api_Vec_api_Vec_nearest_far_0 := den enc_L_slices_IndexFunc_api_Vec_api_Vec_nearest_far_0 (X_L_slices_IndexFunc_api_Vec_api_Vec_nearest_far_0 v2 v3 v4)
theorem L_slices_IndexFunc_api_Vec_api_Vec_nearest_far_0_of (v2 : List I3) (v3 : Int) (v4 : Int) : ∀ r, ((
    bif decide (v4 < v3) then (
      bif decide (0 ≤ v4) then (
        (nth v2 v4.toNat).bind fun x5 =>
        (F_nearest_far x5).bind fun y6 =>
        bif y6 then (
          some (.inl v4))
        else
        letIn (IntKind.wrap .i64 (v4 + 1) : Int) fun n7 =>
        L_slices_IndexFunc_api_Vec_api_Vec_nearest_far_0 v2 v3 n7)
      else
      none)
    else
    some (.inr (()))) : Option E_slices_IndexFunc_api_Vec_api_Vec_nearest_far_0) = some r →
    L_slices_IndexFunc_api_Vec_api_Vec_nearest_far_0 v2 v3 v4 = some r := fun r h =>
  den_of (x := (X_L_slices_IndexFunc_api_Vec_api_Vec_nearest_far_0 v2 v3 v4)) inj_L_slices_IndexFunc_api_Vec_api_Vec_nearest_far_0 1 (Lim.cong (fun n => loop66s0_0 n ((List.map encI3 v2)) v3 v4) (by
      refine Lim.bif rfl ?_ ?_
      · refine Lim.bif rfl ?_ Lim.none_
        refine Lim.nth encI3 rfl rfl fun x5 => ?_
        refine Lim.bifT rfl ?_
        refine Lim.decC (x5.c0, x5.c1, x5.c2, ()) rfl ?_
        refine Lim.call o_nearest_far (lim_nearest_far 0 x5) rfl rfl fun y6 => ?_
        refine Lim.bif rfl ?_ ?_
        · exact Lim.leaf rfl
        refine Lim.letIn rfl fun n7 => ?_
        exact Lim.loop 0 rfl
      exact Lim.leaf rfl
    )) h
abbrev o_slices_IndexFunc_api_Vec_api_Vec_nearest_far (v : Int) : VtsT outs66 × MtsT mouts66 := ((v, ()), ())
abbrev encO_slices_IndexFunc_api_Vec_api_Vec_nearest_far (v : Int) : R := (encR outs66 (o_slices_IndexFunc_api_Vec_api_Vec_nearest_far v).1, encMts mouts66 (o_slices_IndexFunc_api_Vec_api_Vec_nearest_far v).2)
theorem injO_slices_IndexFunc_api_Vec_api_Vec_nearest_far : ∀ a b, encO_slices_IndexFunc_api_Vec_api_Vec_nearest_far a = encO_slices_IndexFunc_api_Vec_api_Vec_nearest_far b → a = b := by
  rintro a0 b0 h
  have h1 := encR_inj (Prod.mk.inj h).1
  have h2 := encMts_inj (Prod.mk.inj h).2
  simp [o_slices_IndexFunc_api_Vec_api_Vec_nearest_far] at h1 h2
  simp [h1, h2]
noncomputable abbrev X_slices_IndexFunc_api_Vec_api_Vec_nearest_far (s1 : List I3) (n : Nat) : Option R := (lvl Try.prog HH n).2 66 [.s (.one (.fr 3 (List.map encI3 s1))), .s (.one (.v (.func (.func 49) #[] #[])))] []
noncomputable def F_slices_IndexFunc_api_Vec_api_Vec_nearest_far (s1 : List I3) : Option Int := den encO_slices_IndexFunc_api_Vec_api_Vec_nearest_far (X_slices_IndexFunc_api_Vec_api_Vec_nearest_far s1)
theorem lim_slices_IndexFunc_api_Vec_api_Vec_nearest_far (k : Nat) (s1 : List I3) : Lim (fun v => (encR outs66 (o_slices_IndexFunc_api_Vec_api_Vec_nearest_far v).1, encMts mouts66 (o_slices_IndexFunc_api_Vec_api_Vec_nearest_far v).2)) (fun n => (lvl Try.prog HH (n + k)).2 66 [.s (.one (.fr 3 (List.map encI3 s1))), .s (.one (.v (.func (.func 49) #[] #[])))] []) (F_slices_IndexFunc_api_Vec_api_Vec_nearest_far s1) := Lim.den (x := (X_slices_IndexFunc_api_Vec_api_Vec_nearest_far s1)) k
theorem F_slices_IndexFunc_api_Vec_api_Vec_nearest_far_of (s1 : List I3) : ∀ r, ((
    (L_slices_IndexFunc_api_Vec_api_Vec_nearest_far_0 s1 (((s1.length : Nat) : Int)) 0).bind fun p8 =>
    match p8 with
    | .inl e9 => (
      some e9)
    | .inr e10 => (
      some ((-1)))) : Option Int) = some r →
    F_slices_IndexFunc_api_Vec_api_Vec_nearest_far s1 = some r := fun r h =>
  den_of (x := (X_slices_IndexFunc_api_Vec_api_Vec_nearest_far s1)) injO_slices_IndexFunc_api_Vec_api_Vec_nearest_far 1 (Lim.cong (fun n => fn66s0 n ((List.map encI3 s1))) (by
      refine Lim.bind (show Lim enc_L_slices_IndexFunc_api_Vec_api_Vec_nearest_far_0 _ (L_slices_IndexFunc_api_Vec_api_Vec_nearest_far_0 s1 (((s1.length : Nat) : Int)) 0) from Lim.loop 0 (by first | with_reducible rfl | (simp only [List.map_replicate, map_upd]; rfl) | (simp [map_upd] <;> rfl) | rfl)) fun p8 => ?_
      rcases p8 with e9 | e10
      · refine Lim.exit (.ret) S66s0_0_r ((e9, ()), ()) rfl rfl rfl ?_
        exact Lim.leaf rfl
      · refine Lim.bifF rfl ?_
        refine Lim.exit (.exit 0) S66s0_0_e0 ((), ()) rfl rfl rfl ?_
        exact Lim.leaf rfl
    )) h

/-! slices.ContainsFunc[[]armplan/api.Vec,armplan/api.Vec] -/
abbrev o_slices_ContainsFunc_api_Vec_api_Vec_nearest_far (v : Bool) : VtsT outs48 × MtsT mouts48 := ((v, ()), ())
abbrev encO_slices_ContainsFunc_api_Vec_api_Vec_nearest_far (v : Bool) : R := (encR outs48 (o_slices_ContainsFunc_api_Vec_api_Vec_nearest_far v).1, encMts mouts48 (o_slices_ContainsFunc_api_Vec_api_Vec_nearest_far v).2)
theorem injO_slices_ContainsFunc_api_Vec_api_Vec_nearest_far : ∀ a b, encO_slices_ContainsFunc_api_Vec_api_Vec_nearest_far a = encO_slices_ContainsFunc_api_Vec_api_Vec_nearest_far b → a = b := by
  rintro a0 b0 h
  have h1 := encR_inj (Prod.mk.inj h).1
  have h2 := encMts_inj (Prod.mk.inj h).2
  simp [o_slices_ContainsFunc_api_Vec_api_Vec_nearest_far] at h1 h2
  simp [h1, h2]
noncomputable abbrev X_slices_ContainsFunc_api_Vec_api_Vec_nearest_far (s1 : List I3) (n : Nat) : Option R := (lvl Try.prog HH n).2 48 [.s (.one (.fr 3 (List.map encI3 s1))), .s (.one (.v (.func (.func 49) #[] #[])))] []
noncomputable def F_slices_ContainsFunc_api_Vec_api_Vec_nearest_far (s1 : List I3) : Option Bool := den encO_slices_ContainsFunc_api_Vec_api_Vec_nearest_far (X_slices_ContainsFunc_api_Vec_api_Vec_nearest_far s1)
theorem lim_slices_ContainsFunc_api_Vec_api_Vec_nearest_far (k : Nat) (s1 : List I3) : Lim (fun v => (encR outs48 (o_slices_ContainsFunc_api_Vec_api_Vec_nearest_far v).1, encMts mouts48 (o_slices_ContainsFunc_api_Vec_api_Vec_nearest_far v).2)) (fun n => (lvl Try.prog HH (n + k)).2 48 [.s (.one (.fr 3 (List.map encI3 s1))), .s (.one (.v (.func (.func 49) #[] #[])))] []) (F_slices_ContainsFunc_api_Vec_api_Vec_nearest_far s1) := Lim.den (x := (X_slices_ContainsFunc_api_Vec_api_Vec_nearest_far s1)) k
theorem F_slices_ContainsFunc_api_Vec_api_Vec_nearest_far_of (s1 : List I3) : ∀ r, ((
    (F_slices_IndexFunc_api_Vec_api_Vec_nearest_far s1).bind fun y2 =>
    some (decide (y2 ≥ 0))) : Option Bool) = some r →
    F_slices_ContainsFunc_api_Vec_api_Vec_nearest_far s1 = some r := fun r h =>
  den_of (x := (X_slices_ContainsFunc_api_Vec_api_Vec_nearest_far s1)) injO_slices_ContainsFunc_api_Vec_api_Vec_nearest_far 1 (Lim.cong (fun n => fn48s0 n ((List.map encI3 s1))) (by
      refine Lim.call o_slices_IndexFunc_api_Vec_api_Vec_nearest_far (lim_slices_IndexFunc_api_Vec_api_Vec_nearest_far 0 s1) rfl rfl fun y2 => ?_
      exact Lim.leaf rfl
    )) h

/-! armplan/nearest.points -/
abbrev o_nearest_points (v : Bool) : VtsT outs26 × MtsT mouts26 := ((v, ()), ())
abbrev encO_nearest_points (v : Bool) : R := (encR outs26 (o_nearest_points v).1, encMts mouts26 (o_nearest_points v).2)
theorem injO_nearest_points : ∀ a b, encO_nearest_points a = encO_nearest_points b → a = b := by
  rintro a0 b0 h
  have h1 := encR_inj (Prod.mk.inj h).1
  have h2 := encMts_inj (Prod.mk.inj h).2
  simp [o_nearest_points] at h1 h2
  simp [h1, h2]
noncomputable abbrev X_nearest_points (l1 : List I3) (n : Nat) : Option R := (lvl Try.prog HH n).2 26 [.s (.one (.fr 3 (List.map encI3 l1)))] []
noncomputable def F_nearest_points (l1 : List I3) : Option Bool := den encO_nearest_points (X_nearest_points l1)
theorem lim_nearest_points (k : Nat) (l1 : List I3) : Lim (fun v => (encR outs26 (o_nearest_points v).1, encMts mouts26 (o_nearest_points v).2)) (fun n => (lvl Try.prog HH (n + k)).2 26 [.s (.one (.fr 3 (List.map encI3 l1)))] []) (F_nearest_points l1) := Lim.den (x := (X_nearest_points l1)) k
theorem F_nearest_points_of (l1 : List I3) : ∀ r, ((
    bif decide ((((l1.length : Nat) : Int)) ≥ 1) then (
      bif decide ((((l1.length : Nat) : Int)) ≤ 8) then (
        (F_slices_ContainsFunc_api_Vec_api_Vec_nearest_far l1).bind fun y2 =>
        some (!y2))
      else
      some false)
    else
    some false) : Option Bool) = some r →
    F_nearest_points l1 = some r := fun r h =>
  den_of (x := (X_nearest_points l1)) injO_nearest_points 1 (Lim.cong (fun n => fn26 n ((List.map encI3 l1))) (by
      refine Lim.bif (by first | with_reducible rfl | (simp only [List.map_replicate, map_upd]; rfl) | (simp [map_upd] <;> rfl) | rfl) ?_ ?_
      · refine Lim.bif (by first | with_reducible rfl | (simp only [List.map_replicate, map_upd]; rfl) | (simp [map_upd] <;> rfl) | rfl) ?_ ?_
        · refine Lim.call o_slices_ContainsFunc_api_Vec_api_Vec_nearest_far (lim_slices_ContainsFunc_api_Vec_api_Vec_nearest_far 0 l1) rfl rfl fun y2 => ?_
          exact Lim.leaf rfl
        exact Lim.leaf rfl
      exact Lim.leaf rfl
    )) h

/-! armplan/nearest.single -/
abbrev o_nearest_single (v : (List Int)) : VtsT outs27 × MtsT mouts27 := (((), ()), ((List.map encI v), ()))
abbrev encO_nearest_single (v : (List Int)) : R := (encR outs27 (o_nearest_single v).1, encMts mouts27 (o_nearest_single v).2)
theorem injO_nearest_single : ∀ a b, encO_nearest_single a = encO_nearest_single b → a = b := by
  rintro a0 b0 h
  have h1 := encR_inj (Prod.mk.inj h).1
  have h2 := encMts_inj (Prod.mk.inj h).2
  simp [o_nearest_single, map_inj encI_inj] at h1 h2
  simp [h1, h2]
noncomputable abbrev X_nearest_single (n1 : Int) (n : Nat) : Option R := (lvl Try.prog HH n).2 27 [.s (.one (.v (.int .i64 n1)))] []
noncomputable def F_nearest_single (n1 : Int) : Option ((List Int)) := den encO_nearest_single (X_nearest_single n1)
theorem lim_nearest_single (k : Nat) (n1 : Int) : Lim (fun v => (encR outs27 (o_nearest_single v).1, encMts mouts27 (o_nearest_single v).2)) (fun n => (lvl Try.prog HH (n + k)).2 27 [.s (.one (.v (.int .i64 n1)))] []) (F_nearest_single n1) := Lim.den (x := (X_nearest_single n1)) k
theorem F_nearest_single_of (n1 : Int) : ∀ r, ((
    bif (decide (0 ≤ n1)) && (decide (n1 ≤ n1)) && (decide (n1 ≤ n1)) && decide (n1.toNat * 8 ≤ 140737488355328) then (
      (nth (List.replicate n1.toNat (0 : Int)) 0).bind fun x2 =>
      (nth (List.replicate n1.toNat (0 : Int)) 0).bind fun x3 =>
      some (upd (List.replicate n1.toNat (0 : Int)) 0 65536))
    else
    none) : Option ((List Int))) = some r →
    F_nearest_single n1 = some r := fun r h =>
  den_of (x := (X_nearest_single n1)) injO_nearest_single 1 (Lim.cong (fun n => fn27 n n1) (by
      refine Lim.bif rfl ?_ Lim.none_
      refine Lim.nth encI (by first | with_reducible rfl | (simp only [List.map_replicate, map_upd]; rfl) | (simp [map_upd] <;> rfl) | rfl) rfl fun x2 => ?_
      refine Lim.nth encI (by first | with_reducible rfl | (simp only [List.map_replicate, map_upd]; rfl) | (simp [map_upd] <;> rfl) | rfl) rfl fun x3 => ?_
      refine Lim.step rfl ?_
      exact Lim.leaf (by first | rfl | (simp [o_nearest_single, map_upd] <;> first | rfl | exact ⟨rfl, rfl⟩))
    )) h

/-! (armplan/nearest.weights).add -/
abbrev E_nearest_weights_add_0 : Type := ((List Int) × I3)
def enc_L_nearest_weights_add_0 (e : E_nearest_weights_add_0) : Ex × St := (.exit 0, encSt S69s0_0_e0 ((), ((List.map encI e.1), (e.2.c0, e.2.c1, e.2.c2, ()), ())))
theorem inj_L_nearest_weights_add_0 : ∀ a b, enc_L_nearest_weights_add_0 a = enc_L_nearest_weights_add_0 b → a = b := by
  rintro ⟨a0, ⟨a1, a2, a3⟩⟩ ⟨b0, ⟨b1, b2, b3⟩⟩ h
  first | (cases h; done) | (have h2 := encSt_inj rfl (Prod.mk.inj h).2; simp [map_inj encI_inj] at h2; simp [h2]) | (have h2 := (Prod.mk.inj h).1; simp at h2) | rfl
abbrev E_nearest_weights_add_2 : Type := (Int × (List I3) × Int × Int × (List Int) × I3)
def enc_L_nearest_weights_add_2 (e : E_nearest_weights_add_2) : Ex × St := (.exit 2, encSt S69s0_2_e2 (((), (), e.1, (List.map encI3 e.2.1), e.2.2.1, e.2.2.2.1, ()), ((List.map encI e.2.2.2.2.1), (e.2.2.2.2.2.c0, e.2.2.2.2.2.c1, e.2.2.2.2.2.c2, ()), ())))
theorem inj_L_nearest_weights_add_2 : ∀ a b, enc_L_nearest_weights_add_2 a = enc_L_nearest_weights_add_2 b → a = b := by
  rintro ⟨a0, a1, a2, a3, a4, ⟨a5, a6, a7⟩⟩ ⟨b0, b1, b2, b3, b4, ⟨b5, b6, b7⟩⟩ h
  first | (cases h; done) | (have h2 := encSt_inj rfl (Prod.mk.inj h).2; simp [map_inj encI3_inj, map_inj encI_inj] at h2; simp [h2]) | (have h2 := (Prod.mk.inj h).1; simp at h2) | rfl
noncomputable abbrev X_L_nearest_weights_add_0 (v5 : Int) (v6 : List I3) (v7 : Int) (v8 : Int) (es9 : List Int) (c10 : I3) (n : Nat) : Option (Ex × St) := (lvl Try.prog HH n).1 ⟨69, 2, false⟩ 0 (loopOf Try.f69 0) (encSt S69s0_0 (((), (), v5, (List.map encI3 v6), v7, v8, ()), ((List.map encI es9), (c10.c0, c10.c1, c10.c2, ()), ())))
noncomputable def L_nearest_weights_add_0 (v5 : Int) (v6 : List I3) (v7 : Int) (v8 : Int) (es9 : List Int) (c10 : I3) : Option E_nearest_weights_add_0 := den enc_L_nearest_weights_add_0 (X_L_nearest_weights_add_0 v5 v6 v7 v8 es9 c10)
theorem L_nearest_weights_add_0_of (v5 : Int) (v6 : List I3) (v7 : Int) (v8 : Int) (es9 : List Int) (c10 : I3) : ∀ r, ((
    bif decide (v8 < v7) then (
      bif decide (0 ≤ v8) then (
        (nth v6 v8.toNat).bind fun x11 =>
        Option.bind (α := E_nearest_weights_add_2) (
          bif decide (0 ≤ v8) then (
            (nth es9 v8.toNat).bind fun x12 =>
            (nth es9 v8.toNat).bind fun x13 =>
            letIn (IntKind.wrap .i64 (v5 * x13) : Int) fun n14 =>
            letIn (IntKind.wrap .i64 (n14 * x11.c0) : Int) fun n15 =>
            letIn (IntKind.wrap .i64 (c10.c0 + n15) : Int) fun n16 =>
            bif decide (0 ≤ v8) then (
              (nth es9 v8.toNat).bind fun x17 =>
              (nth es9 v8.toNat).bind fun x18 =>
              letIn (IntKind.wrap .i64 (v5 * x18) : Int) fun n19 =>
              letIn (IntKind.wrap .i64 (n19 * x11.c1) : Int) fun n20 =>
              letIn (IntKind.wrap .i64 (c10.c1 + n20) : Int) fun n21 =>
              bif decide (0 ≤ v8) then (
                (nth es9 v8.toNat).bind fun x22 =>
                (nth es9 v8.toNat).bind fun x23 =>
                letIn (IntKind.wrap .i64 (v5 * x23) : Int) fun n24 =>
                letIn (IntKind.wrap .i64 (n24 * x11.c2) : Int) fun n25 =>
                letIn (IntKind.wrap .i64 (c10.c2 + n25) : Int) fun n26 =>
                some ((v5, v6, v7, v8, es9, (I3.mk n16 n21 n26))))
              else
              none)
            else
            none)
          else
          none) fun p27 =>
        letIn (IntKind.wrap .i64 (p27.2.2.2.1 + 1) : Int) fun n28 =>
        L_nearest_weights_add_0 p27.1 p27.2.1 p27.2.2.1 n28 p27.2.2.2.2.1 p27.2.2.2.2.2)
      else
      none)
    else
    some ((es9, c10))) : Option E_nearest_weights_add_0) = some r →
    L_nearest_weights_add_0 v5 v6 v7 v8 es9 c10 = some r := fun r h =>
  den_of (x := (X_L_nearest_weights_add_0 v5 v6 v7 v8 es9 c10)) inj_L_nearest_weights_add_0 5 (Lim.cong (fun n => loop69s0_0 n v5 ((List.map encI3 v6)) v7 v8 ((List.map encI es9)) c10.c0 c10.c1 c10.c2) (by
      refine Lim.bif rfl ?_ ?_
      · refine Lim.bif rfl ?_ Lim.none_
        refine Lim.nth encI3 rfl rfl fun x11 => ?_
        refine Lim.bifT rfl ?_
        refine Lim.decC (x11.c0, x11.c1, x11.c2, ()) rfl ?_
        refine Lim.bind (e := enc_L_nearest_weights_add_2) ?_ fun p27 => ?_
        · refine Lim.bif rfl ?_ Lim.none_
          refine Lim.nth encI rfl rfl fun x12 => ?_
          refine Lim.nth encI rfl rfl fun x13 => ?_
          refine Lim.step rfl ?_
          refine Lim.step rfl ?_
          refine Lim.letIn rfl fun n14 => ?_
          refine Lim.letIn rfl fun n15 => ?_
          refine Lim.letIn rfl fun n16 => ?_
          refine Lim.bif rfl ?_ Lim.none_
          refine Lim.nth encI rfl rfl fun x17 => ?_
          refine Lim.nth encI rfl rfl fun x18 => ?_
          refine Lim.step rfl ?_
          refine Lim.step rfl ?_
          refine Lim.letIn rfl fun n19 => ?_
          refine Lim.letIn rfl fun n20 => ?_
          refine Lim.letIn rfl fun n21 => ?_
          refine Lim.bif rfl ?_ Lim.none_
          refine Lim.nth encI rfl rfl fun x22 => ?_
          refine Lim.nth encI rfl rfl fun x23 => ?_
          refine Lim.step rfl ?_
          refine Lim.step rfl ?_
          refine Lim.letIn rfl fun n24 => ?_
          refine Lim.letIn rfl fun n25 => ?_
          refine Lim.letIn rfl fun n26 => ?_
          exact Lim.leaf rfl
        refine Lim.exit (.exit 2) S69s0_2_e2 (((), (), p27.1, (List.map encI3 p27.2.1), p27.2.2.1, p27.2.2.2.1, ()), ((List.map encI p27.2.2.2.2.1), (p27.2.2.2.2.2.c0, p27.2.2.2.2.2.c1, p27.2.2.2.2.2.c2, ()), ())) rfl rfl rfl ?_
        refine Lim.letIn rfl fun n28 => ?_
        exact Lim.loop 4 rfl
      exact Lim.leaf rfl
    )) h
abbrev o_nearest_weights_add (v : (List Int) × I3) : VtsT outs69 × MtsT mouts69 := ((), ((List.map encI v.1), (v.2.c0, v.2.c1, v.2.c2, ()), ()))
abbrev encO_nearest_weights_add (v : (List Int) × I3) : R := (encR outs69 (o_nearest_weights_add v).1, encMts mouts69 (o_nearest_weights_add v).2)
theorem injO_nearest_weights_add : ∀ a b, encO_nearest_weights_add a = encO_nearest_weights_add b → a = b := by
  rintro ⟨a0, ⟨a1, a2, a3⟩⟩ ⟨b0, ⟨b1, b2, b3⟩⟩ h
  have h1 := encR_inj (Prod.mk.inj h).1
  have h2 := encMts_inj (Prod.mk.inj h).2
  simp [o_nearest_weights_add, map_inj encI_inj] at h1 h2
  simp [h1, h2]
noncomputable abbrev X_nearest_weights_add (points1 : List I3) (sign2 : Int) (es3 : List Int) (c4 : I3) (n : Nat) : Option R := (lvl Try.prog HH n).2 69 [.s (.one (.fs 0)), .s (.one (.ptr 1 0 0)), .s (.one (.fr 3 (List.map encI3 points1))), .s (.one (.v (.int .i64 sign2)))] [.own 1 true (List.map encI es3), .own 3 true [[.v (.int .i64 c4.c0), .v (.int .i64 c4.c1), .v (.int .i64 c4.c2)]]]
noncomputable def F_nearest_weights_add (points1 : List I3) (sign2 : Int) (es3 : List Int) (c4 : I3) : Option ((List Int) × I3) := den encO_nearest_weights_add (X_nearest_weights_add points1 sign2 es3 c4)
theorem lim_nearest_weights_add (k : Nat) (points1 : List I3) (sign2 : Int) (es3 : List Int) (c4 : I3) : Lim (fun v => (encR outs69 (o_nearest_weights_add v).1, encMts mouts69 (o_nearest_weights_add v).2)) (fun n => (lvl Try.prog HH (n + k)).2 69 [.s (.one (.fs 0)), .s (.one (.ptr 1 0 0)), .s (.one (.fr 3 (List.map encI3 points1))), .s (.one (.v (.int .i64 sign2)))] [.own 1 true (List.map encI es3), .own 3 true [[.v (.int .i64 c4.c0), .v (.int .i64 c4.c1), .v (.int .i64 c4.c2)]]]) (F_nearest_weights_add points1 sign2 es3 c4) := Lim.den (x := (X_nearest_weights_add points1 sign2 es3 c4)) k
theorem F_nearest_weights_add_of (points1 : List I3) (sign2 : Int) (es3 : List Int) (c4 : I3) : ∀ r, ((
    (L_nearest_weights_add_0 sign2 points1 (((points1.length : Nat) : Int)) 0 es3 c4).bind fun p29 =>
    some (p29.1, p29.2)) : Option ((List Int) × I3)) = some r →
    F_nearest_weights_add points1 sign2 es3 c4 = some r := fun r h =>
  den_of (x := (X_nearest_weights_add points1 sign2 es3 c4)) injO_nearest_weights_add 1 (Lim.cong (fun n => fn69s0 n ((List.map encI3 points1)) sign2 ((List.map encI es3)) c4.c0 c4.c1 c4.c2) (by
      refine Lim.bind (show Lim enc_L_nearest_weights_add_0 _ (L_nearest_weights_add_0 sign2 points1 (((points1.length : Nat) : Int)) 0 es3 c4) from Lim.loop 0 (by first | with_reducible rfl | (simp only [List.map_replicate, map_upd]; rfl) | (simp [map_upd] <;> rfl) | rfl)) fun p29 => ?_
      refine Lim.exit (.exit 0) S69s0_0_e0 ((), ((List.map encI p29.1), (p29.2.c0, p29.2.c1, p29.2.c2, ()), ())) rfl rfl rfl ?_
      exact Lim.leaf rfl
    )) h

/-! (*armplan/nearest.sides).between -/
abbrev o_nearest_sides_between (v : I3 × (List I3) × (List I3) × Int × Int × Int × Int × Int × Int × (List Int) × (List Int)) : VtsT outs50 × MtsT mouts50 := (((v.1.c0, v.1.c1, v.1.c2, ()), ()), (((), (), (List.map encI3 v.2.1), (List.map encI3 v.2.2.1), v.2.2.2.1, v.2.2.2.2.1, v.2.2.2.2.2.1, v.2.2.2.2.2.2.1, v.2.2.2.2.2.2.2.1, v.2.2.2.2.2.2.2.2.1, ()), (List.map encI v.2.2.2.2.2.2.2.2.2.1), (List.map encI v.2.2.2.2.2.2.2.2.2.2), ()))
abbrev encO_nearest_sides_between (v : I3 × (List I3) × (List I3) × Int × Int × Int × Int × Int × Int × (List Int) × (List Int)) : R := (encR outs50 (o_nearest_sides_between v).1, encMts mouts50 (o_nearest_sides_between v).2)
theorem injO_nearest_sides_between : ∀ a b, encO_nearest_sides_between a = encO_nearest_sides_between b → a = b := by
  rintro ⟨⟨a0, a1, a2⟩, a3, a4, a5, a6, a7, a8, a9, a10, a11, a12⟩ ⟨⟨b0, b1, b2⟩, b3, b4, b5, b6, b7, b8, b9, b10, b11, b12⟩ h
  have h1 := encR_inj (Prod.mk.inj h).1
  have h2 := encMts_inj (Prod.mk.inj h).2
  simp [o_nearest_sides_between, map_inj encI3_inj, map_inj encI_inj] at h1 h2
  simp [h1, h2]
noncomputable abbrev X_nearest_sides_between (a1 : List I3) (b2 : List I3) (c3 : List I3) (c4 : List I3) (c5 : Int) (c6 : Int) (c7 : Int) (c8 : Int) (c9 : Int) (c10 : Int) (es11 : List Int) (es12 : List Int) (n : Nat) : Option R := (lvl Try.prog HH n).2 50 [.s (.one (.ptr 0 0 0)), .s (.one (.fr 3 (List.map encI3 a1))), .s (.one (.fr 3 (List.map encI3 b2)))] [.own 10 false [[.fs 1, .fs 2, .fr 3 (List.map encI3 c3), .fr 3 (List.map encI3 c4), .v (.int .i64 c5), .v (.int .i64 c6), .v (.int .i64 c7), .v (.int .i64 c8), .v (.int .i64 c9), .v (.int .i64 c10)]], .own 1 true (List.map encI es11), .own 1 true (List.map encI es12)]
noncomputable def F_nearest_sides_between (a1 : List I3) (b2 : List I3) (c3 : List I3) (c4 : List I3) (c5 : Int) (c6 : Int) (c7 : Int) (c8 : Int) (c9 : Int) (c10 : Int) (es11 : List Int) (es12 : List Int) : Option (I3 × (List I3) × (List I3) × Int × Int × Int × Int × Int × Int × (List Int) × (List Int)) := den encO_nearest_sides_between (X_nearest_sides_between a1 b2 c3 c4 c5 c6 c7 c8 c9 c10 es11 es12)
theorem lim_nearest_sides_between (k : Nat) (a1 : List I3) (b2 : List I3) (c3 : List I3) (c4 : List I3) (c5 : Int) (c6 : Int) (c7 : Int) (c8 : Int) (c9 : Int) (c10 : Int) (es11 : List Int) (es12 : List Int) : Lim (fun v => (encR outs50 (o_nearest_sides_between v).1, encMts mouts50 (o_nearest_sides_between v).2)) (fun n => (lvl Try.prog HH (n + k)).2 50 [.s (.one (.ptr 0 0 0)), .s (.one (.fr 3 (List.map encI3 a1))), .s (.one (.fr 3 (List.map encI3 b2)))] [.own 10 false [[.fs 1, .fs 2, .fr 3 (List.map encI3 c3), .fr 3 (List.map encI3 c4), .v (.int .i64 c5), .v (.int .i64 c6), .v (.int .i64 c7), .v (.int .i64 c8), .v (.int .i64 c9), .v (.int .i64 c10)]], .own 1 true (List.map encI es11), .own 1 true (List.map encI es12)]) (F_nearest_sides_between a1 b2 c3 c4 c5 c6 c7 c8 c9 c10 es11 es12) := Lim.den (x := (X_nearest_sides_between a1 b2 c3 c4 c5 c6 c7 c8 c9 c10 es11 es12)) k
theorem F_nearest_sides_between_of (a1 : List I3) (b2 : List I3) (c3 : List I3) (c4 : List I3) (c5 : Int) (c6 : Int) (c7 : Int) (c8 : Int) (c9 : Int) (c10 : Int) (es11 : List Int) (es12 : List Int) : ∀ r, ((
    (F_nearest_weights_add a1 1 es11 ((I3.mk 0 0 0))).bind fun y13 =>
    (F_nearest_weights_add b2 ((-1)) es12 y13.2).bind fun y14 =>
    some (y14.2, c3, c4, c5, c6, c7, c8, c9, c10, y13.1, y14.1)) : Option (I3 × (List I3) × (List I3) × Int × Int × Int × Int × Int × Int × (List Int) × (List Int))) = some r →
    F_nearest_sides_between a1 b2 c3 c4 c5 c6 c7 c8 c9 c10 es11 es12 = some r := fun r h =>
  den_of (x := (X_nearest_sides_between a1 b2 c3 c4 c5 c6 c7 c8 c9 c10 es11 es12)) injO_nearest_sides_between 1 (Lim.cong (fun n => fn50s0 n ((List.map encI3 a1)) ((List.map encI3 b2)) ((List.map encI3 c3)) ((List.map encI3 c4)) c5 c6 c7 c8 c9 c10 ((List.map encI es11)) ((List.map encI es12))) (by
      refine Lim.call o_nearest_weights_add (lim_nearest_weights_add 0 a1 1 es11 ((I3.mk 0 0 0))) rfl rfl fun y13 => ?_
      refine Lim.call o_nearest_weights_add (lim_nearest_weights_add 0 b2 ((-1)) es12 y13.2) rfl rfl fun y14 => ?_
      exact Lim.leaf rfl
    )) h

/-! armplan/nearest.lengths -/
abbrev E_nearest_lengths_0 : Type := (I3 × I3)
def enc_L_nearest_lengths_0 (e : E_nearest_lengths_0) : Ex × St := (.exit 0, encSt S51_0_e0 (((), (), ()), ((e.1.c0, e.1.c1, e.1.c2, ()), (e.2.c0, e.2.c1, e.2.c2, ()), ())))
theorem inj_L_nearest_lengths_0 : ∀ a b, enc_L_nearest_lengths_0 a = enc_L_nearest_lengths_0 b → a = b := by
  rintro ⟨⟨a0, a1, a2⟩, ⟨a3, a4, a5⟩⟩ ⟨⟨b0, b1, b2⟩, ⟨b3, b4, b5⟩⟩ h
  first | (cases h; done) | (have h2 := encSt_inj rfl (Prod.mk.inj h).2; simp [] at h2; simp [h2]) | (have h2 := (Prod.mk.inj h).1; simp at h2) | rfl
abbrev o_nearest_lengths (v : I3) : VtsT outs51 × MtsT mouts51 := (((v.c0, v.c1, v.c2, ()), ()), ())
abbrev encO_nearest_lengths (v : I3) : R := (encR outs51 (o_nearest_lengths v).1, encMts mouts51 (o_nearest_lengths v).2)
theorem injO_nearest_lengths : ∀ a b, encO_nearest_lengths a = encO_nearest_lengths b → a = b := by
  rintro ⟨a0, a1, a2⟩ ⟨b0, b1, b2⟩ h
  have h1 := encR_inj (Prod.mk.inj h).1
  have h2 := encMts_inj (Prod.mk.inj h).2
  simp [o_nearest_lengths] at h1 h2
  simp [h1, h2]
noncomputable abbrev X_nearest_lengths (v1 : I3) (n : Nat) : Option R := (lvl Try.prog HH n).2 51 [.s (.agg true [.v (.int .i64 v1.c0), .v (.int .i64 v1.c1), .v (.int .i64 v1.c2)])] []
noncomputable def F_nearest_lengths (v1 : I3) : Option I3 := den encO_nearest_lengths (X_nearest_lengths v1)
theorem lim_nearest_lengths (k : Nat) (v1 : I3) : Lim (fun v => (encR outs51 (o_nearest_lengths v).1, encMts mouts51 (o_nearest_lengths v).2)) (fun n => (lvl Try.prog HH (n + k)).2 51 [.s (.agg true [.v (.int .i64 v1.c0), .v (.int .i64 v1.c1), .v (.int .i64 v1.c2)])] []) (F_nearest_lengths v1) := Lim.den (x := (X_nearest_lengths v1)) k
theorem F_nearest_lengths_of (v1 : I3) : ∀ r, ((
    letIn (IntKind.wrap .i64 (0 - v1.c0) : Int) fun n2 =>
    letIn (if n2 > v1.c0 then n2 else v1.c0 : Int) fun n3 =>
    letIn (IntKind.wrap .i64 (n3 + 65536) : Int) fun n4 =>
    letIn (IntKind.wrap .i64 (n4 - 1) : Int) fun n5 =>
    letIn (IntKind.wrap .i64 (Int.tdiv n5 65536) : Int) fun n6 =>
    letIn (IntKind.wrap .i64 (0 - v1.c1) : Int) fun n7 =>
    letIn (if n7 > v1.c1 then n7 else v1.c1 : Int) fun n8 =>
    letIn (IntKind.wrap .i64 (n8 + 65536) : Int) fun n9 =>
    letIn (IntKind.wrap .i64 (n9 - 1) : Int) fun n10 =>
    letIn (IntKind.wrap .i64 (Int.tdiv n10 65536) : Int) fun n11 =>
    letIn (IntKind.wrap .i64 (0 - v1.c2) : Int) fun n12 =>
    letIn (if n12 > v1.c2 then n12 else v1.c2 : Int) fun n13 =>
    letIn (IntKind.wrap .i64 (n13 + 65536) : Int) fun n14 =>
    letIn (IntKind.wrap .i64 (n14 - 1) : Int) fun n15 =>
    letIn (IntKind.wrap .i64 (Int.tdiv n15 65536) : Int) fun n16 =>
    some ((I3.mk n6 n11 n16))) : Option I3) = some r →
    F_nearest_lengths v1 = some r := fun r h =>
  den_of (x := (X_nearest_lengths v1)) injO_nearest_lengths 5 (Lim.cong (fun n => fn51 n v1.c0 v1.c1 v1.c2) (by
      refine Lim.letIn rfl fun n2 => ?_
      refine Lim.letIn rfl fun n3 => ?_
      refine Lim.letIn rfl fun n4 => ?_
      refine Lim.letIn rfl fun n5 => ?_
      refine Lim.letIn rfl fun n6 => ?_
      refine Lim.letIn rfl fun n7 => ?_
      refine Lim.letIn rfl fun n8 => ?_
      refine Lim.letIn rfl fun n9 => ?_
      refine Lim.letIn rfl fun n10 => ?_
      refine Lim.letIn rfl fun n11 => ?_
      refine Lim.letIn rfl fun n12 => ?_
      refine Lim.letIn rfl fun n13 => ?_
      refine Lim.letIn rfl fun n14 => ?_
      refine Lim.letIn rfl fun n15 => ?_
      refine Lim.letIn rfl fun n16 => ?_
      exact Lim.leaf rfl
    )) h
def G_nearest_lengths (v1 : I3) : I3 :=
  letIn (IntKind.wrap .i64 (0 - v1.c0) : Int) fun n2 =>
  letIn (if n2 > v1.c0 then n2 else v1.c0 : Int) fun n3 =>
  letIn (IntKind.wrap .i64 (n3 + 65536) : Int) fun n4 =>
  letIn (IntKind.wrap .i64 (n4 - 1) : Int) fun n5 =>
  letIn (IntKind.wrap .i64 (Int.tdiv n5 65536) : Int) fun n6 =>
  letIn (IntKind.wrap .i64 (0 - v1.c1) : Int) fun n7 =>
  letIn (if n7 > v1.c1 then n7 else v1.c1 : Int) fun n8 =>
  letIn (IntKind.wrap .i64 (n8 + 65536) : Int) fun n9 =>
  letIn (IntKind.wrap .i64 (n9 - 1) : Int) fun n10 =>
  letIn (IntKind.wrap .i64 (Int.tdiv n10 65536) : Int) fun n11 =>
  letIn (IntKind.wrap .i64 (0 - v1.c2) : Int) fun n12 =>
  letIn (if n12 > v1.c2 then n12 else v1.c2 : Int) fun n13 =>
  letIn (IntKind.wrap .i64 (n13 + 65536) : Int) fun n14 =>
  letIn (IntKind.wrap .i64 (n14 - 1) : Int) fun n15 =>
  letIn (IntKind.wrap .i64 (Int.tdiv n15 65536) : Int) fun n16 =>
  ((I3.mk n6 n11 n16))
theorem F_nearest_lengths_eq (v1 : I3) : F_nearest_lengths v1 = some (G_nearest_lengths v1) := F_nearest_lengths_of v1 _ (by
  unfold G_nearest_lengths
  refine Tot.letIn fun n2 => ?_
  refine Tot.letIn fun n3 => ?_
  refine Tot.letIn fun n4 => ?_
  refine Tot.letIn fun n5 => ?_
  refine Tot.letIn fun n6 => ?_
  refine Tot.letIn fun n7 => ?_
  refine Tot.letIn fun n8 => ?_
  refine Tot.letIn fun n9 => ?_
  refine Tot.letIn fun n10 => ?_
  refine Tot.letIn fun n11 => ?_
  refine Tot.letIn fun n12 => ?_
  refine Tot.letIn fun n13 => ?_
  refine Tot.letIn fun n14 => ?_
  refine Tot.letIn fun n15 => ?_
  refine Tot.letIn fun n16 => ?_
  rfl)

/-! armplan/nearest.dot -/
abbrev o_nearest_dot (v : Int) : VtsT outs52 × MtsT mouts52 := ((v, ()), ())
abbrev encO_nearest_dot (v : Int) : R := (encR outs52 (o_nearest_dot v).1, encMts mouts52 (o_nearest_dot v).2)
theorem injO_nearest_dot : ∀ a b, encO_nearest_dot a = encO_nearest_dot b → a = b := by
  rintro a0 b0 h
  have h1 := encR_inj (Prod.mk.inj h).1
  have h2 := encMts_inj (Prod.mk.inj h).2
  simp [o_nearest_dot] at h1 h2
  simp [h1, h2]
noncomputable abbrev X_nearest_dot (x1 : I3) (y2 : I3) (n : Nat) : Option R := (lvl Try.prog HH n).2 52 [.s (.agg true [.v (.int .i64 x1.c0), .v (.int .i64 x1.c1), .v (.int .i64 x1.c2)]), .s (.agg true [.v (.int .i64 y2.c0), .v (.int .i64 y2.c1), .v (.int .i64 y2.c2)])] []
noncomputable def F_nearest_dot (x1 : I3) (y2 : I3) : Option Int := den encO_nearest_dot (X_nearest_dot x1 y2)
theorem lim_nearest_dot (k : Nat) (x1 : I3) (y2 : I3) : Lim (fun v => (encR outs52 (o_nearest_dot v).1, encMts mouts52 (o_nearest_dot v).2)) (fun n => (lvl Try.prog HH (n + k)).2 52 [.s (.agg true [.v (.int .i64 x1.c0), .v (.int .i64 x1.c1), .v (.int .i64 x1.c2)]), .s (.agg true [.v (.int .i64 y2.c0), .v (.int .i64 y2.c1), .v (.int .i64 y2.c2)])] []) (F_nearest_dot x1 y2) := Lim.den (x := (X_nearest_dot x1 y2)) k
theorem F_nearest_dot_of (x1 : I3) (y2 : I3) : ∀ r, ((
    letIn (IntKind.wrap .i64 (x1.c0 * y2.c0) : Int) fun n3 =>
    letIn (IntKind.wrap .i64 (x1.c1 * y2.c1) : Int) fun n4 =>
    letIn (IntKind.wrap .i64 (n3 + n4) : Int) fun n5 =>
    letIn (IntKind.wrap .i64 (x1.c2 * y2.c2) : Int) fun n6 =>
    letIn (IntKind.wrap .i64 (n5 + n6) : Int) fun n7 =>
    some n7) : Option Int) = some r →
    F_nearest_dot x1 y2 = some r := fun r h =>
  den_of (x := (X_nearest_dot x1 y2)) injO_nearest_dot 1 (Lim.cong (fun n => fn52 n x1.c0 x1.c1 x1.c2 y2.c0 y2.c1 y2.c2) (by
      refine Lim.letIn rfl fun n3 => ?_
      refine Lim.letIn rfl fun n4 => ?_
      refine Lim.letIn rfl fun n5 => ?_
      refine Lim.letIn rfl fun n6 => ?_
      refine Lim.letIn rfl fun n7 => ?_
      exact Lim.leaf rfl
    )) h
def G_nearest_dot (x1 : I3) (y2 : I3) : Int :=
  letIn (IntKind.wrap .i64 (x1.c0 * y2.c0) : Int) fun n3 =>
  letIn (IntKind.wrap .i64 (x1.c1 * y2.c1) : Int) fun n4 =>
  letIn (IntKind.wrap .i64 (n3 + n4) : Int) fun n5 =>
  letIn (IntKind.wrap .i64 (x1.c2 * y2.c2) : Int) fun n6 =>
  letIn (IntKind.wrap .i64 (n5 + n6) : Int) fun n7 =>
  n7
theorem F_nearest_dot_eq (x1 : I3) (y2 : I3) : F_nearest_dot x1 y2 = some (G_nearest_dot x1 y2) := F_nearest_dot_of x1 y2 _ (by
  unfold G_nearest_dot
  refine Tot.letIn fun n3 => ?_
  refine Tot.letIn fun n4 => ?_
  refine Tot.letIn fun n5 => ?_
  refine Tot.letIn fun n6 => ?_
  refine Tot.letIn fun n7 => ?_
  rfl)

/-! armplan/support.fits -/
abbrev E_support_fits_0 : Type := (Bool) ⊕ (Unit)
def enc_L_support_fits_0 : E_support_fits_0 → Ex × St
  | .inl e => (.ret, encSt S70_0_r ((e, ()), ()))
  | .inr e => (.exit 0, encSt S70_0_e0 ((), ()))
theorem inj_L_support_fits_0 : ∀ a b, enc_L_support_fits_0 a = enc_L_support_fits_0 b → a = b := by
  rintro (a0 | _) (b0 | _) h <;> (first | (cases h; done) | (have h2 := encSt_inj rfl (Prod.mk.inj h).2; simp [] at h2; simp [h2]) | (have h2 := (Prod.mk.inj h).1; simp at h2) | rfl)
abbrev o_support_fits (v : Bool) : VtsT outs70 × MtsT mouts70 := ((v, ()), ())
abbrev encO_support_fits (v : Bool) : R := (encR outs70 (o_support_fits v).1, encMts mouts70 (o_support_fits v).2)
theorem injO_support_fits : ∀ a b, encO_support_fits a = encO_support_fits b → a = b := by
  rintro a0 b0 h
  have h1 := encR_inj (Prod.mk.inj h).1
  have h2 := encMts_inj (Prod.mk.inj h).2
  simp [o_support_fits] at h1 h2
  simp [h1, h2]
noncomputable abbrev X_support_fits (v1 : I3) (n : Nat) : Option R := (lvl Try.prog HH n).2 70 [.s (.agg true [.v (.int .i64 v1.c0), .v (.int .i64 v1.c1), .v (.int .i64 v1.c2)])] []
noncomputable def F_support_fits (v1 : I3) : Option Bool := den encO_support_fits (X_support_fits v1)
theorem lim_support_fits (k : Nat) (v1 : I3) : Lim (fun v => (encR outs70 (o_support_fits v).1, encMts mouts70 (o_support_fits v).2)) (fun n => (lvl Try.prog HH (n + k)).2 70 [.s (.agg true [.v (.int .i64 v1.c0), .v (.int .i64 v1.c1), .v (.int .i64 v1.c2)])] []) (F_support_fits v1) := Lim.den (x := (X_support_fits v1)) k
theorem F_support_fits_of (v1 : I3) : ∀ r, ((
    Option.bind (α := E_support_fits_0) (
      bif decide (v1.c0 < (-16384)) then (
        some (.inl false))
      else
      bif decide (v1.c0 > 16384) then (
        some (.inl false))
      else
      bif decide (v1.c1 < (-16384)) then (
        some (.inl false))
      else
      bif decide (v1.c1 > 16384) then (
        some (.inl false))
      else
      bif decide (v1.c2 < (-16384)) then (
        some (.inl false))
      else
      bif decide (v1.c2 > 16384) then (
        some (.inl false))
      else
      some (.inr (()))) fun p2 =>
    match p2 with
    | .inl e3 => (
      some e3)
    | .inr e4 => (
      some true)) : Option Bool) = some r →
    F_support_fits v1 = some r := fun r h =>
  den_of (x := (X_support_fits v1)) injO_support_fits 5 (Lim.cong (fun n => fn70 n v1.c0 v1.c1 v1.c2) (by
      refine Lim.bind (e := enc_L_support_fits_0) ?_ fun p2 => ?_
      · refine Lim.bif rfl ?_ ?_
        · exact Lim.leaf rfl
        refine Lim.bif rfl ?_ ?_
        · exact Lim.leaf rfl
        refine Lim.bif rfl ?_ ?_
        · exact Lim.leaf rfl
        refine Lim.bif rfl ?_ ?_
        · exact Lim.leaf rfl
        refine Lim.bif rfl ?_ ?_
        · exact Lim.leaf rfl
        refine Lim.bif rfl ?_ ?_
        · exact Lim.leaf rfl
        exact Lim.leaf rfl
      rcases p2 with e3 | e4
      · refine Lim.exit (.ret) S70_0_r ((e3, ()), ()) rfl rfl rfl ?_
        exact Lim.leaf rfl
      · refine Lim.bifF rfl ?_
        refine Lim.exit (.exit 0) S70_0_e0 ((), ()) rfl rfl rfl ?_
        exact Lim.leaf rfl
    )) h
def G_support_fits (v1 : I3) : Bool :=
  letIn (α := E_support_fits_0) (
    bif decide (v1.c0 < (-16384)) then (
      (.inl false))
    else
    bif decide (v1.c0 > 16384) then (
      (.inl false))
    else
    bif decide (v1.c1 < (-16384)) then (
      (.inl false))
    else
    bif decide (v1.c1 > 16384) then (
      (.inl false))
    else
    bif decide (v1.c2 < (-16384)) then (
      (.inl false))
    else
    bif decide (v1.c2 > 16384) then (
      (.inl false))
    else
    (.inr (()))) fun p2 =>
  match p2 with
  | .inl e3 => (
    e3)
  | .inr e4 => (
    true)
theorem F_support_fits_eq (v1 : I3) : F_support_fits v1 = some (G_support_fits v1) := F_support_fits_of v1 _ (by
  unfold G_support_fits
  refine Tot.bind ?_ fun p2 => ?_
  · refine Tot.bif ?_ ?_
    · rfl
    refine Tot.bif ?_ ?_
    · rfl
    refine Tot.bif ?_ ?_
    · rfl
    refine Tot.bif ?_ ?_
    · rfl
    refine Tot.bif ?_ ?_
    · rfl
    refine Tot.bif ?_ ?_
    · rfl
    rfl
  rcases p2 with e3 | e4
  · rfl
  · rfl)

/-! armplan/support.Normal -/
abbrev E_support_Normal_0 : Type := (I3 × I3)
def enc_L_support_Normal_0 (e : E_support_Normal_0) : Ex × St := (.exit 0, encSt S53_0_e0 (((), (), ()), ((e.1.c0, e.1.c1, e.1.c2, ()), (e.2.c0, e.2.c1, e.2.c2, ()), ())))
theorem inj_L_support_Normal_0 : ∀ a b, enc_L_support_Normal_0 a = enc_L_support_Normal_0 b → a = b := by
  rintro ⟨⟨a0, a1, a2⟩, ⟨a3, a4, a5⟩⟩ ⟨⟨b0, b1, b2⟩, ⟨b3, b4, b5⟩⟩ h
  first | (cases h; done) | (have h2 := encSt_inj rfl (Prod.mk.inj h).2; simp [] at h2; simp [h2]) | (have h2 := (Prod.mk.inj h).1; simp at h2) | rfl
abbrev E_support_Normal_2 : Type := (Int × I3 × I3 × I3)
def enc_L_support_Normal_2 (e : E_support_Normal_2) : Ex × St := (.exit 2, encSt S53_2_e2 (((), (), (), e.1, ()), ((e.2.1.c0, e.2.1.c1, e.2.1.c2, ()), (e.2.2.1.c0, e.2.2.1.c1, e.2.2.1.c2, ()), (e.2.2.2.c0, e.2.2.2.c1, e.2.2.2.c2, ()), ())))
theorem inj_L_support_Normal_2 : ∀ a b, enc_L_support_Normal_2 a = enc_L_support_Normal_2 b → a = b := by
  rintro ⟨a0, ⟨a1, a2, a3⟩, ⟨a4, a5, a6⟩, ⟨a7, a8, a9⟩⟩ ⟨b0, ⟨b1, b2, b3⟩, ⟨b4, b5, b6⟩, ⟨b7, b8, b9⟩⟩ h
  first | (cases h; done) | (have h2 := encSt_inj rfl (Prod.mk.inj h).2; simp [] at h2; simp [h2]) | (have h2 := (Prod.mk.inj h).1; simp at h2) | rfl
noncomputable abbrev X_L_support_Normal_0 (v3 : Int) (c4 : I3) (c5 : I3) (c6 : I3) (n : Nat) : Option (Ex × St) := (lvl Try.prog HH n).1 ⟨53, 0, true⟩ 0 (loopOf Try.f53 0) (encSt S53_0 (((), (), (), v3, ()), ((c4.c0, c4.c1, c4.c2, ()), (c5.c0, c5.c1, c5.c2, ()), (c6.c0, c6.c1, c6.c2, ()), ())))
noncomputable def L_support_Normal_0 (v3 : Int) (c4 : I3) (c5 : I3) (c6 : I3) : Option E_support_Normal_0 := den enc_L_support_Normal_0 (X_L_support_Normal_0 v3 c4 c5 c6)
theorem L_support_Normal_0_of (v3 : Int) (c4 : I3) (c5 : I3) (c6 : I3) : ∀ r, ((
    (F_support_fits c6).bind fun y7 =>
    bif !y7 then (
      Option.bind (α := E_support_Normal_2) (
        bif decide (v3 < 0) then (
          none)
        else
        letIn (IntKind.wrap .i64 (1 * (2 ^ min v3.toNat 64)) : Int) fun n8 =>
        bif n8 == 0 then (
          none)
        else
        letIn (IntKind.wrap .i64 (Int.tdiv c4.c0 n8) : Int) fun n9 =>
        bif decide (v3 < 0) then (
          none)
        else
        letIn (IntKind.wrap .i64 (1 * (2 ^ min v3.toNat 64)) : Int) fun n10 =>
        bif n10 == 0 then (
          none)
        else
        letIn (IntKind.wrap .i64 (Int.tdiv c4.c1 n10) : Int) fun n11 =>
        bif decide (v3 < 0) then (
          none)
        else
        letIn (IntKind.wrap .i64 (1 * (2 ^ min v3.toNat 64)) : Int) fun n12 =>
        bif n12 == 0 then (
          none)
        else
        letIn (IntKind.wrap .i64 (Int.tdiv c4.c2 n12) : Int) fun n13 =>
        some ((v3, c4, c5, (I3.mk n9 n11 n13)))) fun p14 =>
      letIn (IntKind.wrap .i64 (p14.1 + 1) : Int) fun n15 =>
      L_support_Normal_0 n15 p14.2.1 p14.2.2.1 p14.2.2.2)
    else
    some ((c5, c6))) : Option E_support_Normal_0) = some r →
    L_support_Normal_0 v3 c4 c5 c6 = some r := fun r h =>
  den_of (x := (X_L_support_Normal_0 v3 c4 c5 c6)) inj_L_support_Normal_0 5 (Lim.cong (fun n => loop53_0 n v3 c4.c0 c4.c1 c4.c2 c5.c0 c5.c1 c5.c2 c6.c0 c6.c1 c6.c2) (by
      refine Lim.call o_support_fits (lim_support_fits 4 c6) rfl rfl fun y7 => ?_
      refine Lim.bif rfl ?_ ?_
      · refine Lim.bind (e := enc_L_support_Normal_2) ?_ fun p14 => ?_
        · refine Lim.bif rfl Lim.none_ ?_
          refine Lim.letIn rfl fun n8 => ?_
          refine Lim.bif rfl Lim.none_ ?_
          refine Lim.letIn rfl fun n9 => ?_
          refine Lim.bif rfl Lim.none_ ?_
          refine Lim.letIn rfl fun n10 => ?_
          refine Lim.bif rfl Lim.none_ ?_
          refine Lim.letIn rfl fun n11 => ?_
          refine Lim.bif rfl Lim.none_ ?_
          refine Lim.letIn rfl fun n12 => ?_
          refine Lim.bif rfl Lim.none_ ?_
          refine Lim.letIn rfl fun n13 => ?_
          exact Lim.leaf rfl
        refine Lim.exit (.exit 2) S53_2_e2 (((), (), (), p14.1, ()), ((p14.2.1.c0, p14.2.1.c1, p14.2.1.c2, ()), (p14.2.2.1.c0, p14.2.2.1.c1, p14.2.2.1.c2, ()), (p14.2.2.2.c0, p14.2.2.2.c1, p14.2.2.2.c2, ()), ())) rfl rfl rfl ?_
        refine Lim.letIn rfl fun n15 => ?_
        exact Lim.loop 4 rfl
      exact Lim.leaf rfl
    )) h
abbrev o_support_Normal (v : I3 × Bool) : VtsT outs53 × MtsT mouts53 := (((v.1.c0, v.1.c1, v.1.c2, ()), v.2, ()), ())
abbrev encO_support_Normal (v : I3 × Bool) : R := (encR outs53 (o_support_Normal v).1, encMts mouts53 (o_support_Normal v).2)
theorem injO_support_Normal : ∀ a b, encO_support_Normal a = encO_support_Normal b → a = b := by
  rintro ⟨⟨a0, a1, a2⟩, a3⟩ ⟨⟨b0, b1, b2⟩, b3⟩ h
  have h1 := encR_inj (Prod.mk.inj h).1
  have h2 := encMts_inj (Prod.mk.inj h).2
  simp [o_support_Normal] at h1 h2
  simp [h1, h2]
noncomputable abbrev X_support_Normal (v1 : I3) (n : Nat) : Option R := (lvl Try.prog HH n).2 53 [.s (.agg true [.v (.int .i64 v1.c0), .v (.int .i64 v1.c1), .v (.int .i64 v1.c2)])] []
noncomputable def F_support_Normal (v1 : I3) : Option (I3 × Bool) := den encO_support_Normal (X_support_Normal v1)
theorem lim_support_Normal (k : Nat) (v1 : I3) : Lim (fun v => (encR outs53 (o_support_Normal v).1, encMts mouts53 (o_support_Normal v).2)) (fun n => (lvl Try.prog HH (n + k)).2 53 [.s (.agg true [.v (.int .i64 v1.c0), .v (.int .i64 v1.c1), .v (.int .i64 v1.c2)])] []) (F_support_Normal v1) := Lim.den (x := (X_support_Normal v1)) k
theorem F_support_Normal_of (v1 : I3) : ∀ r, ((
    (L_support_Normal_0 1 v1 ((I3.mk 0 0 0)) v1).bind fun p16 =>
    letIn (!((p16.2.c0 == 0) && ((p16.2.c1 == 0) && ((p16.2.c2 == 0) && true))) : Bool) fun b17 =>
    some (p16.2, b17)) : Option (I3 × Bool)) = some r →
    F_support_Normal v1 = some r := fun r h =>
  den_of (x := (X_support_Normal v1)) injO_support_Normal 1 (Lim.cong (fun n => fn53 n v1.c0 v1.c1 v1.c2) (by
      refine Lim.bind (show Lim enc_L_support_Normal_0 _ (L_support_Normal_0 1 v1 ((I3.mk 0 0 0)) v1) from Lim.loop 0 rfl) fun p16 => ?_
      refine Lim.exit (.exit 0) S53_0_e0 (((), (), ()), ((p16.1.c0, p16.1.c1, p16.1.c2, ()), (p16.2.c0, p16.2.c1, p16.2.c2, ()), ())) rfl rfl rfl ?_
      refine Lim.letIn rfl fun b17 => ?_
      exact Lim.leaf rfl
    )) h

/-! armplan/nearest.least -/
abbrev E_nearest_least_0 : Type := (Int)
def enc_L_nearest_least_0 (e : E_nearest_least_0) : Ex × St := (.exit 0, encSt S54_0_e0 ((e, ()), ()))
theorem inj_L_nearest_least_0 : ∀ a b, enc_L_nearest_least_0 a = enc_L_nearest_least_0 b → a = b := by
  rintro a0 b0 h
  first | (cases h; done) | (have h2 := encSt_inj rfl (Prod.mk.inj h).2; simp [] at h2; simp [h2]) | (have h2 := (Prod.mk.inj h).1; simp at h2) | rfl
noncomputable abbrev X_L_nearest_least_0 (v3 : List I3) (v4 : Int) (v5 : List I3) (v6 : Int) (v7 : Int) (c8 : I3) (n : Nat) : Option (Ex × St) := (lvl Try.prog HH n).1 ⟨54, 0, true⟩ 0 (loopOf Try.f54 0) (encSt S54_0 (((List.map encI3 v3), (), v4, (List.map encI3 v5), v6, v7, ()), ((c8.c0, c8.c1, c8.c2, ()), ())))
noncomputable def L_nearest_least_0 (v3 : List I3) (v4 : Int) (v5 : List I3) (v6 : Int) (v7 : Int) (c8 : I3) : Option E_nearest_least_0 := den enc_L_nearest_least_0 (X_L_nearest_least_0 v3 v4 v5 v6 v7 c8)
theorem L_nearest_least_0_of (v3 : List I3) (v4 : Int) (v5 : List I3) (v6 : Int) (v7 : Int) (c8 : I3) : ∀ r, ((
    bif decide (v7 < v6) then (
      bif decide (0 ≤ v7) then (
        (nth v5 v7.toNat).bind fun x9 =>
        (F_nearest_dot c8 x9).bind fun y10 =>
        bif decide (0 ≤ v4) then (
          (nth v3 v4.toNat).bind fun x11 =>
          (F_nearest_dot c8 x11).bind fun y12 =>
          bif decide (y10 < y12) then (
            letIn (IntKind.wrap .i64 (v7 + 1) : Int) fun n13 =>
            L_nearest_least_0 v3 v7 v5 v6 n13 c8)
          else
          letIn (IntKind.wrap .i64 (v7 + 1) : Int) fun n14 =>
          L_nearest_least_0 v3 v4 v5 v6 n14 c8)
        else
        none)
      else
      none)
    else
    some v4) : Option E_nearest_least_0) = some r →
    L_nearest_least_0 v3 v4 v5 v6 v7 c8 = some r := fun r h =>
  den_of (x := (X_L_nearest_least_0 v3 v4 v5 v6 v7 c8)) inj_L_nearest_least_0 1 (Lim.cong (fun n => loop54_0 n ((List.map encI3 v3)) v4 ((List.map encI3 v5)) v6 v7 c8.c0 c8.c1 c8.c2) (by
      refine Lim.bif rfl ?_ ?_
      · refine Lim.bif rfl ?_ Lim.none_
        refine Lim.nth encI3 rfl rfl fun x9 => ?_
        refine Lim.bifT rfl ?_
        refine Lim.decC (x9.c0, x9.c1, x9.c2, ()) rfl ?_
        refine Lim.call o_nearest_dot (lim_nearest_dot 0 c8 x9) rfl rfl fun y10 => ?_
        refine Lim.bif rfl ?_ Lim.none_
        refine Lim.nth encI3 rfl rfl fun x11 => ?_
        refine Lim.bifT rfl ?_
        refine Lim.decC (x11.c0, x11.c1, x11.c2, ()) rfl ?_
        refine Lim.call o_nearest_dot (lim_nearest_dot 0 c8 x11) rfl rfl fun y12 => ?_
        refine Lim.bif rfl ?_ ?_
        · refine Lim.letIn rfl fun n13 => ?_
          exact Lim.loop 0 rfl
        refine Lim.letIn rfl fun n14 => ?_
        exact Lim.loop 0 rfl
      exact Lim.leaf rfl
    )) h
abbrev o_nearest_least (v : Int) : VtsT outs54 × MtsT mouts54 := ((v, ()), ())
abbrev encO_nearest_least (v : Int) : R := (encR outs54 (o_nearest_least v).1, encMts mouts54 (o_nearest_least v).2)
theorem injO_nearest_least : ∀ a b, encO_nearest_least a = encO_nearest_least b → a = b := by
  rintro a0 b0 h
  have h1 := encR_inj (Prod.mk.inj h).1
  have h2 := encMts_inj (Prod.mk.inj h).2
  simp [o_nearest_least] at h1 h2
  simp [h1, h2]
noncomputable abbrev X_nearest_least (n1 : I3) (l2 : List I3) (n : Nat) : Option R := (lvl Try.prog HH n).2 54 [.s (.agg true [.v (.int .i64 n1.c0), .v (.int .i64 n1.c1), .v (.int .i64 n1.c2)]), .s (.one (.fr 3 (List.map encI3 l2)))] []
noncomputable def F_nearest_least (n1 : I3) (l2 : List I3) : Option Int := den encO_nearest_least (X_nearest_least n1 l2)
theorem lim_nearest_least (k : Nat) (n1 : I3) (l2 : List I3) : Lim (fun v => (encR outs54 (o_nearest_least v).1, encMts mouts54 (o_nearest_least v).2)) (fun n => (lvl Try.prog HH (n + k)).2 54 [.s (.agg true [.v (.int .i64 n1.c0), .v (.int .i64 n1.c1), .v (.int .i64 n1.c2)]), .s (.one (.fr 3 (List.map encI3 l2)))] []) (F_nearest_least n1 l2) := Lim.den (x := (X_nearest_least n1 l2)) k
theorem F_nearest_least_of (n1 : I3) (l2 : List I3) : ∀ r, ((
    (L_nearest_least_0 l2 0 l2 (((l2.length : Nat) : Int)) 0 n1).bind fun p15 =>
    some p15) : Option Int) = some r →
    F_nearest_least n1 l2 = some r := fun r h =>
  den_of (x := (X_nearest_least n1 l2)) injO_nearest_least 1 (Lim.cong (fun n => fn54 n n1.c0 n1.c1 n1.c2 ((List.map encI3 l2))) (by
      refine Lim.bind (show Lim enc_L_nearest_least_0 _ (L_nearest_least_0 l2 0 l2 (((l2.length : Nat) : Int)) 0 n1) from Lim.loop 0 (by first | with_reducible rfl | (simp only [List.map_replicate, map_upd]; rfl) | (simp [map_upd] <;> rfl) | rfl)) fun p15 => ?_
      refine Lim.exit (.exit 0) S54_0_e0 ((p15, ()), ()) rfl rfl rfl ?_
      exact Lim.leaf rfl
    )) h

/-! armplan/nearest.minus -/
abbrev o_nearest_minus (v : I3) : VtsT outs55 × MtsT mouts55 := (((v.c0, v.c1, v.c2, ()), ()), ())
abbrev encO_nearest_minus (v : I3) : R := (encR outs55 (o_nearest_minus v).1, encMts mouts55 (o_nearest_minus v).2)
theorem injO_nearest_minus : ∀ a b, encO_nearest_minus a = encO_nearest_minus b → a = b := by
  rintro ⟨a0, a1, a2⟩ ⟨b0, b1, b2⟩ h
  have h1 := encR_inj (Prod.mk.inj h).1
  have h2 := encMts_inj (Prod.mk.inj h).2
  simp [o_nearest_minus] at h1 h2
  simp [h1, h2]
noncomputable abbrev X_nearest_minus (x1 : I3) (y2 : I3) (n : Nat) : Option R := (lvl Try.prog HH n).2 55 [.s (.agg true [.v (.int .i64 x1.c0), .v (.int .i64 x1.c1), .v (.int .i64 x1.c2)]), .s (.agg true [.v (.int .i64 y2.c0), .v (.int .i64 y2.c1), .v (.int .i64 y2.c2)])] []
noncomputable def F_nearest_minus (x1 : I3) (y2 : I3) : Option I3 := den encO_nearest_minus (X_nearest_minus x1 y2)
theorem lim_nearest_minus (k : Nat) (x1 : I3) (y2 : I3) : Lim (fun v => (encR outs55 (o_nearest_minus v).1, encMts mouts55 (o_nearest_minus v).2)) (fun n => (lvl Try.prog HH (n + k)).2 55 [.s (.agg true [.v (.int .i64 x1.c0), .v (.int .i64 x1.c1), .v (.int .i64 x1.c2)]), .s (.agg true [.v (.int .i64 y2.c0), .v (.int .i64 y2.c1), .v (.int .i64 y2.c2)])] []) (F_nearest_minus x1 y2) := Lim.den (x := (X_nearest_minus x1 y2)) k
theorem F_nearest_minus_of (x1 : I3) (y2 : I3) : ∀ r, ((
    letIn (IntKind.wrap .i64 (x1.c0 - y2.c0) : Int) fun n3 =>
    letIn (IntKind.wrap .i64 (x1.c1 - y2.c1) : Int) fun n4 =>
    letIn (IntKind.wrap .i64 (x1.c2 - y2.c2) : Int) fun n5 =>
    some ((I3.mk n3 n4 n5))) : Option I3) = some r →
    F_nearest_minus x1 y2 = some r := fun r h =>
  den_of (x := (X_nearest_minus x1 y2)) injO_nearest_minus 1 (Lim.cong (fun n => fn55 n x1.c0 x1.c1 x1.c2 y2.c0 y2.c1 y2.c2) (by
      refine Lim.letIn rfl fun n3 => ?_
      refine Lim.letIn rfl fun n4 => ?_
      refine Lim.letIn rfl fun n5 => ?_
      exact Lim.leaf rfl
    )) h
def G_nearest_minus (x1 : I3) (y2 : I3) : I3 :=
  letIn (IntKind.wrap .i64 (x1.c0 - y2.c0) : Int) fun n3 =>
  letIn (IntKind.wrap .i64 (x1.c1 - y2.c1) : Int) fun n4 =>
  letIn (IntKind.wrap .i64 (x1.c2 - y2.c2) : Int) fun n5 =>
  ((I3.mk n3 n4 n5))
theorem F_nearest_minus_eq (x1 : I3) (y2 : I3) : F_nearest_minus x1 y2 = some (G_nearest_minus x1 y2) := F_nearest_minus_of x1 y2 _ (by
  unfold G_nearest_minus
  refine Tot.letIn fun n3 => ?_
  refine Tot.letIn fun n4 => ?_
  refine Tot.letIn fun n5 => ?_
  rfl)

/-! armplan/support.Usable -/
abbrev o_support_Usable (v : Bool) : VtsT outs71 × MtsT mouts71 := ((v, ()), ())
abbrev encO_support_Usable (v : Bool) : R := (encR outs71 (o_support_Usable v).1, encMts mouts71 (o_support_Usable v).2)
theorem injO_support_Usable : ∀ a b, encO_support_Usable a = encO_support_Usable b → a = b := by
  rintro a0 b0 h
  have h1 := encR_inj (Prod.mk.inj h).1
  have h2 := encMts_inj (Prod.mk.inj h).2
  simp [o_support_Usable] at h1 h2
  simp [h1, h2]
noncomputable abbrev X_support_Usable (n1 : I3) (n : Nat) : Option R := (lvl Try.prog HH n).2 71 [.s (.agg true [.v (.int .i64 n1.c0), .v (.int .i64 n1.c1), .v (.int .i64 n1.c2)])] []
noncomputable def F_support_Usable (n1 : I3) : Option Bool := den encO_support_Usable (X_support_Usable n1)
theorem lim_support_Usable (k : Nat) (n1 : I3) : Lim (fun v => (encR outs71 (o_support_Usable v).1, encMts mouts71 (o_support_Usable v).2)) (fun n => (lvl Try.prog HH (n + k)).2 71 [.s (.agg true [.v (.int .i64 n1.c0), .v (.int .i64 n1.c1), .v (.int .i64 n1.c2)])] []) (F_support_Usable n1) := Lim.den (x := (X_support_Usable n1)) k
theorem F_support_Usable_of (n1 : I3) : ∀ r, ((
    (F_support_fits n1).bind fun y2 =>
    bif y2 then (
      letIn (!((n1.c0 == 0) && ((n1.c1 == 0) && ((n1.c2 == 0) && true))) : Bool) fun b3 =>
      some b3)
    else
    some false) : Option Bool) = some r →
    F_support_Usable n1 = some r := fun r h =>
  den_of (x := (X_support_Usable n1)) injO_support_Usable 1 (Lim.cong (fun n => fn71 n n1.c0 n1.c1 n1.c2) (by
      refine Lim.call o_support_fits (lim_support_fits 0 n1) rfl rfl fun y2 => ?_
      refine Lim.bif rfl ?_ ?_
      · refine Lim.letIn rfl fun b3 => ?_
        exact Lim.leaf rfl
      exact Lim.leaf rfl
    )) h
def G_support_Usable (n1 : I3) : Bool :=
  letIn (G_support_fits n1) fun y2 =>
  bif y2 then (
    letIn (!((n1.c0 == 0) && ((n1.c1 == 0) && ((n1.c2 == 0) && true))) : Bool) fun b3 =>
    b3)
  else
  false
theorem F_support_Usable_eq (n1 : I3) : F_support_Usable n1 = some (G_support_Usable n1) := F_support_Usable_of n1 _ (by
  unfold G_support_Usable
  refine Tot.bind (F_support_fits_eq n1) fun y2 => ?_
  refine Tot.bif ?_ ?_
  · refine Tot.letIn fun b3 => ?_
    rfl
  rfl)

/-! armplan/fixed.Root -/
abbrev E_fixed_Root_0 : Type := (Int)
def enc_L_fixed_Root_0 (e : E_fixed_Root_0) : Ex × St := (.exit 0, encSt S76_0_e0 ((e, ()), ()))
theorem inj_L_fixed_Root_0 : ∀ a b, enc_L_fixed_Root_0 a = enc_L_fixed_Root_0 b → a = b := by
  rintro a0 b0 h
  first | (cases h; done) | (have h2 := encSt_inj rfl (Prod.mk.inj h).2; simp [] at h2; simp [h2]) | (have h2 := (Prod.mk.inj h).1; simp at h2) | rfl
noncomputable abbrev X_L_fixed_Root_0 (v2 : Int) (v3 : Int) (v4 : Int) (n : Nat) : Option (Ex × St) := (lvl Try.prog HH n).1 ⟨76, 0, true⟩ 0 (loopOf Try.f76 0) (encSt S76_0 ((v2, v3, v4, ()), ()))
noncomputable def L_fixed_Root_0 (v2 : Int) (v3 : Int) (v4 : Int) : Option E_fixed_Root_0 := den enc_L_fixed_Root_0 (X_L_fixed_Root_0 v2 v3 v4)
theorem L_fixed_Root_0_of (v2 : Int) (v3 : Int) (v4 : Int) : ∀ r, ((
    bif decide (v4 < 32) then (
      letIn (IntKind.wrap .i64 (31 - v4) : Int) fun n5 =>
      bif decide (n5 < 0) then (
        none)
      else
      letIn (IntKind.wrap .i64 (1 * (2 ^ min n5.toNat 64)) : Int) fun n6 =>
      letIn (IntKind.wrap .i64 (v3 + n6) : Int) fun n7 =>
      bif n7 == 0 then (
        none)
      else
      letIn (IntKind.wrap .i64 (Int.tdiv v2 n7) : Int) fun n8 =>
      bif decide (n7 ≤ n8) then (
        letIn (IntKind.wrap .i64 (v4 + 1) : Int) fun n9 =>
        L_fixed_Root_0 v2 n7 n9)
      else
      letIn (IntKind.wrap .i64 (v4 + 1) : Int) fun n10 =>
      L_fixed_Root_0 v2 v3 n10)
    else
    some v3) : Option E_fixed_Root_0) = some r →
    L_fixed_Root_0 v2 v3 v4 = some r := fun r h =>
  den_of (x := (X_L_fixed_Root_0 v2 v3 v4)) inj_L_fixed_Root_0 1 (Lim.cong (fun n => loop76_0 n v2 v3 v4) (by
      refine Lim.bif rfl ?_ ?_
      · refine Lim.letIn rfl fun n5 => ?_
        refine Lim.bif rfl Lim.none_ ?_
        refine Lim.letIn rfl fun n6 => ?_
        refine Lim.letIn rfl fun n7 => ?_
        refine Lim.bif rfl Lim.none_ ?_
        refine Lim.letIn rfl fun n8 => ?_
        refine Lim.bif rfl ?_ ?_
        · refine Lim.letIn rfl fun n9 => ?_
          exact Lim.loop 0 rfl
        refine Lim.letIn rfl fun n10 => ?_
        exact Lim.loop 0 rfl
      exact Lim.leaf rfl
    )) h
abbrev o_fixed_Root (v : Int) : VtsT outs76 × MtsT mouts76 := ((v, ()), ())
abbrev encO_fixed_Root (v : Int) : R := (encR outs76 (o_fixed_Root v).1, encMts mouts76 (o_fixed_Root v).2)
theorem injO_fixed_Root : ∀ a b, encO_fixed_Root a = encO_fixed_Root b → a = b := by
  rintro a0 b0 h
  have h1 := encR_inj (Prod.mk.inj h).1
  have h2 := encMts_inj (Prod.mk.inj h).2
  simp [o_fixed_Root] at h1 h2
  simp [h1, h2]
noncomputable abbrev X_fixed_Root (n1 : Int) (n : Nat) : Option R := (lvl Try.prog HH n).2 76 [.s (.one (.v (.int .i64 n1)))] []
noncomputable def F_fixed_Root (n1 : Int) : Option Int := den encO_fixed_Root (X_fixed_Root n1)
theorem lim_fixed_Root (k : Nat) (n1 : Int) : Lim (fun v => (encR outs76 (o_fixed_Root v).1, encMts mouts76 (o_fixed_Root v).2)) (fun n => (lvl Try.prog HH (n + k)).2 76 [.s (.one (.v (.int .i64 n1)))] []) (F_fixed_Root n1) := Lim.den (x := (X_fixed_Root n1)) k
theorem F_fixed_Root_of (n1 : Int) : ∀ r, ((
    bif decide (n1 ≤ 0) then (
      some 0)
    else
    (L_fixed_Root_0 n1 0 0).bind fun p11 =>
    some p11) : Option Int) = some r →
    F_fixed_Root n1 = some r := fun r h =>
  den_of (x := (X_fixed_Root n1)) injO_fixed_Root 1 (Lim.cong (fun n => fn76 n n1) (by
      refine Lim.bif rfl ?_ ?_
      · exact Lim.leaf rfl
      refine Lim.bind (show Lim enc_L_fixed_Root_0 _ (L_fixed_Root_0 n1 0 0) from Lim.loop 0 rfl) fun p11 => ?_
      refine Lim.exit (.exit 0) S76_0_e0 ((p11, ()), ()) rfl rfl rfl ?_
      exact Lim.leaf rfl
    )) h

/-! armplan/fixed.RootUp -/
abbrev o_fixed_RootUp (v : Int) : VtsT outs72 × MtsT mouts72 := ((v, ()), ())
abbrev encO_fixed_RootUp (v : Int) : R := (encR outs72 (o_fixed_RootUp v).1, encMts mouts72 (o_fixed_RootUp v).2)
theorem injO_fixed_RootUp : ∀ a b, encO_fixed_RootUp a = encO_fixed_RootUp b → a = b := by
  rintro a0 b0 h
  have h1 := encR_inj (Prod.mk.inj h).1
  have h2 := encMts_inj (Prod.mk.inj h).2
  simp [o_fixed_RootUp] at h1 h2
  simp [h1, h2]
noncomputable abbrev X_fixed_RootUp (n1 : Int) (n : Nat) : Option R := (lvl Try.prog HH n).2 72 [.s (.one (.v (.int .i64 n1)))] []
noncomputable def F_fixed_RootUp (n1 : Int) : Option Int := den encO_fixed_RootUp (X_fixed_RootUp n1)
theorem lim_fixed_RootUp (k : Nat) (n1 : Int) : Lim (fun v => (encR outs72 (o_fixed_RootUp v).1, encMts mouts72 (o_fixed_RootUp v).2)) (fun n => (lvl Try.prog HH (n + k)).2 72 [.s (.one (.v (.int .i64 n1)))] []) (F_fixed_RootUp n1) := Lim.den (x := (X_fixed_RootUp n1)) k
theorem F_fixed_RootUp_of (n1 : Int) : ∀ r, ((
    (F_fixed_Root n1).bind fun y2 =>
    letIn (IntKind.wrap .i64 (y2 * y2) : Int) fun n3 =>
    bif decide (n3 < n1) then (
      letIn (IntKind.wrap .i64 (y2 + 1) : Int) fun n4 =>
      some n4)
    else
    some y2) : Option Int) = some r →
    F_fixed_RootUp n1 = some r := fun r h =>
  den_of (x := (X_fixed_RootUp n1)) injO_fixed_RootUp 1 (Lim.cong (fun n => fn72 n n1) (by
      refine Lim.call o_fixed_Root (lim_fixed_Root 0 n1) rfl rfl fun y2 => ?_
      refine Lim.letIn rfl fun n3 => ?_
      refine Lim.bif rfl ?_ ?_
      · refine Lim.letIn rfl fun n4 => ?_
        exact Lim.leaf rfl
      exact Lim.leaf rfl
    )) h

/-! armplan/support.Norm -/
abbrev o_support_Norm (v : Int) : VtsT outs56 × MtsT mouts56 := ((v, ()), ())
abbrev encO_support_Norm (v : Int) : R := (encR outs56 (o_support_Norm v).1, encMts mouts56 (o_support_Norm v).2)
theorem injO_support_Norm : ∀ a b, encO_support_Norm a = encO_support_Norm b → a = b := by
  rintro a0 b0 h
  have h1 := encR_inj (Prod.mk.inj h).1
  have h2 := encMts_inj (Prod.mk.inj h).2
  simp [o_support_Norm] at h1 h2
  simp [h1, h2]
noncomputable abbrev X_support_Norm (n1 : I3) (n : Nat) : Option R := (lvl Try.prog HH n).2 56 [.s (.agg true [.v (.int .i64 n1.c0), .v (.int .i64 n1.c1), .v (.int .i64 n1.c2)])] []
noncomputable def F_support_Norm (n1 : I3) : Option Int := den encO_support_Norm (X_support_Norm n1)
theorem lim_support_Norm (k : Nat) (n1 : I3) : Lim (fun v => (encR outs56 (o_support_Norm v).1, encMts mouts56 (o_support_Norm v).2)) (fun n => (lvl Try.prog HH (n + k)).2 56 [.s (.agg true [.v (.int .i64 n1.c0), .v (.int .i64 n1.c1), .v (.int .i64 n1.c2)])] []) (F_support_Norm n1) := Lim.den (x := (X_support_Norm n1)) k
theorem F_support_Norm_of (n1 : I3) : ∀ r, ((
    (F_support_Usable n1).bind fun y2 =>
    bif !y2 then (
      some 0)
    else
    letIn (IntKind.wrap .i64 (n1.c0 * n1.c0) : Int) fun n3 =>
    letIn (IntKind.wrap .i64 (n1.c1 * n1.c1) : Int) fun n4 =>
    letIn (IntKind.wrap .i64 (n3 + n4) : Int) fun n5 =>
    letIn (IntKind.wrap .i64 (n1.c2 * n1.c2) : Int) fun n6 =>
    letIn (IntKind.wrap .i64 (n5 + n6) : Int) fun n7 =>
    (F_fixed_RootUp n7).bind fun y8 =>
    some y8) : Option Int) = some r →
    F_support_Norm n1 = some r := fun r h =>
  den_of (x := (X_support_Norm n1)) injO_support_Norm 1 (Lim.cong (fun n => fn56 n n1.c0 n1.c1 n1.c2) (by
      refine Lim.call o_support_Usable (lim_support_Usable 0 n1) rfl rfl fun y2 => ?_
      refine Lim.bif rfl ?_ ?_
      · exact Lim.leaf rfl
      refine Lim.letIn rfl fun n3 => ?_
      refine Lim.letIn rfl fun n4 => ?_
      refine Lim.letIn rfl fun n5 => ?_
      refine Lim.letIn rfl fun n6 => ?_
      refine Lim.letIn rfl fun n7 => ?_
      refine Lim.call o_fixed_RootUp (lim_fixed_RootUp 0 n7) rfl rfl fun y8 => ?_
      exact Lim.leaf rfl
    )) h

/-! (armplan/nearest.weights).move -/
abbrev E_nearest_weights_move_0 : Type := (Int × Int × (List Int))
def enc_L_nearest_weights_move_0 (e : E_nearest_weights_move_0) : Ex × St := (.exit 0, encSt S73s0_0_e0 (((), e.1, e.2.1, ()), ((List.map encI e.2.2), ())))
theorem inj_L_nearest_weights_move_0 : ∀ a b, enc_L_nearest_weights_move_0 a = enc_L_nearest_weights_move_0 b → a = b := by
  rintro ⟨a0, a1, a2⟩ ⟨b0, b1, b2⟩ h
  first | (cases h; done) | (have h2 := encSt_inj rfl (Prod.mk.inj h).2; simp [map_inj encI_inj] at h2; simp [h2]) | (have h2 := (Prod.mk.inj h).1; simp at h2) | rfl
noncomputable abbrev X_L_nearest_weights_move_0 (v4 : Int) (v5 : Int) (v6 : Int) (v7 : Int) (v8 : Int) (es9 : List Int) (n : Nat) : Option (Ex × St) := (lvl Try.prog HH n).1 ⟨73, 1, false⟩ 0 (loopOf Try.f73 0) (encSt S73s0_0 (((), v4, v5, v6, (), v7, v8, ()), ((List.map encI es9), ())))
noncomputable def L_nearest_weights_move_0 (v4 : Int) (v5 : Int) (v6 : Int) (v7 : Int) (v8 : Int) (es9 : List Int) : Option E_nearest_weights_move_0 := den enc_L_nearest_weights_move_0 (X_L_nearest_weights_move_0 v4 v5 v6 v7 v8 es9)
theorem L_nearest_weights_move_0_of (v4 : Int) (v5 : Int) (v6 : Int) (v7 : Int) (v8 : Int) (es9 : List Int) : ∀ r, ((
    bif decide (v8 < v7) then (
      bif decide (0 ≤ v8) then (
        (nth es9 v8.toNat).bind fun x10 =>
        (nth es9 v8.toNat).bind fun x11 =>
        bif decide (0 ≤ v8) then (
          (nth es9 v8.toNat).bind fun x12 =>
          (nth es9 v8.toNat).bind fun x13 =>
          letIn (IntKind.wrap .i64 (x11 * v4) : Int) fun n14 =>
          letIn (IntKind.wrap .i64 (Int.tdiv n14 256) : Int) fun n15 =>
          letIn (IntKind.wrap .i64 (x13 - n15) : Int) fun n16 =>
          bif decide (0 ≤ v8) then (
            (nth es9 v8.toNat).bind fun x17 =>
            (nth es9 v8.toNat).bind fun x18 =>
            letIn (IntKind.wrap .i64 (x11 * v4) : Int) fun n19 =>
            letIn (IntKind.wrap .i64 (Int.tdiv n19 256) : Int) fun n20 =>
            letIn (IntKind.wrap .i64 (v6 + n20) : Int) fun n21 =>
            letIn (IntKind.wrap .i64 (v8 + 1) : Int) fun n22 =>
            L_nearest_weights_move_0 v4 v5 n21 v7 n22 (upd es9 v8.toNat n16))
          else
          none)
        else
        none)
      else
      none)
    else
    some ((v5, v6, es9))) : Option E_nearest_weights_move_0) = some r →
    L_nearest_weights_move_0 v4 v5 v6 v7 v8 es9 = some r := fun r h =>
  den_of (x := (X_L_nearest_weights_move_0 v4 v5 v6 v7 v8 es9)) inj_L_nearest_weights_move_0 1 (Lim.cong (fun n => loop73s0_0 n v4 v5 v6 v7 v8 ((List.map encI es9))) (by
      refine Lim.bif rfl ?_ ?_
      · refine Lim.bif rfl ?_ Lim.none_
        refine Lim.nth encI rfl rfl fun x10 => ?_
        refine Lim.nth encI rfl rfl fun x11 => ?_
        refine Lim.step rfl ?_
        refine Lim.step rfl ?_
        refine Lim.bif rfl ?_ Lim.none_
        refine Lim.nth encI rfl rfl fun x12 => ?_
        refine Lim.nth encI rfl rfl fun x13 => ?_
        refine Lim.step rfl ?_
        refine Lim.step rfl ?_
        refine Lim.letIn rfl fun n14 => ?_
        refine Lim.letIn rfl fun n15 => ?_
        refine Lim.letIn rfl fun n16 => ?_
        refine Lim.bif rfl ?_ Lim.none_
        refine Lim.nth encI rfl rfl fun x17 => ?_
        refine Lim.nth encI rfl rfl fun x18 => ?_
        refine Lim.step rfl ?_
        refine Lim.letIn rfl fun n19 => ?_
        refine Lim.letIn rfl fun n20 => ?_
        refine Lim.letIn rfl fun n21 => ?_
        refine Lim.letIn rfl fun n22 => ?_
        exact Lim.loop 0 (by first | with_reducible rfl | (simp only [List.map_replicate, map_upd]; rfl) | (simp [map_upd] <;> rfl) | rfl)
      exact Lim.leaf rfl
    )) h
abbrev o_nearest_weights_move (v : (List Int)) : VtsT outs73 × MtsT mouts73 := ((), ((List.map encI v), ()))
abbrev encO_nearest_weights_move (v : (List Int)) : R := (encR outs73 (o_nearest_weights_move v).1, encMts mouts73 (o_nearest_weights_move v).2)
theorem injO_nearest_weights_move : ∀ a b, encO_nearest_weights_move a = encO_nearest_weights_move b → a = b := by
  rintro a0 b0 h
  have h1 := encR_inj (Prod.mk.inj h).1
  have h2 := encMts_inj (Prod.mk.inj h).2
  simp [o_nearest_weights_move, map_inj encI_inj] at h1 h2
  simp [h1, h2]
noncomputable abbrev X_nearest_weights_move (t1 : Int) (i2 : Int) (es3 : List Int) (n : Nat) : Option R := (lvl Try.prog HH n).2 73 [.s (.one (.fs 0)), .s (.one (.v (.int .i64 t1))), .s (.one (.v (.int .i64 i2)))] [.own 1 true (List.map encI es3)]
noncomputable def F_nearest_weights_move (t1 : Int) (i2 : Int) (es3 : List Int) : Option ((List Int)) := den encO_nearest_weights_move (X_nearest_weights_move t1 i2 es3)
theorem lim_nearest_weights_move (k : Nat) (t1 : Int) (i2 : Int) (es3 : List Int) : Lim (fun v => (encR outs73 (o_nearest_weights_move v).1, encMts mouts73 (o_nearest_weights_move v).2)) (fun n => (lvl Try.prog HH (n + k)).2 73 [.s (.one (.fs 0)), .s (.one (.v (.int .i64 t1))), .s (.one (.v (.int .i64 i2)))] [.own 1 true (List.map encI es3)]) (F_nearest_weights_move t1 i2 es3) := Lim.den (x := (X_nearest_weights_move t1 i2 es3)) k
theorem F_nearest_weights_move_of (t1 : Int) (i2 : Int) (es3 : List Int) : ∀ r, ((
    (L_nearest_weights_move_0 t1 i2 0 (((es3.length : Nat) : Int)) 0 es3).bind fun p23 =>
    bif decide (0 ≤ p23.1) then (
      (nth p23.2.2 p23.1.toNat).bind fun x24 =>
      (nth p23.2.2 p23.1.toNat).bind fun x25 =>
      letIn (IntKind.wrap .i64 (x25 + p23.2.1) : Int) fun n26 =>
      bif decide (0 ≤ p23.1) then (
        (nth p23.2.2 p23.1.toNat).bind fun x27 =>
        (nth p23.2.2 p23.1.toNat).bind fun x28 =>
        some (upd p23.2.2 p23.1.toNat n26))
      else
      none)
    else
    none) : Option ((List Int))) = some r →
    F_nearest_weights_move t1 i2 es3 = some r := fun r h =>
  den_of (x := (X_nearest_weights_move t1 i2 es3)) injO_nearest_weights_move 1 (Lim.cong (fun n => fn73s0 n t1 i2 ((List.map encI es3))) (by
      refine Lim.bind (show Lim enc_L_nearest_weights_move_0 _ (L_nearest_weights_move_0 t1 i2 0 (((es3.length : Nat) : Int)) 0 es3) from Lim.loop 0 (by first | with_reducible rfl | (simp only [List.map_replicate, map_upd]; rfl) | (simp [map_upd] <;> rfl) | rfl)) fun p23 => ?_
      refine Lim.exit (.exit 0) S73s0_0_e0 (((), p23.1, p23.2.1, ()), ((List.map encI p23.2.2), ())) rfl rfl rfl ?_
      refine Lim.bif rfl ?_ Lim.none_
      refine Lim.nth encI rfl rfl fun x24 => ?_
      refine Lim.nth encI rfl rfl fun x25 => ?_
      refine Lim.step rfl ?_
      refine Lim.step rfl ?_
      refine Lim.letIn rfl fun n26 => ?_
      refine Lim.bif rfl ?_ Lim.none_
      refine Lim.nth encI rfl rfl fun x27 => ?_
      refine Lim.nth encI rfl rfl fun x28 => ?_
      refine Lim.step rfl ?_
      exact Lim.leaf (by first | rfl | (simp [o_nearest_weights_move, map_upd] <;> first | rfl | exact ⟨rfl, rfl⟩))
    )) h

/-! (*armplan/nearest.sides).approach -/
abbrev o_nearest_sides_approach (v : (List I3) × (List I3) × Int × Int × Int × Int × Int × Int × (List Int) × (List Int)) : VtsT outs57 × MtsT mouts57 := ((), (((), (), (List.map encI3 v.1), (List.map encI3 v.2.1), v.2.2.1, v.2.2.2.1, v.2.2.2.2.1, v.2.2.2.2.2.1, v.2.2.2.2.2.2.1, v.2.2.2.2.2.2.2.1, ()), (List.map encI v.2.2.2.2.2.2.2.2.1), (List.map encI v.2.2.2.2.2.2.2.2.2), ()))
abbrev encO_nearest_sides_approach (v : (List I3) × (List I3) × Int × Int × Int × Int × Int × Int × (List Int) × (List Int)) : R := (encR outs57 (o_nearest_sides_approach v).1, encMts mouts57 (o_nearest_sides_approach v).2)
theorem injO_nearest_sides_approach : ∀ a b, encO_nearest_sides_approach a = encO_nearest_sides_approach b → a = b := by
  rintro ⟨a0, a1, a2, a3, a4, a5, a6, a7, a8, a9⟩ ⟨b0, b1, b2, b3, b4, b5, b6, b7, b8, b9⟩ h
  have h1 := encR_inj (Prod.mk.inj h).1
  have h2 := encMts_inj (Prod.mk.inj h).2
  simp [o_nearest_sides_approach, map_inj encI3_inj, map_inj encI_inj] at h1 h2
  simp [h1, h2]
noncomputable abbrev X_nearest_sides_approach (t1 : Int) (i2 : Int) (j3 : Int) (c4 : List I3) (c5 : List I3) (c6 : Int) (c7 : Int) (c8 : Int) (c9 : Int) (c10 : Int) (c11 : Int) (es12 : List Int) (es13 : List Int) (n : Nat) : Option R := (lvl Try.prog HH n).2 57 [.s (.one (.ptr 0 0 0)), .s (.one (.v (.int .i64 t1))), .s (.one (.v (.int .i64 i2))), .s (.one (.v (.int .i64 j3)))] [.own 10 false [[.fs 1, .fs 2, .fr 3 (List.map encI3 c4), .fr 3 (List.map encI3 c5), .v (.int .i64 c6), .v (.int .i64 c7), .v (.int .i64 c8), .v (.int .i64 c9), .v (.int .i64 c10), .v (.int .i64 c11)]], .own 1 true (List.map encI es12), .own 1 true (List.map encI es13)]
noncomputable def F_nearest_sides_approach (t1 : Int) (i2 : Int) (j3 : Int) (c4 : List I3) (c5 : List I3) (c6 : Int) (c7 : Int) (c8 : Int) (c9 : Int) (c10 : Int) (c11 : Int) (es12 : List Int) (es13 : List Int) : Option ((List I3) × (List I3) × Int × Int × Int × Int × Int × Int × (List Int) × (List Int)) := den encO_nearest_sides_approach (X_nearest_sides_approach t1 i2 j3 c4 c5 c6 c7 c8 c9 c10 c11 es12 es13)
theorem lim_nearest_sides_approach (k : Nat) (t1 : Int) (i2 : Int) (j3 : Int) (c4 : List I3) (c5 : List I3) (c6 : Int) (c7 : Int) (c8 : Int) (c9 : Int) (c10 : Int) (c11 : Int) (es12 : List Int) (es13 : List Int) : Lim (fun v => (encR outs57 (o_nearest_sides_approach v).1, encMts mouts57 (o_nearest_sides_approach v).2)) (fun n => (lvl Try.prog HH (n + k)).2 57 [.s (.one (.ptr 0 0 0)), .s (.one (.v (.int .i64 t1))), .s (.one (.v (.int .i64 i2))), .s (.one (.v (.int .i64 j3)))] [.own 10 false [[.fs 1, .fs 2, .fr 3 (List.map encI3 c4), .fr 3 (List.map encI3 c5), .v (.int .i64 c6), .v (.int .i64 c7), .v (.int .i64 c8), .v (.int .i64 c9), .v (.int .i64 c10), .v (.int .i64 c11)]], .own 1 true (List.map encI es12), .own 1 true (List.map encI es13)]) (F_nearest_sides_approach t1 i2 j3 c4 c5 c6 c7 c8 c9 c10 c11 es12 es13) := Lim.den (x := (X_nearest_sides_approach t1 i2 j3 c4 c5 c6 c7 c8 c9 c10 c11 es12 es13)) k
theorem F_nearest_sides_approach_of (t1 : Int) (i2 : Int) (j3 : Int) (c4 : List I3) (c5 : List I3) (c6 : Int) (c7 : Int) (c8 : Int) (c9 : Int) (c10 : Int) (c11 : Int) (es12 : List Int) (es13 : List Int) : ∀ r, ((
    (F_nearest_weights_move t1 i2 es12).bind fun y14 =>
    (F_nearest_weights_move t1 j3 es13).bind fun y15 =>
    some (c4, c5, c6, c7, c8, c9, c10, c11, y14, y15)) : Option ((List I3) × (List I3) × Int × Int × Int × Int × Int × Int × (List Int) × (List Int))) = some r →
    F_nearest_sides_approach t1 i2 j3 c4 c5 c6 c7 c8 c9 c10 c11 es12 es13 = some r := fun r h =>
  den_of (x := (X_nearest_sides_approach t1 i2 j3 c4 c5 c6 c7 c8 c9 c10 c11 es12 es13)) injO_nearest_sides_approach 1 (Lim.cong (fun n => fn57s0 n t1 i2 j3 ((List.map encI3 c4)) ((List.map encI3 c5)) c6 c7 c8 c9 c10 c11 ((List.map encI es12)) ((List.map encI es13))) (by
      refine Lim.call o_nearest_weights_move (lim_nearest_weights_move 0 t1 i2 es12) rfl rfl fun y14 => ?_
      refine Lim.call o_nearest_weights_move (lim_nearest_weights_move 0 t1 j3 es13) rfl rfl fun y15 => ?_
      exact Lim.leaf rfl
    )) h

/-! (*armplan/nearest.search).step -/
abbrev E_nearest_search_step_0 : Type := ((List I3) × (List I3) × Int × Int × Int × Int × Int × Int × (List Int) × (List Int) × I3)
def enc_L_nearest_search_step_0 (e : E_nearest_search_step_0) : Ex × St := (.exit 0, encSt S28s0_0_e0 (((), (), ()), (((), (), (List.map encI3 e.1), (List.map encI3 e.2.1), e.2.2.1, e.2.2.2.1, e.2.2.2.2.1, e.2.2.2.2.2.1, e.2.2.2.2.2.2.1, e.2.2.2.2.2.2.2.1, ()), (List.map encI e.2.2.2.2.2.2.2.2.1), (List.map encI e.2.2.2.2.2.2.2.2.2.1), (e.2.2.2.2.2.2.2.2.2.2.c0, e.2.2.2.2.2.2.2.2.2.2.c1, e.2.2.2.2.2.2.2.2.2.2.c2, ()), ())))
theorem inj_L_nearest_search_step_0 : ∀ a b, enc_L_nearest_search_step_0 a = enc_L_nearest_search_step_0 b → a = b := by
  rintro ⟨a0, a1, a2, a3, a4, a5, a6, a7, a8, a9, ⟨a10, a11, a12⟩⟩ ⟨b0, b1, b2, b3, b4, b5, b6, b7, b8, b9, ⟨b10, b11, b12⟩⟩ h
  first | (cases h; done) | (have h2 := encSt_inj rfl (Prod.mk.inj h).2; simp [map_inj encI3_inj, map_inj encI_inj] at h2; simp [h2]) | (have h2 := (Prod.mk.inj h).1; simp at h2) | rfl
abbrev o_nearest_search_step (v : Int × Bool × (List I3) × (List I3) × Int × Int × Int × Int × Int × Int × (List Int) × (List Int)) : VtsT outs28 × MtsT mouts28 := ((v.1, v.2.1, ()), (((), (), (List.map encI3 v.2.2.1), (List.map encI3 v.2.2.2.1), v.2.2.2.2.1, v.2.2.2.2.2.1, v.2.2.2.2.2.2.1, v.2.2.2.2.2.2.2.1, v.2.2.2.2.2.2.2.2.1, v.2.2.2.2.2.2.2.2.2.1, ()), (List.map encI v.2.2.2.2.2.2.2.2.2.2.1), (List.map encI v.2.2.2.2.2.2.2.2.2.2.2), ()))
abbrev encO_nearest_search_step (v : Int × Bool × (List I3) × (List I3) × Int × Int × Int × Int × Int × Int × (List Int) × (List Int)) : R := (encR outs28 (o_nearest_search_step v).1, encMts mouts28 (o_nearest_search_step v).2)
theorem injO_nearest_search_step : ∀ a b, encO_nearest_search_step a = encO_nearest_search_step b → a = b := by
  rintro ⟨a0, a1, a2, a3, a4, a5, a6, a7, a8, a9, a10, a11⟩ ⟨b0, b1, b2, b3, b4, b5, b6, b7, b8, b9, b10, b11⟩ h
  have h1 := encR_inj (Prod.mk.inj h).1
  have h2 := encMts_inj (Prod.mk.inj h).2
  simp [o_nearest_search_step, map_inj encI3_inj, map_inj encI_inj] at h1 h2
  simp [h1, h2]
noncomputable abbrev X_nearest_search_step (c1 : List I3) (c2 : List I3) (c3 : Int) (c4 : Int) (c5 : Int) (c6 : Int) (c7 : Int) (c8 : Int) (es9 : List Int) (es10 : List Int) (n : Nat) : Option R := (lvl Try.prog HH n).2 28 [.s (.one (.ptr 0 0 0))] [.own 10 false [[.fs 1, .fs 2, .fr 3 (List.map encI3 c1), .fr 3 (List.map encI3 c2), .v (.int .i64 c3), .v (.int .i64 c4), .v (.int .i64 c5), .v (.int .i64 c6), .v (.int .i64 c7), .v (.int .i64 c8)]], .own 1 true (List.map encI es9), .own 1 true (List.map encI es10)]
noncomputable def F_nearest_search_step (c1 : List I3) (c2 : List I3) (c3 : Int) (c4 : Int) (c5 : Int) (c6 : Int) (c7 : Int) (c8 : Int) (es9 : List Int) (es10 : List Int) : Option (Int × Bool × (List I3) × (List I3) × Int × Int × Int × Int × Int × Int × (List Int) × (List Int)) := den encO_nearest_search_step (X_nearest_search_step c1 c2 c3 c4 c5 c6 c7 c8 es9 es10)
theorem lim_nearest_search_step (k : Nat) (c1 : List I3) (c2 : List I3) (c3 : Int) (c4 : Int) (c5 : Int) (c6 : Int) (c7 : Int) (c8 : Int) (es9 : List Int) (es10 : List Int) : Lim (fun v => (encR outs28 (o_nearest_search_step v).1, encMts mouts28 (o_nearest_search_step v).2)) (fun n => (lvl Try.prog HH (n + k)).2 28 [.s (.one (.ptr 0 0 0))] [.own 10 false [[.fs 1, .fs 2, .fr 3 (List.map encI3 c1), .fr 3 (List.map encI3 c2), .v (.int .i64 c3), .v (.int .i64 c4), .v (.int .i64 c5), .v (.int .i64 c6), .v (.int .i64 c7), .v (.int .i64 c8)]], .own 1 true (List.map encI es9), .own 1 true (List.map encI es10)]) (F_nearest_search_step c1 c2 c3 c4 c5 c6 c7 c8 es9 es10) := Lim.den (x := (X_nearest_search_step c1 c2 c3 c4 c5 c6 c7 c8 es9 es10)) k
theorem F_nearest_search_step_of (c1 : List I3) (c2 : List I3) (c3 : Int) (c4 : Int) (c5 : Int) (c6 : Int) (c7 : Int) (c8 : Int) (es9 : List Int) (es10 : List Int) : ∀ r, ((
    (F_nearest_sides_between c1 c2 c1 c2 c3 c4 c5 c6 c7 c8 es9 es10).bind fun y11 =>
    (F_nearest_lengths y11.1).bind fun y12 =>
    (F_nearest_dot y12 y12).bind fun y13 =>
    letIn (IntKind.wrap .i64 (y11.2.2.2.1 * y11.2.2.2.1) : Int) fun n14 =>
    bif decide (y13 ≤ n14) then (
      some (2, true, y11.2.1, y11.2.2.1, y11.2.2.2.1, y11.2.2.2.2.1, y11.2.2.2.2.2.1, y11.2.2.2.2.2.2.1, y11.2.2.2.2.2.2.2.1, y11.2.2.2.2.2.2.2.2.1, y11.2.2.2.2.2.2.2.2.2.1, y11.2.2.2.2.2.2.2.2.2.2))
    else
    letIn (IntKind.wrap .i64 (Int.tdiv y11.1.c0 65536) : Int) fun n15 =>
    letIn (IntKind.wrap .i64 (Int.tdiv y11.1.c1 65536) : Int) fun n16 =>
    letIn (IntKind.wrap .i64 (Int.tdiv y11.1.c2 65536) : Int) fun n17 =>
    (F_support_Normal ((I3.mk n15 n16 n17))).bind fun y18 =>
    bif !y18.2 then (
      some (0, true, y11.2.1, y11.2.2.1, y11.2.2.2.1, y11.2.2.2.2.1, y11.2.2.2.2.2.1, y18.1.c0, y18.1.c1, y18.1.c2, y11.2.2.2.2.2.2.2.2.2.1, y11.2.2.2.2.2.2.2.2.2.2))
    else
    (F_nearest_least y18.1 y11.2.1).bind fun y19 =>
    (F_nearest_minus ((I3.mk 0 0 0)) y18.1).bind fun y20 =>
    (F_nearest_least y20 y11.2.2.1).bind fun y21 =>
    bif decide (0 ≤ y19) then (
      (nth y11.2.1 y19.toNat).bind fun x22 =>
      (F_nearest_dot y18.1 x22).bind fun y23 =>
      bif decide (0 ≤ y21) then (
        (nth y11.2.2.1 y21.toNat).bind fun x24 =>
        (F_nearest_dot y18.1 x24).bind fun y25 =>
        letIn (IntKind.wrap .i64 (y23 - y25) : Int) fun n26 =>
        (F_support_Norm y18.1).bind fun y27 =>
        letIn (IntKind.wrap .i64 (y27 * y11.2.2.2.1) : Int) fun n28 =>
        bif decide (n26 > n28) then (
          some (1, true, y11.2.1, y11.2.2.1, y11.2.2.2.1, y11.2.2.2.2.1, y11.2.2.2.2.2.1, y18.1.c0, y18.1.c1, y18.1.c2, y11.2.2.2.2.2.2.2.2.2.1, y11.2.2.2.2.2.2.2.2.2.2))
        else
        bif y11.2.2.2.2.2.1 == y11.2.2.2.2.1 then (
          some (0, true, y11.2.1, y11.2.2.1, y11.2.2.2.1, y11.2.2.2.2.1, y11.2.2.2.2.2.1, y18.1.c0, y18.1.c1, y18.1.c2, y11.2.2.2.2.2.2.2.2.2.1, y11.2.2.2.2.2.2.2.2.2.2))
        else
        bif decide (0 ≤ y19) then (
          (nth y11.2.1 y19.toNat).bind fun x29 =>
          bif decide (0 ≤ y21) then (
            (nth y11.2.2.1 y21.toNat).bind fun x30 =>
            (F_nearest_minus x29 x30).bind fun y31 =>
            (F_nearest_minus ((I3.mk n15 n16 n17)) y31).bind fun y32 =>
            (F_nearest_dot ((I3.mk n15 n16 n17)) y32).bind fun y33 =>
            (F_nearest_dot y32 y32).bind fun y34 =>
            letIn (IntKind.wrap .i64 (Int.tdiv y34 256) : Int) fun n35 =>
            letIn (if n35 > 1 then n35 else 1 : Int) fun n36 =>
            bif n36 == 0 then (
              none)
            else
            letIn (IntKind.wrap .i64 (Int.tdiv y33 n36) : Int) fun n37 =>
            letIn (if n37 < 256 then n37 else 256 : Int) fun n38 =>
            bif decide (y33 ≤ 0) then (
              some (0, true, y11.2.1, y11.2.2.1, y11.2.2.2.1, y11.2.2.2.2.1, y11.2.2.2.2.2.1, y18.1.c0, y18.1.c1, y18.1.c2, y11.2.2.2.2.2.2.2.2.2.1, y11.2.2.2.2.2.2.2.2.2.2))
            else
            bif n38 == 0 then (
              some (0, true, y11.2.1, y11.2.2.1, y11.2.2.2.1, y11.2.2.2.2.1, y11.2.2.2.2.2.1, y18.1.c0, y18.1.c1, y18.1.c2, y11.2.2.2.2.2.2.2.2.2.1, y11.2.2.2.2.2.2.2.2.2.2))
            else
            (F_nearest_sides_approach n38 y19 y21 y11.2.1 y11.2.2.1 y11.2.2.2.1 y11.2.2.2.2.1 y11.2.2.2.2.2.1 y18.1.c0 y18.1.c1 y18.1.c2 y11.2.2.2.2.2.2.2.2.2.1 y11.2.2.2.2.2.2.2.2.2.2).bind fun y39 =>
            letIn (IntKind.wrap .i64 (y39.2.2.2.2.1 + 1) : Int) fun n40 =>
            some (0, false, y39.1, y39.2.1, y39.2.2.1, y39.2.2.2.1, n40, y39.2.2.2.2.2.1, y39.2.2.2.2.2.2.1, y39.2.2.2.2.2.2.2.1, y39.2.2.2.2.2.2.2.2.1, y39.2.2.2.2.2.2.2.2.2))
          else
          none)
        else
        none)
      else
      none)
    else
    none) : Option (Int × Bool × (List I3) × (List I3) × Int × Int × Int × Int × Int × Int × (List Int) × (List Int))) = some r →
    F_nearest_search_step c1 c2 c3 c4 c5 c6 c7 c8 es9 es10 = some r := fun r h =>
  den_of (x := (X_nearest_search_step c1 c2 c3 c4 c5 c6 c7 c8 es9 es10)) injO_nearest_search_step 5 (Lim.cong (fun n => fn28s0 n ((List.map encI3 c1)) ((List.map encI3 c2)) c3 c4 c5 c6 c7 c8 ((List.map encI es9)) ((List.map encI es10))) (by
      refine Lim.call o_nearest_sides_between (lim_nearest_sides_between 4 c1 c2 c1 c2 c3 c4 c5 c6 c7 c8 es9 es10) rfl rfl fun y11 => ?_
      refine Lim.call o_nearest_lengths (lim_nearest_lengths 4 y11.1) rfl rfl fun y12 => ?_
      refine Lim.call o_nearest_dot (lim_nearest_dot 4 y12 y12) rfl rfl fun y13 => ?_
      refine Lim.letIn rfl fun n14 => ?_
      refine Lim.bif rfl ?_ ?_
      · exact Lim.leaf rfl
      refine Lim.letIn rfl fun n15 => ?_
      refine Lim.letIn rfl fun n16 => ?_
      refine Lim.letIn rfl fun n17 => ?_
      refine Lim.call o_support_Normal (lim_support_Normal 4 ((I3.mk n15 n16 n17))) rfl rfl fun y18 => ?_
      refine Lim.bif rfl ?_ ?_
      · exact Lim.leaf rfl
      refine Lim.call o_nearest_least (lim_nearest_least 4 y18.1 y11.2.1) rfl rfl fun y19 => ?_
      refine Lim.call o_nearest_minus (lim_nearest_minus 4 ((I3.mk 0 0 0)) y18.1) rfl rfl fun y20 => ?_
      refine Lim.call o_nearest_least (lim_nearest_least 4 y20 y11.2.2.1) rfl rfl fun y21 => ?_
      refine Lim.bif rfl ?_ Lim.none_
      refine Lim.nth encI3 rfl rfl fun x22 => ?_
      refine Lim.bifT rfl ?_
      refine Lim.decC (x22.c0, x22.c1, x22.c2, ()) rfl ?_
      refine Lim.call o_nearest_dot (lim_nearest_dot 4 y18.1 x22) rfl rfl fun y23 => ?_
      refine Lim.bif rfl ?_ Lim.none_
      refine Lim.nth encI3 rfl rfl fun x24 => ?_
      refine Lim.bifT rfl ?_
      refine Lim.decC (x24.c0, x24.c1, x24.c2, ()) rfl ?_
      refine Lim.call o_nearest_dot (lim_nearest_dot 4 y18.1 x24) rfl rfl fun y25 => ?_
      refine Lim.letIn rfl fun n26 => ?_
      refine Lim.call o_support_Norm (lim_support_Norm 4 y18.1) rfl rfl fun y27 => ?_
      refine Lim.letIn rfl fun n28 => ?_
      refine Lim.bif rfl ?_ ?_
      · exact Lim.leaf rfl
      refine Lim.bif rfl ?_ ?_
      · exact Lim.leaf rfl
      refine Lim.bif rfl ?_ Lim.none_
      refine Lim.nth encI3 rfl rfl fun x29 => ?_
      refine Lim.bifT rfl ?_
      refine Lim.decC (x29.c0, x29.c1, x29.c2, ()) rfl ?_
      refine Lim.bif rfl ?_ Lim.none_
      refine Lim.nth encI3 rfl rfl fun x30 => ?_
      refine Lim.bifT rfl ?_
      refine Lim.decC (x30.c0, x30.c1, x30.c2, ()) rfl ?_
      refine Lim.call o_nearest_minus (lim_nearest_minus 4 x29 x30) rfl rfl fun y31 => ?_
      refine Lim.call o_nearest_minus (lim_nearest_minus 4 ((I3.mk n15 n16 n17)) y31) rfl rfl fun y32 => ?_
      refine Lim.call o_nearest_dot (lim_nearest_dot 4 ((I3.mk n15 n16 n17)) y32) rfl rfl fun y33 => ?_
      refine Lim.call o_nearest_dot (lim_nearest_dot 4 y32 y32) rfl rfl fun y34 => ?_
      refine Lim.letIn rfl fun n35 => ?_
      refine Lim.letIn rfl fun n36 => ?_
      refine Lim.bif rfl Lim.none_ ?_
      refine Lim.letIn rfl fun n37 => ?_
      refine Lim.letIn rfl fun n38 => ?_
      refine Lim.bif rfl ?_ ?_
      · exact Lim.leaf rfl
      refine Lim.bif rfl ?_ ?_
      · exact Lim.leaf rfl
      refine Lim.call o_nearest_sides_approach (lim_nearest_sides_approach 4 n38 y19 y21 y11.2.1 y11.2.2.1 y11.2.2.2.1 y11.2.2.2.2.1 y11.2.2.2.2.2.1 y18.1.c0 y18.1.c1 y18.1.c2 y11.2.2.2.2.2.2.2.2.2.1 y11.2.2.2.2.2.2.2.2.2.2) rfl rfl fun y39 => ?_
      refine Lim.letIn rfl fun n40 => ?_
      exact Lim.leaf rfl
    )) h

/-! armplan/nearest.Search -/
abbrev E_nearest_Search_0 : Type := (Int × Int × Int × Int × Int × D1 × D1 × Int × (List I3) × (List I3) × Int × Int × Int × Int × Int × Int × (List Int) × (List Int))
def enc_L_nearest_Search_0 (e : E_nearest_Search_0) : Ex × St := (.exit 0, encSt S14_0_e0 (((), (), e.1, ()), ((e.2.1, e.2.2.1, e.2.2.2.1, e.2.2.2.2.1, (e.2.2.2.2.2.1), (e.2.2.2.2.2.2.1), e.2.2.2.2.2.2.2.1, ()), ((), (), (List.map encI3 e.2.2.2.2.2.2.2.2.1), (List.map encI3 e.2.2.2.2.2.2.2.2.2.1), e.2.2.2.2.2.2.2.2.2.2.1, e.2.2.2.2.2.2.2.2.2.2.2.1, e.2.2.2.2.2.2.2.2.2.2.2.2.1, e.2.2.2.2.2.2.2.2.2.2.2.2.2.1, e.2.2.2.2.2.2.2.2.2.2.2.2.2.2.1, e.2.2.2.2.2.2.2.2.2.2.2.2.2.2.2.1, ()), (List.map encI e.2.2.2.2.2.2.2.2.2.2.2.2.2.2.2.2.1), (List.map encI e.2.2.2.2.2.2.2.2.2.2.2.2.2.2.2.2.2), ())))
theorem inj_L_nearest_Search_0 : ∀ a b, enc_L_nearest_Search_0 a = enc_L_nearest_Search_0 b → a = b := by
  rintro ⟨a0, a1, a2, a3, a4, a5, a6, a7, a8, a9, a10, a11, a12, a13, a14, a15, a16, a17⟩ ⟨b0, b1, b2, b3, b4, b5, b6, b7, b8, b9, b10, b11, b12, b13, b14, b15, b16, b17⟩ h
  first | (cases h; done) | (have h2 := encSt_inj rfl (Prod.mk.inj h).2; simp [map_inj encI3_inj, map_inj encI_inj] at h2; simp [h2]) | (have h2 := (Prod.mk.inj h).1; simp at h2) | rfl
noncomputable abbrev X_L_nearest_Search_0 (v10 : Int) (v11 : Bool) (c12 : Int) (c13 : Int) (c14 : Int) (c15 : Int) (c16 : D1) (c17 : D1) (c18 : Int) (c19 : List I3) (c20 : List I3) (c21 : Int) (c22 : Int) (c23 : Int) (c24 : Int) (c25 : Int) (c26 : Int) (es27 : List Int) (es28 : List Int) (n : Nat) : Option (Ex × St) := (lvl Try.prog HH n).1 ⟨14, 0, true⟩ 0 (loopOf Try.f14 0) (encSt S14_0 (((), (), v10, v11, ()), ((c12, c13, c14, c15, (c16), (c17), c18, ()), ((), (), (List.map encI3 c19), (List.map encI3 c20), c21, c22, c23, c24, c25, c26, ()), (List.map encI es27), (List.map encI es28), ())))
noncomputable def L_nearest_Search_0 (v10 : Int) (v11 : Bool) (c12 : Int) (c13 : Int) (c14 : Int) (c15 : Int) (c16 : D1) (c17 : D1) (c18 : Int) (c19 : List I3) (c20 : List I3) (c21 : Int) (c22 : Int) (c23 : Int) (c24 : Int) (c25 : Int) (c26 : Int) (es27 : List Int) (es28 : List Int) : Option E_nearest_Search_0 := den enc_L_nearest_Search_0 (X_L_nearest_Search_0 v10 v11 c12 c13 c14 c15 c16 c17 c18 c19 c20 c21 c22 c23 c24 c25 c26 es27 es28)
theorem L_nearest_Search_0_of (v10 : Int) (v11 : Bool) (c12 : Int) (c13 : Int) (c14 : Int) (c15 : Int) (c16 : D1) (c17 : D1) (c18 : Int) (c19 : List I3) (c20 : List I3) (c21 : Int) (c22 : Int) (c23 : Int) (c24 : Int) (c25 : Int) (c26 : Int) (es27 : List Int) (es28 : List Int) : ∀ r, ((
    bif !v11 then (
      (F_nearest_search_step c19 c20 c21 c22 c23 c24 c25 c26 es27 es28).bind fun y29 =>
      L_nearest_Search_0 y29.1 y29.2.1 c12 c13 c14 c15 c16 c17 c18 y29.2.2.1 y29.2.2.2.1 y29.2.2.2.2.1 y29.2.2.2.2.2.1 y29.2.2.2.2.2.2.1 y29.2.2.2.2.2.2.2.1 y29.2.2.2.2.2.2.2.2.1 y29.2.2.2.2.2.2.2.2.2.1 y29.2.2.2.2.2.2.2.2.2.2.1 y29.2.2.2.2.2.2.2.2.2.2.2)
    else
    some ((v10, c12, c13, c14, c15, c16, c17, c18, c19, c20, c21, c22, c23, c24, c25, c26, es27, es28))) : Option E_nearest_Search_0) = some r →
    L_nearest_Search_0 v10 v11 c12 c13 c14 c15 c16 c17 c18 c19 c20 c21 c22 c23 c24 c25 c26 es27 es28 = some r := fun r h =>
  den_of (x := (X_L_nearest_Search_0 v10 v11 c12 c13 c14 c15 c16 c17 c18 c19 c20 c21 c22 c23 c24 c25 c26 es27 es28)) inj_L_nearest_Search_0 1 (Lim.cong (fun n => loop14_0 n v10 v11 c12 c13 c14 c15 ((c16)) ((c17)) c18 ((List.map encI3 c19)) ((List.map encI3 c20)) c21 c22 c23 c24 c25 c26 ((List.map encI es27)) ((List.map encI es28))) (by
      refine Lim.bif rfl ?_ ?_
      · refine Lim.call o_nearest_search_step (lim_nearest_search_step 0 c19 c20 c21 c22 c23 c24 c25 c26 es27 es28) rfl rfl fun y29 => ?_
        exact Lim.loop 0 rfl
      exact Lim.leaf rfl
    )) h
abbrev o_nearest_Search (v : I4LI_2I) : VtsT outs14 × MtsT mouts14 := (((v.c0, v.c1, v.c2, v.c3, (List.map encI v.c4), (List.map encI v.c5), v.c6, ()), ()), ())
abbrev encO_nearest_Search (v : I4LI_2I) : R := (encR outs14 (o_nearest_Search v).1, encMts mouts14 (o_nearest_Search v).2)
theorem injO_nearest_Search : ∀ a b, encO_nearest_Search a = encO_nearest_Search b → a = b := by
  rintro ⟨a0, a1, a2, a3, a4, a5, a6⟩ ⟨b0, b1, b2, b3, b4, b5, b6⟩ h
  have h1 := encR_inj (Prod.mk.inj h).1
  have h2 := encMts_inj (Prod.mk.inj h).2
  simp [o_nearest_Search, map_inj encI_inj] at h1 h2
  simp [h1, h2]
noncomputable abbrev X_nearest_Search (a1 : List I3) (b2 : List I3) (rho3 : Int) (steps4 : Int) (n : Nat) : Option R := (lvl Try.prog HH n).2 14 [.s (.one (.fr 3 (List.map encI3 a1))), .s (.one (.fr 3 (List.map encI3 b2))), .s (.one (.v (.int .i64 rho3))), .s (.one (.v (.int .i64 steps4)))] []
noncomputable def F_nearest_Search (a1 : List I3) (b2 : List I3) (rho3 : Int) (steps4 : Int) : Option I4LI_2I := den encO_nearest_Search (X_nearest_Search a1 b2 rho3 steps4)
theorem lim_nearest_Search (k : Nat) (a1 : List I3) (b2 : List I3) (rho3 : Int) (steps4 : Int) : Lim (fun v => (encR outs14 (o_nearest_Search v).1, encMts mouts14 (o_nearest_Search v).2)) (fun n => (lvl Try.prog HH (n + k)).2 14 [.s (.one (.fr 3 (List.map encI3 a1))), .s (.one (.fr 3 (List.map encI3 b2))), .s (.one (.v (.int .i64 rho3))), .s (.one (.v (.int .i64 steps4)))] []) (F_nearest_Search a1 b2 rho3 steps4) := Lim.den (x := (X_nearest_Search a1 b2 rho3 steps4)) k
theorem F_nearest_Search_of (a1 : List I3) (b2 : List I3) (rho3 : Int) (steps4 : Int) : ∀ r, ((
    (F_nearest_points a1).bind fun y5 =>
    bif !y5 then (
      some ((I4LI_2I.mk 0 0 0 0 [] [] 0)))
    else
    (F_nearest_points b2).bind fun y6 =>
    bif !y6 then (
      some ((I4LI_2I.mk 0 0 0 0 [] [] 0)))
    else
    bif decide (rho3 < 0) then (
      some ((I4LI_2I.mk 0 0 0 0 [] [] 0)))
    else
    bif decide (rho3 > 2097152) then (
      some ((I4LI_2I.mk 0 0 0 0 [] [] 0)))
    else
    bif decide (steps4 < 0) then (
      some ((I4LI_2I.mk 0 0 0 0 [] [] 0)))
    else
    bif decide (steps4 > 64) then (
      some ((I4LI_2I.mk 0 0 0 0 [] [] 0)))
    else
    (F_nearest_single (((a1.length : Nat) : Int))).bind fun y7 =>
    (F_nearest_single (((b2.length : Nat) : Int))).bind fun y8 =>
    (F_nearest_search_step a1 b2 rho3 steps4 0 0 0 0 y7 y8).bind fun y9 =>
    (L_nearest_Search_0 y9.1 y9.2.1 0 0 0 0 (.v (.slice none 0 0)) (.v (.slice none 0 0)) 0 y9.2.2.1 y9.2.2.2.1 y9.2.2.2.2.1 y9.2.2.2.2.2.1 y9.2.2.2.2.2.2.1 y9.2.2.2.2.2.2.2.1 y9.2.2.2.2.2.2.2.2.1 y9.2.2.2.2.2.2.2.2.2.1 y9.2.2.2.2.2.2.2.2.2.2.1 y9.2.2.2.2.2.2.2.2.2.2.2).bind fun p30 =>
    some ((I4LI_2I.mk p30.1 p30.2.2.2.2.2.2.2.2.2.2.2.2.2.1 p30.2.2.2.2.2.2.2.2.2.2.2.2.2.2.1 p30.2.2.2.2.2.2.2.2.2.2.2.2.2.2.2.1 p30.2.2.2.2.2.2.2.2.2.2.2.2.2.2.2.2.1 p30.2.2.2.2.2.2.2.2.2.2.2.2.2.2.2.2.2 p30.2.2.2.2.2.2.2.2.2.2.2.2.1))) : Option I4LI_2I) = some r →
    F_nearest_Search a1 b2 rho3 steps4 = some r := fun r h =>
  den_of (x := (X_nearest_Search a1 b2 rho3 steps4)) injO_nearest_Search 1 (Lim.cong (fun n => fn14 n ((List.map encI3 a1)) ((List.map encI3 b2)) rho3 steps4) (by
      refine Lim.call o_nearest_points (lim_nearest_points 0 a1) rfl rfl fun y5 => ?_
      refine Lim.bif rfl ?_ ?_
      · exact Lim.leaf (by first | rfl | (simp [o_nearest_Search, map_upd, o_nearest_single, o_nearest_search_step] <;> first | rfl | exact ⟨rfl, rfl⟩))
      refine Lim.call o_nearest_points (lim_nearest_points 0 b2) rfl rfl fun y6 => ?_
      refine Lim.bif rfl ?_ ?_
      · exact Lim.leaf (by first | rfl | (simp [o_nearest_Search, map_upd, o_nearest_single, o_nearest_search_step] <;> first | rfl | exact ⟨rfl, rfl⟩))
      refine Lim.bif rfl ?_ ?_
      · exact Lim.leaf (by first | rfl | (simp [o_nearest_Search, map_upd, o_nearest_single, o_nearest_search_step] <;> first | rfl | exact ⟨rfl, rfl⟩))
      refine Lim.bif rfl ?_ ?_
      · exact Lim.leaf (by first | rfl | (simp [o_nearest_Search, map_upd, o_nearest_single, o_nearest_search_step] <;> first | rfl | exact ⟨rfl, rfl⟩))
      refine Lim.bif rfl ?_ ?_
      · exact Lim.leaf (by first | rfl | (simp [o_nearest_Search, map_upd, o_nearest_single, o_nearest_search_step] <;> first | rfl | exact ⟨rfl, rfl⟩))
      refine Lim.bif rfl ?_ ?_
      · exact Lim.leaf (by first | rfl | (simp [o_nearest_Search, map_upd, o_nearest_single, o_nearest_search_step] <;> first | rfl | exact ⟨rfl, rfl⟩))
      refine Lim.call o_nearest_single (lim_nearest_single 0 (((a1.length : Nat) : Int))) (by first | with_reducible rfl | (simp [map_upd, o_nearest_single, o_nearest_search_step] <;> rfl) | (simp only [List.map_append, List.map_cons, List.map_nil, List.map_take, List.map_drop, map_upd, List.map_replicate, List.length_map, o_nearest_single, o_nearest_search_step] <;> rfl) | (simp only [List.map_append, List.map_cons, List.map_nil, List.map_take, List.map_drop, map_upd, List.map_replicate, List.length_map, List.length_append, List.length_cons, List.length_nil, o_nearest_single, o_nearest_search_step] <;> rfl) | rfl) (by first | with_reducible rfl | (simp [map_upd, o_nearest_single, o_nearest_search_step] <;> rfl) | (simp only [List.map_append, List.map_cons, List.map_nil, List.map_take, List.map_drop, map_upd, List.map_replicate, List.length_map, o_nearest_single, o_nearest_search_step] <;> rfl) | (simp only [List.map_append, List.map_cons, List.map_nil, List.map_take, List.map_drop, map_upd, List.map_replicate, List.length_map, List.length_append, List.length_cons, List.length_nil, o_nearest_single, o_nearest_search_step] <;> rfl) | rfl) fun y7 => ?_
      refine Lim.call o_nearest_single (lim_nearest_single 0 (((b2.length : Nat) : Int))) (by first | with_reducible rfl | (simp [map_upd, o_nearest_single, o_nearest_search_step] <;> rfl) | (simp only [List.map_append, List.map_cons, List.map_nil, List.map_take, List.map_drop, map_upd, List.map_replicate, List.length_map, o_nearest_single, o_nearest_search_step] <;> rfl) | (simp only [List.map_append, List.map_cons, List.map_nil, List.map_take, List.map_drop, map_upd, List.map_replicate, List.length_map, List.length_append, List.length_cons, List.length_nil, o_nearest_single, o_nearest_search_step] <;> rfl) | rfl) (by first | with_reducible rfl | (simp [map_upd, o_nearest_single, o_nearest_search_step] <;> rfl) | (simp only [List.map_append, List.map_cons, List.map_nil, List.map_take, List.map_drop, map_upd, List.map_replicate, List.length_map, o_nearest_single, o_nearest_search_step] <;> rfl) | (simp only [List.map_append, List.map_cons, List.map_nil, List.map_take, List.map_drop, map_upd, List.map_replicate, List.length_map, List.length_append, List.length_cons, List.length_nil, o_nearest_single, o_nearest_search_step] <;> rfl) | rfl) fun y8 => ?_
      refine Lim.call o_nearest_search_step (lim_nearest_search_step 0 a1 b2 rho3 steps4 0 0 0 0 y7 y8) rfl rfl fun y9 => ?_
      refine Lim.bind (show Lim enc_L_nearest_Search_0 _ (L_nearest_Search_0 y9.1 y9.2.1 0 0 0 0 (.v (.slice none 0 0)) (.v (.slice none 0 0)) 0 y9.2.2.1 y9.2.2.2.1 y9.2.2.2.2.1 y9.2.2.2.2.2.1 y9.2.2.2.2.2.2.1 y9.2.2.2.2.2.2.2.1 y9.2.2.2.2.2.2.2.2.1 y9.2.2.2.2.2.2.2.2.2.1 y9.2.2.2.2.2.2.2.2.2.2.1 y9.2.2.2.2.2.2.2.2.2.2.2) from Lim.loop 0 rfl) fun p30 => ?_
      refine Lim.exit (.exit 0) S14_0_e0 (((), (), p30.1, ()), ((p30.2.1, p30.2.2.1, p30.2.2.2.1, p30.2.2.2.2.1, (p30.2.2.2.2.2.1), (p30.2.2.2.2.2.2.1), p30.2.2.2.2.2.2.2.1, ()), ((), (), (List.map encI3 p30.2.2.2.2.2.2.2.2.1), (List.map encI3 p30.2.2.2.2.2.2.2.2.2.1), p30.2.2.2.2.2.2.2.2.2.2.1, p30.2.2.2.2.2.2.2.2.2.2.2.1, p30.2.2.2.2.2.2.2.2.2.2.2.2.1, p30.2.2.2.2.2.2.2.2.2.2.2.2.2.1, p30.2.2.2.2.2.2.2.2.2.2.2.2.2.2.1, p30.2.2.2.2.2.2.2.2.2.2.2.2.2.2.2.1, ()), (List.map encI p30.2.2.2.2.2.2.2.2.2.2.2.2.2.2.2.2.1), (List.map encI p30.2.2.2.2.2.2.2.2.2.2.2.2.2.2.2.2.2), ())) rfl rfl rfl ?_
      exact Lim.leaf rfl
    )) h

/-! armplan/armplanref1.Clamp -/
abbrev o_ref1_Clamp (v : Int) : VtsT outs74 × MtsT mouts74 := ((v, ()), ())
abbrev encO_ref1_Clamp (v : Int) : R := (encR outs74 (o_ref1_Clamp v).1, encMts mouts74 (o_ref1_Clamp v).2)
theorem injO_ref1_Clamp : ∀ a b, encO_ref1_Clamp a = encO_ref1_Clamp b → a = b := by
  rintro a0 b0 h
  have h1 := encR_inj (Prod.mk.inj h).1
  have h2 := encMts_inj (Prod.mk.inj h).2
  simp [o_ref1_Clamp] at h1 h2
  simp [h1, h2]
noncomputable abbrev X_ref1_Clamp (a1 : Int) (n : Nat) : Option R := (lvl Try.prog HH n).2 74 [.s (.one (.v (.int .i64 a1)))] []
noncomputable def F_ref1_Clamp (a1 : Int) : Option Int := den encO_ref1_Clamp (X_ref1_Clamp a1)
theorem lim_ref1_Clamp (k : Nat) (a1 : Int) : Lim (fun v => (encR outs74 (o_ref1_Clamp v).1, encMts mouts74 (o_ref1_Clamp v).2)) (fun n => (lvl Try.prog HH (n + k)).2 74 [.s (.one (.v (.int .i64 a1)))] []) (F_ref1_Clamp a1) := Lim.den (x := (X_ref1_Clamp a1)) k
theorem F_ref1_Clamp_of (a1 : Int) : ∀ r, ((
    letIn (if 2147483648 < a1 then 2147483648 else a1 : Int) fun n2 =>
    letIn (if n2 > (-2147483648) then n2 else (-2147483648) : Int) fun n3 =>
    some n3) : Option Int) = some r →
    F_ref1_Clamp a1 = some r := fun r h =>
  den_of (x := (X_ref1_Clamp a1)) injO_ref1_Clamp 1 (Lim.cong (fun n => fn74 n a1) (by
      refine Lim.letIn rfl fun n2 => ?_
      refine Lim.letIn rfl fun n3 => ?_
      exact Lim.leaf rfl
    )) h
def G_ref1_Clamp (a1 : Int) : Int :=
  letIn (if 2147483648 < a1 then 2147483648 else a1 : Int) fun n2 =>
  letIn (if n2 > (-2147483648) then n2 else (-2147483648) : Int) fun n3 =>
  n3
theorem F_ref1_Clamp_eq (a1 : Int) : F_ref1_Clamp a1 = some (G_ref1_Clamp a1) := F_ref1_Clamp_of a1 _ (by
  unfold G_ref1_Clamp
  refine Tot.letIn fun n2 => ?_
  refine Tot.letIn fun n3 => ?_
  rfl)

/-! armplan/armplanref1.Of -/
abbrev o_ref1_Of (v : I2) : VtsT outs60 × MtsT mouts60 := (((v.c0, v.c1, ()), ()), ())
abbrev encO_ref1_Of (v : I2) : R := (encR outs60 (o_ref1_Of v).1, encMts mouts60 (o_ref1_Of v).2)
theorem injO_ref1_Of : ∀ a b, encO_ref1_Of a = encO_ref1_Of b → a = b := by
  rintro ⟨a0, a1⟩ ⟨b0, b1⟩ h
  have h1 := encR_inj (Prod.mk.inj h).1
  have h2 := encMts_inj (Prod.mk.inj h).2
  simp [o_ref1_Of] at h1 h2
  simp [h1, h2]
noncomputable abbrev X_ref1_Of (x1 : Int) (n : Nat) : Option R := (lvl Try.prog HH n).2 60 [.s (.one (.v (.int .i64 x1)))] []
noncomputable def F_ref1_Of (x1 : Int) : Option I2 := den encO_ref1_Of (X_ref1_Of x1)
theorem lim_ref1_Of (k : Nat) (x1 : Int) : Lim (fun v => (encR outs60 (o_ref1_Of v).1, encMts mouts60 (o_ref1_Of v).2)) (fun n => (lvl Try.prog HH (n + k)).2 60 [.s (.one (.v (.int .i64 x1)))] []) (F_ref1_Of x1) := Lim.den (x := (X_ref1_Of x1)) k
theorem F_ref1_Of_of (x1 : Int) : ∀ r, ((
    (F_ref1_Clamp x1).bind fun y2 =>
    (F_ref1_Clamp x1).bind fun y3 =>
    some ((I2.mk y2 y3))) : Option I2) = some r →
    F_ref1_Of x1 = some r := fun r h =>
  den_of (x := (X_ref1_Of x1)) injO_ref1_Of 1 (Lim.cong (fun n => fn60 n x1) (by
      refine Lim.call o_ref1_Clamp (lim_ref1_Clamp 0 x1) rfl rfl fun y2 => ?_
      refine Lim.call o_ref1_Clamp (lim_ref1_Clamp 0 x1) rfl rfl fun y3 => ?_
      exact Lim.leaf rfl
    )) h
def G_ref1_Of (x1 : Int) : I2 :=
  letIn (G_ref1_Clamp x1) fun y2 =>
  letIn (G_ref1_Clamp x1) fun y3 =>
  ((I2.mk y2 y3))
theorem F_ref1_Of_eq (x1 : Int) : F_ref1_Of x1 = some (G_ref1_Of x1) := F_ref1_Of_of x1 _ (by
  unfold G_ref1_Of
  refine Tot.bind (F_ref1_Clamp_eq x1) fun y2 => ?_
  refine Tot.bind (F_ref1_Clamp_eq x1) fun y3 => ?_
  rfl)

/-! armplan/armplanref1.Point -/
abbrev o_ref1_Point (v : I6) : VtsT outs33 × MtsT mouts33 := (((v.c0, v.c1, v.c2, v.c3, v.c4, v.c5, ()), ()), ())
abbrev encO_ref1_Point (v : I6) : R := (encR outs33 (o_ref1_Point v).1, encMts mouts33 (o_ref1_Point v).2)
theorem injO_ref1_Point : ∀ a b, encO_ref1_Point a = encO_ref1_Point b → a = b := by
  rintro ⟨a0, a1, a2, a3, a4, a5⟩ ⟨b0, b1, b2, b3, b4, b5⟩ h
  have h1 := encR_inj (Prod.mk.inj h).1
  have h2 := encMts_inj (Prod.mk.inj h).2
  simp [o_ref1_Point] at h1 h2
  simp [h1, h2]
noncomputable abbrev X_ref1_Point (v1 : I3) (n : Nat) : Option R := (lvl Try.prog HH n).2 33 [.s (.agg true [.v (.int .i64 v1.c0), .v (.int .i64 v1.c1), .v (.int .i64 v1.c2)])] []
noncomputable def F_ref1_Point (v1 : I3) : Option I6 := den encO_ref1_Point (X_ref1_Point v1)
theorem lim_ref1_Point (k : Nat) (v1 : I3) : Lim (fun v => (encR outs33 (o_ref1_Point v).1, encMts mouts33 (o_ref1_Point v).2)) (fun n => (lvl Try.prog HH (n + k)).2 33 [.s (.agg true [.v (.int .i64 v1.c0), .v (.int .i64 v1.c1), .v (.int .i64 v1.c2)])] []) (F_ref1_Point v1) := Lim.den (x := (X_ref1_Point v1)) k
theorem F_ref1_Point_of (v1 : I3) : ∀ r, ((
    (F_ref1_Of v1.c0).bind fun y2 =>
    (F_ref1_Of v1.c1).bind fun y3 =>
    (F_ref1_Of v1.c2).bind fun y4 =>
    some ((I6.mk y2.c0 y2.c1 y3.c0 y3.c1 y4.c0 y4.c1))) : Option I6) = some r →
    F_ref1_Point v1 = some r := fun r h =>
  den_of (x := (X_ref1_Point v1)) injO_ref1_Point 1 (Lim.cong (fun n => fn33 n v1.c0 v1.c1 v1.c2) (by
      refine Lim.call o_ref1_Of (lim_ref1_Of 0 v1.c0) rfl rfl fun y2 => ?_
      refine Lim.call o_ref1_Of (lim_ref1_Of 0 v1.c1) rfl rfl fun y3 => ?_
      refine Lim.call o_ref1_Of (lim_ref1_Of 0 v1.c2) rfl rfl fun y4 => ?_
      exact Lim.leaf rfl
    )) h
def G_ref1_Point (v1 : I3) : I6 :=
  letIn (G_ref1_Of v1.c0) fun y2 =>
  letIn (G_ref1_Of v1.c1) fun y3 =>
  letIn (G_ref1_Of v1.c2) fun y4 =>
  ((I6.mk y2.c0 y2.c1 y3.c0 y3.c1 y4.c0 y4.c1))
theorem F_ref1_Point_eq (v1 : I3) : F_ref1_Point v1 = some (G_ref1_Point v1) := F_ref1_Point_of v1 _ (by
  unfold G_ref1_Point
  refine Tot.bind (F_ref1_Of_eq v1.c0) fun y2 => ?_
  refine Tot.bind (F_ref1_Of_eq v1.c1) fun y3 => ?_
  refine Tot.bind (F_ref1_Of_eq v1.c2) fun y4 => ?_
  rfl)

/-! armplan/armplanmake.Boxed -/
abbrev E_make_Boxed_0 : Type := ((List I6))
def enc_L_make_Boxed_0 (e : E_make_Boxed_0) : Ex × St := (.exit 0, encSt S17_0_e0 (((), ()), ((List.map encI6 e), ())))
theorem inj_L_make_Boxed_0 : ∀ a b, enc_L_make_Boxed_0 a = enc_L_make_Boxed_0 b → a = b := by
  rintro a0 b0 h
  first | (cases h; done) | (have h2 := encSt_inj rfl (Prod.mk.inj h).2; simp [map_inj encI6_inj] at h2; simp [h2]) | (have h2 := (Prod.mk.inj h).1; simp at h2) | rfl
noncomputable abbrev X_L_make_Boxed_0 (v2 : List I3) (v3 : Int) (es4 : List I6) (n : Nat) : Option (Ex × St) := (lvl Try.prog HH n).1 ⟨17, 0, true⟩ 0 (loopOf Try.f17 0) (encSt S17_0 (((List.map encI3 v2), (), v3, ()), ((List.map encI6 es4), ())))
noncomputable def L_make_Boxed_0 (v2 : List I3) (v3 : Int) (es4 : List I6) : Option E_make_Boxed_0 := den enc_L_make_Boxed_0 (X_L_make_Boxed_0 v2 v3 es4)
theorem L_make_Boxed_0_of (v2 : List I3) (v3 : Int) (es4 : List I6) : ∀ r, ((
    bif decide (v3 < (((v2.length : Nat) : Int))) then (
      bif decide (0 ≤ v3) then (
        (nth v2 v3.toNat).bind fun x5 =>
        (F_ref1_Point x5).bind fun y6 =>
        bif decide ((es4.length + 1) * 48 ≤ 140737488355328) then (
          letIn (IntKind.wrap .i64 (v3 + 1) : Int) fun n7 =>
          L_make_Boxed_0 v2 n7 (es4 ++ [y6]))
        else
        none)
      else
      none)
    else
    some es4) : Option E_make_Boxed_0) = some r →
    L_make_Boxed_0 v2 v3 es4 = some r := fun r h =>
  den_of (x := (X_L_make_Boxed_0 v2 v3 es4)) inj_L_make_Boxed_0 1 (Lim.cong (fun n => loop17_0 n ((List.map encI3 v2)) v3 ((List.map encI6 es4))) (by
      refine Lim.bif (by first | with_reducible rfl | (simp [map_upd, o_ref1_Point] <;> rfl) | (simp only [List.map_append, List.map_cons, List.map_nil, List.map_take, List.map_drop, map_upd, List.map_replicate, List.length_map, o_ref1_Point] <;> rfl) | (simp only [List.map_append, List.map_cons, List.map_nil, List.map_take, List.map_drop, map_upd, List.map_replicate, List.length_map, List.length_append, List.length_cons, List.length_nil, o_ref1_Point] <;> rfl) | rfl) ?_ ?_
      · refine Lim.bif rfl ?_ Lim.none_
        refine Lim.nth encI3 rfl rfl fun x5 => ?_
        refine Lim.bifT rfl ?_
        refine Lim.decC (x5.c0, x5.c1, x5.c2, ()) rfl ?_
        refine Lim.call o_ref1_Point (lim_ref1_Point 0 x5) rfl rfl fun y6 => ?_
        refine Lim.bif (by first | with_reducible rfl | (simp [map_upd, o_ref1_Point] <;> rfl) | (simp only [List.map_append, List.map_cons, List.map_nil, List.map_take, List.map_drop, map_upd, List.map_replicate, List.length_map, o_ref1_Point] <;> rfl) | (simp only [List.map_append, List.map_cons, List.map_nil, List.map_take, List.map_drop, map_upd, List.map_replicate, List.length_map, List.length_append, List.length_cons, List.length_nil, o_ref1_Point] <;> rfl) | rfl) ?_ Lim.none_
        refine Lim.letIn rfl fun n7 => ?_
        exact Lim.loop 0 (by first | with_reducible rfl | (simp [map_upd, o_ref1_Point] <;> rfl) | (simp only [List.map_append, List.map_cons, List.map_nil, List.map_take, List.map_drop, map_upd, List.map_replicate, List.length_map, o_ref1_Point] <;> rfl) | (simp only [List.map_append, List.map_cons, List.map_nil, List.map_take, List.map_drop, map_upd, List.map_replicate, List.length_map, List.length_append, List.length_cons, List.length_nil, o_ref1_Point] <;> rfl) | rfl)
      exact Lim.leaf rfl
    )) h
abbrev o_make_Boxed (v : (List I6)) : VtsT outs17 × MtsT mouts17 := (((List.map encI6 v), ()), ())
abbrev encO_make_Boxed (v : (List I6)) : R := (encR outs17 (o_make_Boxed v).1, encMts mouts17 (o_make_Boxed v).2)
theorem injO_make_Boxed : ∀ a b, encO_make_Boxed a = encO_make_Boxed b → a = b := by
  rintro a0 b0 h
  have h1 := encR_inj (Prod.mk.inj h).1
  have h2 := encMts_inj (Prod.mk.inj h).2
  simp [o_make_Boxed, map_inj encI6_inj] at h1 h2
  simp [h1, h2]
noncomputable abbrev X_make_Boxed (l1 : List I3) (n : Nat) : Option R := (lvl Try.prog HH n).2 17 [.s (.one (.fr 3 (List.map encI3 l1)))] []
noncomputable def F_make_Boxed (l1 : List I3) : Option ((List I6)) := den encO_make_Boxed (X_make_Boxed l1)
theorem lim_make_Boxed (k : Nat) (l1 : List I3) : Lim (fun v => (encR outs17 (o_make_Boxed v).1, encMts mouts17 (o_make_Boxed v).2)) (fun n => (lvl Try.prog HH (n + k)).2 17 [.s (.one (.fr 3 (List.map encI3 l1)))] []) (F_make_Boxed l1) := Lim.den (x := (X_make_Boxed l1)) k
theorem F_make_Boxed_of (l1 : List I3) : ∀ r, ((
    (L_make_Boxed_0 l1 0 []).bind fun p8 =>
    some p8) : Option ((List I6))) = some r →
    F_make_Boxed l1 = some r := fun r h =>
  den_of (x := (X_make_Boxed l1)) injO_make_Boxed 1 (Lim.cong (fun n => fn17 n ((List.map encI3 l1))) (by
      refine Lim.bind (show Lim enc_L_make_Boxed_0 _ (L_make_Boxed_0 l1 0 []) from Lim.loop 0 (by first | with_reducible rfl | (simp [map_upd, o_ref1_Point] <;> rfl) | (simp only [List.map_append, List.map_cons, List.map_nil, List.map_take, List.map_drop, map_upd, List.map_replicate, List.length_map, o_ref1_Point] <;> rfl) | (simp only [List.map_append, List.map_cons, List.map_nil, List.map_take, List.map_drop, map_upd, List.map_replicate, List.length_map, List.length_append, List.length_cons, List.length_nil, o_ref1_Point] <;> rfl) | rfl)) fun p8 => ?_
      refine Lim.exit (.exit 0) S17_0_e0 (((), ()), ((List.map encI6 p8), ())) rfl rfl rfl ?_
      exact Lim.leaf rfl
    )) h

/-! armplan/armplanref6.Near -/
abbrev E_ref6_Near_0 : Type := (Bool) ⊕ (Unit)
def enc_L_ref6_Near_0 : E_ref6_Near_0 → Ex × St
  | .inl e => (.ret, encSt S58_0_r ((e, ()), ()))
  | .inr e => (.exit 0, encSt S58_0_e0 ((), ()))
theorem inj_L_ref6_Near_0 : ∀ a b, enc_L_ref6_Near_0 a = enc_L_ref6_Near_0 b → a = b := by
  rintro (a0 | _) (b0 | _) h <;> (first | (cases h; done) | (have h2 := encSt_inj rfl (Prod.mk.inj h).2; simp [] at h2; simp [h2]) | (have h2 := (Prod.mk.inj h).1; simp at h2) | rfl)
abbrev o_ref6_Near (v : Bool) : VtsT outs58 × MtsT mouts58 := ((v, ()), ())
abbrev encO_ref6_Near (v : Bool) : R := (encR outs58 (o_ref6_Near v).1, encMts mouts58 (o_ref6_Near v).2)
theorem injO_ref6_Near : ∀ a b, encO_ref6_Near a = encO_ref6_Near b → a = b := by
  rintro a0 b0 h
  have h1 := encR_inj (Prod.mk.inj h).1
  have h2 := encMts_inj (Prod.mk.inj h).2
  simp [o_ref6_Near] at h1 h2
  simp [h1, h2]
noncomputable abbrev X_ref6_Near (v1 : I3) (most2 : Int) (n : Nat) : Option R := (lvl Try.prog HH n).2 58 [.s (.agg true [.v (.int .i64 v1.c0), .v (.int .i64 v1.c1), .v (.int .i64 v1.c2)]), .s (.one (.v (.int .i64 most2)))] []
noncomputable def F_ref6_Near (v1 : I3) (most2 : Int) : Option Bool := den encO_ref6_Near (X_ref6_Near v1 most2)
theorem lim_ref6_Near (k : Nat) (v1 : I3) (most2 : Int) : Lim (fun v => (encR outs58 (o_ref6_Near v).1, encMts mouts58 (o_ref6_Near v).2)) (fun n => (lvl Try.prog HH (n + k)).2 58 [.s (.agg true [.v (.int .i64 v1.c0), .v (.int .i64 v1.c1), .v (.int .i64 v1.c2)]), .s (.one (.v (.int .i64 most2)))] []) (F_ref6_Near v1 most2) := Lim.den (x := (X_ref6_Near v1 most2)) k
theorem F_ref6_Near_of (v1 : I3) (most2 : Int) : ∀ r, ((
    Option.bind (α := E_ref6_Near_0) (
      letIn (IntKind.wrap .i64 (0 - most2) : Int) fun n3 =>
      bif decide (v1.c0 < n3) then (
        some (.inl false))
      else
      bif decide (v1.c0 > most2) then (
        some (.inl false))
      else
      letIn (IntKind.wrap .i64 (0 - most2) : Int) fun n4 =>
      bif decide (v1.c1 < n4) then (
        some (.inl false))
      else
      bif decide (v1.c1 > most2) then (
        some (.inl false))
      else
      letIn (IntKind.wrap .i64 (0 - most2) : Int) fun n5 =>
      bif decide (v1.c2 < n5) then (
        some (.inl false))
      else
      bif decide (v1.c2 > most2) then (
        some (.inl false))
      else
      some (.inr (()))) fun p6 =>
    match p6 with
    | .inl e7 => (
      some e7)
    | .inr e8 => (
      some true)) : Option Bool) = some r →
    F_ref6_Near v1 most2 = some r := fun r h =>
  den_of (x := (X_ref6_Near v1 most2)) injO_ref6_Near 5 (Lim.cong (fun n => fn58 n v1.c0 v1.c1 v1.c2 most2) (by
      refine Lim.bind (e := enc_L_ref6_Near_0) ?_ fun p6 => ?_
      · refine Lim.letIn rfl fun n3 => ?_
        refine Lim.bif rfl ?_ ?_
        · exact Lim.leaf rfl
        refine Lim.bif rfl ?_ ?_
        · exact Lim.leaf rfl
        refine Lim.letIn rfl fun n4 => ?_
        refine Lim.bif rfl ?_ ?_
        · exact Lim.leaf rfl
        refine Lim.bif rfl ?_ ?_
        · exact Lim.leaf rfl
        refine Lim.letIn rfl fun n5 => ?_
        refine Lim.bif rfl ?_ ?_
        · exact Lim.leaf rfl
        refine Lim.bif rfl ?_ ?_
        · exact Lim.leaf rfl
        exact Lim.leaf rfl
      rcases p6 with e7 | e8
      · refine Lim.exit (.ret) S58_0_r ((e7, ()), ()) rfl rfl rfl ?_
        exact Lim.leaf rfl
      · refine Lim.bifF rfl ?_
        refine Lim.exit (.exit 0) S58_0_e0 ((), ()) rfl rfl rfl ?_
        exact Lim.leaf rfl
    )) h
def G_ref6_Near (v1 : I3) (most2 : Int) : Bool :=
  letIn (α := E_ref6_Near_0) (
    letIn (IntKind.wrap .i64 (0 - most2) : Int) fun n3 =>
    bif decide (v1.c0 < n3) then (
      (.inl false))
    else
    bif decide (v1.c0 > most2) then (
      (.inl false))
    else
    letIn (IntKind.wrap .i64 (0 - most2) : Int) fun n4 =>
    bif decide (v1.c1 < n4) then (
      (.inl false))
    else
    bif decide (v1.c1 > most2) then (
      (.inl false))
    else
    letIn (IntKind.wrap .i64 (0 - most2) : Int) fun n5 =>
    bif decide (v1.c2 < n5) then (
      (.inl false))
    else
    bif decide (v1.c2 > most2) then (
      (.inl false))
    else
    (.inr (()))) fun p6 =>
  match p6 with
  | .inl e7 => (
    e7)
  | .inr e8 => (
    true)
theorem F_ref6_Near_eq (v1 : I3) (most2 : Int) : F_ref6_Near v1 most2 = some (G_ref6_Near v1 most2) := F_ref6_Near_of v1 most2 _ (by
  unfold G_ref6_Near
  refine Tot.bind ?_ fun p6 => ?_
  · refine Tot.letIn fun n3 => ?_
    refine Tot.bif ?_ ?_
    · rfl
    refine Tot.bif ?_ ?_
    · rfl
    refine Tot.letIn fun n4 => ?_
    refine Tot.bif ?_ ?_
    · rfl
    refine Tot.bif ?_ ?_
    · rfl
    refine Tot.letIn fun n5 => ?_
    refine Tot.bif ?_ ?_
    · rfl
    refine Tot.bif ?_ ?_
    · rfl
    rfl
  rcases p6 with e7 | e8
  · rfl
  · rfl)

/-! armplan/armplanref10.Usable -/
abbrev o_ref10_Usable (v : Bool) : VtsT outs30 × MtsT mouts30 := ((v, ()), ())
abbrev encO_ref10_Usable (v : Bool) : R := (encR outs30 (o_ref10_Usable v).1, encMts mouts30 (o_ref10_Usable v).2)
theorem injO_ref10_Usable : ∀ a b, encO_ref10_Usable a = encO_ref10_Usable b → a = b := by
  rintro a0 b0 h
  have h1 := encR_inj (Prod.mk.inj h).1
  have h2 := encMts_inj (Prod.mk.inj h).2
  simp [o_ref10_Usable] at h1 h2
  simp [h1, h2]
noncomputable abbrev X_ref10_Usable (n1 : I3) (n : Nat) : Option R := (lvl Try.prog HH n).2 30 [.s (.agg true [.v (.int .i64 n1.c0), .v (.int .i64 n1.c1), .v (.int .i64 n1.c2)])] []
noncomputable def F_ref10_Usable (n1 : I3) : Option Bool := den encO_ref10_Usable (X_ref10_Usable n1)
theorem lim_ref10_Usable (k : Nat) (n1 : I3) : Lim (fun v => (encR outs30 (o_ref10_Usable v).1, encMts mouts30 (o_ref10_Usable v).2)) (fun n => (lvl Try.prog HH (n + k)).2 30 [.s (.agg true [.v (.int .i64 n1.c0), .v (.int .i64 n1.c1), .v (.int .i64 n1.c2)])] []) (F_ref10_Usable n1) := Lim.den (x := (X_ref10_Usable n1)) k
theorem F_ref10_Usable_of (n1 : I3) : ∀ r, ((
    letIn (!((n1.c0 == 0) && ((n1.c1 == 0) && ((n1.c2 == 0) && true))) : Bool) fun b2 =>
    bif b2 then (
      (F_ref6_Near n1 16384).bind fun y3 =>
      some y3)
    else
    some false) : Option Bool) = some r →
    F_ref10_Usable n1 = some r := fun r h =>
  den_of (x := (X_ref10_Usable n1)) injO_ref10_Usable 1 (Lim.cong (fun n => fn30 n n1.c0 n1.c1 n1.c2) (by
      refine Lim.letIn rfl fun b2 => ?_
      refine Lim.bif rfl ?_ ?_
      · refine Lim.call o_ref6_Near (lim_ref6_Near 0 n1 16384) rfl rfl fun y3 => ?_
        exact Lim.leaf rfl
      exact Lim.leaf rfl
    )) h
def G_ref10_Usable (n1 : I3) : Bool :=
  letIn (!((n1.c0 == 0) && ((n1.c1 == 0) && ((n1.c2 == 0) && true))) : Bool) fun b2 =>
  bif b2 then (
    letIn (G_ref6_Near n1 16384) fun y3 =>
    y3)
  else
  false
theorem F_ref10_Usable_eq (n1 : I3) : F_ref10_Usable n1 = some (G_ref10_Usable n1) := F_ref10_Usable_of n1 _ (by
  unfold G_ref10_Usable
  refine Tot.letIn fun b2 => ?_
  refine Tot.bif ?_ ?_
  · refine Tot.bind (F_ref6_Near_eq n1 16384) fun y3 => ?_
    rfl
  rfl)

/-! armplan/armplanref10.reached -/
abbrev E_ref10_reached_0 : Type := (Bool) ⊕ (Unit)
def enc_L_ref10_reached_0 : E_ref10_reached_0 → Ex × St
  | .inl e => (.ret, encSt S59_0_r ((e, ()), ()))
  | .inr e => (.exit 0, encSt S59_0_e0 ((), ()))
theorem inj_L_ref10_reached_0 : ∀ a b, enc_L_ref10_reached_0 a = enc_L_ref10_reached_0 b → a = b := by
  rintro (a0 | _) (b0 | _) h <;> (first | (cases h; done) | (have h2 := encSt_inj rfl (Prod.mk.inj h).2; simp [] at h2; simp [h2]) | (have h2 := (Prod.mk.inj h).1; simp at h2) | rfl)
abbrev o_ref10_reached (v : Bool) : VtsT outs59 × MtsT mouts59 := ((v, ()), ())
abbrev encO_ref10_reached (v : Bool) : R := (encR outs59 (o_ref10_reached v).1, encMts mouts59 (o_ref10_reached v).2)
theorem injO_ref10_reached : ∀ a b, encO_ref10_reached a = encO_ref10_reached b → a = b := by
  rintro a0 b0 h
  have h1 := encR_inj (Prod.mk.inj h).1
  have h2 := encMts_inj (Prod.mk.inj h).2
  simp [o_ref10_reached] at h1 h2
  simp [h1, h2]
noncomputable abbrev X_ref10_reached (v1 : I6) (n : Nat) : Option R := (lvl Try.prog HH n).2 59 [.s (.agg true [.v (.int .i64 v1.c0), .v (.int .i64 v1.c1), .v (.int .i64 v1.c2), .v (.int .i64 v1.c3), .v (.int .i64 v1.c4), .v (.int .i64 v1.c5)])] []
noncomputable def F_ref10_reached (v1 : I6) : Option Bool := den encO_ref10_reached (X_ref10_reached v1)
theorem lim_ref10_reached (k : Nat) (v1 : I6) : Lim (fun v => (encR outs59 (o_ref10_reached v).1, encMts mouts59 (o_ref10_reached v).2)) (fun n => (lvl Try.prog HH (n + k)).2 59 [.s (.agg true [.v (.int .i64 v1.c0), .v (.int .i64 v1.c1), .v (.int .i64 v1.c2), .v (.int .i64 v1.c3), .v (.int .i64 v1.c4), .v (.int .i64 v1.c5)])] []) (F_ref10_reached v1) := Lim.den (x := (X_ref10_reached v1)) k
theorem F_ref10_reached_of (v1 : I6) : ∀ r, ((
    Option.bind (α := E_ref10_reached_0) (
      bif decide (v1.c0 < (-268435456)) then (
        some (.inl false))
      else
      bif decide (v1.c0 > v1.c1) then (
        some (.inl false))
      else
      bif decide (v1.c1 > 268435456) then (
        some (.inl false))
      else
      bif decide (v1.c2 < (-268435456)) then (
        some (.inl false))
      else
      bif decide (v1.c2 > v1.c3) then (
        some (.inl false))
      else
      bif decide (v1.c3 > 268435456) then (
        some (.inl false))
      else
      bif decide (v1.c4 < (-268435456)) then (
        some (.inl false))
      else
      bif decide (v1.c4 > v1.c5) then (
        some (.inl false))
      else
      bif decide (v1.c5 > 268435456) then (
        some (.inl false))
      else
      some (.inr (()))) fun p2 =>
    match p2 with
    | .inl e3 => (
      some e3)
    | .inr e4 => (
      some true)) : Option Bool) = some r →
    F_ref10_reached v1 = some r := fun r h =>
  den_of (x := (X_ref10_reached v1)) injO_ref10_reached 5 (Lim.cong (fun n => fn59 n v1.c0 v1.c1 v1.c2 v1.c3 v1.c4 v1.c5) (by
      refine Lim.bind (e := enc_L_ref10_reached_0) ?_ fun p2 => ?_
      · refine Lim.bif rfl ?_ ?_
        · exact Lim.leaf rfl
        refine Lim.bif rfl ?_ ?_
        · exact Lim.leaf rfl
        refine Lim.bif rfl ?_ ?_
        · exact Lim.leaf rfl
        refine Lim.bif rfl ?_ ?_
        · exact Lim.leaf rfl
        refine Lim.bif rfl ?_ ?_
        · exact Lim.leaf rfl
        refine Lim.bif rfl ?_ ?_
        · exact Lim.leaf rfl
        refine Lim.bif rfl ?_ ?_
        · exact Lim.leaf rfl
        refine Lim.bif rfl ?_ ?_
        · exact Lim.leaf rfl
        refine Lim.bif rfl ?_ ?_
        · exact Lim.leaf rfl
        exact Lim.leaf rfl
      rcases p2 with e3 | e4
      · refine Lim.exit (.ret) S59_0_r ((e3, ()), ()) rfl rfl rfl ?_
        exact Lim.leaf rfl
      · refine Lim.bifF rfl ?_
        refine Lim.exit (.exit 0) S59_0_e0 ((), ()) rfl rfl rfl ?_
        exact Lim.leaf rfl
    )) h
def G_ref10_reached (v1 : I6) : Bool :=
  letIn (α := E_ref10_reached_0) (
    bif decide (v1.c0 < (-268435456)) then (
      (.inl false))
    else
    bif decide (v1.c0 > v1.c1) then (
      (.inl false))
    else
    bif decide (v1.c1 > 268435456) then (
      (.inl false))
    else
    bif decide (v1.c2 < (-268435456)) then (
      (.inl false))
    else
    bif decide (v1.c2 > v1.c3) then (
      (.inl false))
    else
    bif decide (v1.c3 > 268435456) then (
      (.inl false))
    else
    bif decide (v1.c4 < (-268435456)) then (
      (.inl false))
    else
    bif decide (v1.c4 > v1.c5) then (
      (.inl false))
    else
    bif decide (v1.c5 > 268435456) then (
      (.inl false))
    else
    (.inr (()))) fun p2 =>
  match p2 with
  | .inl e3 => (
    e3)
  | .inr e4 => (
    true)
theorem F_ref10_reached_eq (v1 : I6) : F_ref10_reached v1 = some (G_ref10_reached v1) := F_ref10_reached_of v1 _ (by
  unfold G_ref10_reached
  refine Tot.bind ?_ fun p2 => ?_
  · refine Tot.bif ?_ ?_
    · rfl
    refine Tot.bif ?_ ?_
    · rfl
    refine Tot.bif ?_ ?_
    · rfl
    refine Tot.bif ?_ ?_
    · rfl
    refine Tot.bif ?_ ?_
    · rfl
    refine Tot.bif ?_ ?_
    · rfl
    refine Tot.bif ?_ ?_
    · rfl
    refine Tot.bif ?_ ?_
    · rfl
    refine Tot.bif ?_ ?_
    · rfl
    rfl
  rcases p2 with e3 | e4
  · rfl
  · rfl)

/-! armplan/armplanref10.Placed -/
abbrev E_ref10_Placed_0 : Type := (Bool) ⊕ ((List I6))
def enc_L_ref10_Placed_0 : E_ref10_Placed_0 → Ex × St
  | .inl e => (.ret, encSt S31_0_r ((e, ()), ()))
  | .inr e => (.exit 0, encSt S31_0_e0 (((List.map encI6 e), ()), ()))
theorem inj_L_ref10_Placed_0 : ∀ a b, enc_L_ref10_Placed_0 a = enc_L_ref10_Placed_0 b → a = b := by
  rintro (a0 | a0) (b0 | b0) h <;> (first | (cases h; done) | (have h2 := encSt_inj rfl (Prod.mk.inj h).2; simp [map_inj encI6_inj] at h2; simp [h2]) | (have h2 := (Prod.mk.inj h).1; simp at h2) | rfl)
noncomputable abbrev X_L_ref10_Placed_0 (v2 : List I6) (v3 : Int) (n : Nat) : Option (Ex × St) := (lvl Try.prog HH n).1 ⟨31, 0, true⟩ 0 (loopOf Try.f31 0) (encSt S31_0 (((List.map encI6 v2), v3, ()), ()))
noncomputable def L_ref10_Placed_0 (v2 : List I6) (v3 : Int) : Option E_ref10_Placed_0 := den enc_L_ref10_Placed_0 (X_L_ref10_Placed_0 v2 v3)
theorem L_ref10_Placed_0_of (v2 : List I6) (v3 : Int) : ∀ r, ((
    bif decide (v3 < (((v2.length : Nat) : Int))) then (
      bif decide (v3 ≤ 8) then (
        bif decide (0 ≤ v3) then (
          (nth v2 v3.toNat).bind fun x4 =>
          (F_ref10_reached x4).bind fun y5 =>
          bif !y5 then (
            some (.inl false))
          else
          letIn (IntKind.wrap .i64 (v3 + 1) : Int) fun n6 =>
          L_ref10_Placed_0 v2 n6)
        else
        none)
      else
      some (.inr v2))
    else
    some (.inr v2)) : Option E_ref10_Placed_0) = some r →
    L_ref10_Placed_0 v2 v3 = some r := fun r h =>
  den_of (x := (X_L_ref10_Placed_0 v2 v3)) inj_L_ref10_Placed_0 1 (Lim.cong (fun n => loop31_0 n ((List.map encI6 v2)) v3) (by
      refine Lim.bif (by first | with_reducible rfl | (simp only [List.map_replicate, map_upd]; rfl) | (simp [map_upd] <;> rfl) | rfl) ?_ ?_
      · refine Lim.bif rfl ?_ ?_
        · refine Lim.bif rfl ?_ Lim.none_
          refine Lim.nth encI6 rfl rfl fun x4 => ?_
          refine Lim.bifT rfl ?_
          refine Lim.decC (x4.c0, x4.c1, x4.c2, x4.c3, x4.c4, x4.c5, ()) rfl ?_
          refine Lim.call o_ref10_reached (lim_ref10_reached 0 x4) rfl rfl fun y5 => ?_
          refine Lim.bif rfl ?_ ?_
          · exact Lim.leaf rfl
          refine Lim.letIn rfl fun n6 => ?_
          exact Lim.loop 0 rfl
        exact Lim.leaf rfl
      exact Lim.leaf rfl
    )) h
abbrev o_ref10_Placed (v : Bool) : VtsT outs31 × MtsT mouts31 := ((v, ()), ())
abbrev encO_ref10_Placed (v : Bool) : R := (encR outs31 (o_ref10_Placed v).1, encMts mouts31 (o_ref10_Placed v).2)
theorem injO_ref10_Placed : ∀ a b, encO_ref10_Placed a = encO_ref10_Placed b → a = b := by
  rintro a0 b0 h
  have h1 := encR_inj (Prod.mk.inj h).1
  have h2 := encMts_inj (Prod.mk.inj h).2
  simp [o_ref10_Placed] at h1 h2
  simp [h1, h2]
noncomputable abbrev X_ref10_Placed (l1 : List I6) (n : Nat) : Option R := (lvl Try.prog HH n).2 31 [.s (.one (.fr 6 (List.map encI6 l1)))] []
noncomputable def F_ref10_Placed (l1 : List I6) : Option Bool := den encO_ref10_Placed (X_ref10_Placed l1)
theorem lim_ref10_Placed (k : Nat) (l1 : List I6) : Lim (fun v => (encR outs31 (o_ref10_Placed v).1, encMts mouts31 (o_ref10_Placed v).2)) (fun n => (lvl Try.prog HH (n + k)).2 31 [.s (.one (.fr 6 (List.map encI6 l1)))] []) (F_ref10_Placed l1) := Lim.den (x := (X_ref10_Placed l1)) k
theorem F_ref10_Placed_of (l1 : List I6) : ∀ r, ((
    (L_ref10_Placed_0 l1 0).bind fun p7 =>
    match p7 with
    | .inl e8 => (
      some e8)
    | .inr e9 => (
      bif decide ((((e9.length : Nat) : Int)) ≥ 1) then (
        some (decide ((((e9.length : Nat) : Int)) ≤ 8)))
      else
      some false)) : Option Bool) = some r →
    F_ref10_Placed l1 = some r := fun r h =>
  den_of (x := (X_ref10_Placed l1)) injO_ref10_Placed 1 (Lim.cong (fun n => fn31 n ((List.map encI6 l1))) (by
      refine Lim.bind (show Lim enc_L_ref10_Placed_0 _ (L_ref10_Placed_0 l1 0) from Lim.loop 0 rfl) fun p7 => ?_
      rcases p7 with e8 | e9
      · refine Lim.exit (.ret) S31_0_r ((e8, ()), ()) rfl rfl rfl ?_
        exact Lim.leaf rfl
      · refine Lim.bifF rfl ?_
        refine Lim.exit (.exit 0) S31_0_e0 (((List.map encI6 e9), ()), ()) rfl rfl rfl ?_
        refine Lim.bif (by first | with_reducible rfl | (simp only [List.map_replicate, map_upd]; rfl) | (simp [map_upd] <;> rfl) | rfl) ?_ ?_
        · exact Lim.leaf (by first | rfl | (simp [o_ref10_Placed, map_upd] <;> first | rfl | exact ⟨rfl, rfl⟩))
        exact Lim.leaf rfl
    )) h

/-! armplan/armplanref10.Dot -/
abbrev E_ref10_Dot_0 : Type := (Int × Int)
def enc_L_ref10_Dot_0 (e : E_ref10_Dot_0) : Ex × St := (.exit 0, encSt S32_0_e0 ((e.1, e.2, ()), ()))
theorem inj_L_ref10_Dot_0 : ∀ a b, enc_L_ref10_Dot_0 a = enc_L_ref10_Dot_0 b → a = b := by
  rintro ⟨a0, a1⟩ ⟨b0, b1⟩ h
  first | (cases h; done) | (have h2 := encSt_inj rfl (Prod.mk.inj h).2; simp [] at h2; simp [h2]) | (have h2 := (Prod.mk.inj h).1; simp at h2) | rfl
abbrev o_ref10_Dot (v : Int × Int) : VtsT outs32 × MtsT mouts32 := ((v.1, v.2, ()), ())
abbrev encO_ref10_Dot (v : Int × Int) : R := (encR outs32 (o_ref10_Dot v).1, encMts mouts32 (o_ref10_Dot v).2)
theorem injO_ref10_Dot : ∀ a b, encO_ref10_Dot a = encO_ref10_Dot b → a = b := by
  rintro ⟨a0, a1⟩ ⟨b0, b1⟩ h
  have h1 := encR_inj (Prod.mk.inj h).1
  have h2 := encMts_inj (Prod.mk.inj h).2
  simp [o_ref10_Dot] at h1 h2
  simp [h1, h2]
noncomputable abbrev X_ref10_Dot (n1 : I3) (v2 : I6) (n : Nat) : Option R := (lvl Try.prog HH n).2 32 [.s (.agg true [.v (.int .i64 n1.c0), .v (.int .i64 n1.c1), .v (.int .i64 n1.c2)]), .s (.agg true [.v (.int .i64 v2.c0), .v (.int .i64 v2.c1), .v (.int .i64 v2.c2), .v (.int .i64 v2.c3), .v (.int .i64 v2.c4), .v (.int .i64 v2.c5)])] []
noncomputable def F_ref10_Dot (n1 : I3) (v2 : I6) : Option (Int × Int) := den encO_ref10_Dot (X_ref10_Dot n1 v2)
theorem lim_ref10_Dot (k : Nat) (n1 : I3) (v2 : I6) : Lim (fun v => (encR outs32 (o_ref10_Dot v).1, encMts mouts32 (o_ref10_Dot v).2)) (fun n => (lvl Try.prog HH (n + k)).2 32 [.s (.agg true [.v (.int .i64 n1.c0), .v (.int .i64 n1.c1), .v (.int .i64 n1.c2)]), .s (.agg true [.v (.int .i64 v2.c0), .v (.int .i64 v2.c1), .v (.int .i64 v2.c2), .v (.int .i64 v2.c3), .v (.int .i64 v2.c4), .v (.int .i64 v2.c5)])] []) (F_ref10_Dot n1 v2) := Lim.den (x := (X_ref10_Dot n1 v2)) k
theorem F_ref10_Dot_of (n1 : I3) (v2 : I6) : ∀ r, ((
    (F_ref10_Usable n1).bind fun y3 =>
    bif !y3 then (
      some (0, 0))
    else
    (F_ref10_reached v2).bind fun y4 =>
    bif !y4 then (
      some (0, 0))
    else
    letIn (IntKind.wrap .i64 (n1.c0 * v2.c0) : Int) fun n5 =>
    letIn (IntKind.wrap .i64 (n1.c0 * v2.c1) : Int) fun n6 =>
    letIn (if n6 < n5 then n6 else n5 : Int) fun n7 =>
    letIn (IntKind.wrap .i64 (0 + n7) : Int) fun n8 =>
    letIn (if n6 > n5 then n6 else n5 : Int) fun n9 =>
    letIn (IntKind.wrap .i64 (0 + n9) : Int) fun n10 =>
    letIn (IntKind.wrap .i64 (n1.c1 * v2.c2) : Int) fun n11 =>
    letIn (IntKind.wrap .i64 (n1.c1 * v2.c3) : Int) fun n12 =>
    letIn (if n12 < n11 then n12 else n11 : Int) fun n13 =>
    letIn (IntKind.wrap .i64 (n8 + n13) : Int) fun n14 =>
    letIn (if n12 > n11 then n12 else n11 : Int) fun n15 =>
    letIn (IntKind.wrap .i64 (n10 + n15) : Int) fun n16 =>
    letIn (IntKind.wrap .i64 (n1.c2 * v2.c4) : Int) fun n17 =>
    letIn (IntKind.wrap .i64 (n1.c2 * v2.c5) : Int) fun n18 =>
    letIn (if n18 < n17 then n18 else n17 : Int) fun n19 =>
    letIn (IntKind.wrap .i64 (n14 + n19) : Int) fun n20 =>
    letIn (if n18 > n17 then n18 else n17 : Int) fun n21 =>
    letIn (IntKind.wrap .i64 (n16 + n21) : Int) fun n22 =>
    some (n20, n22)) : Option (Int × Int)) = some r →
    F_ref10_Dot n1 v2 = some r := fun r h =>
  den_of (x := (X_ref10_Dot n1 v2)) injO_ref10_Dot 5 (Lim.cong (fun n => fn32 n n1.c0 n1.c1 n1.c2 v2.c0 v2.c1 v2.c2 v2.c3 v2.c4 v2.c5) (by
      refine Lim.call o_ref10_Usable (lim_ref10_Usable 4 n1) rfl rfl fun y3 => ?_
      refine Lim.bif rfl ?_ ?_
      · exact Lim.leaf rfl
      refine Lim.call o_ref10_reached (lim_ref10_reached 4 v2) rfl rfl fun y4 => ?_
      refine Lim.bif rfl ?_ ?_
      · exact Lim.leaf rfl
      refine Lim.letIn rfl fun n5 => ?_
      refine Lim.letIn rfl fun n6 => ?_
      refine Lim.letIn rfl fun n7 => ?_
      refine Lim.letIn rfl fun n8 => ?_
      refine Lim.letIn rfl fun n9 => ?_
      refine Lim.letIn rfl fun n10 => ?_
      refine Lim.letIn rfl fun n11 => ?_
      refine Lim.letIn rfl fun n12 => ?_
      refine Lim.letIn rfl fun n13 => ?_
      refine Lim.letIn rfl fun n14 => ?_
      refine Lim.letIn rfl fun n15 => ?_
      refine Lim.letIn rfl fun n16 => ?_
      refine Lim.letIn rfl fun n17 => ?_
      refine Lim.letIn rfl fun n18 => ?_
      refine Lim.letIn rfl fun n19 => ?_
      refine Lim.letIn rfl fun n20 => ?_
      refine Lim.letIn rfl fun n21 => ?_
      refine Lim.letIn rfl fun n22 => ?_
      exact Lim.leaf rfl
    )) h
def G_ref10_Dot (n1 : I3) (v2 : I6) : Int × Int :=
  letIn (G_ref10_Usable n1) fun y3 =>
  bif !y3 then (
    (0, 0))
  else
  letIn (G_ref10_reached v2) fun y4 =>
  bif !y4 then (
    (0, 0))
  else
  letIn (IntKind.wrap .i64 (n1.c0 * v2.c0) : Int) fun n5 =>
  letIn (IntKind.wrap .i64 (n1.c0 * v2.c1) : Int) fun n6 =>
  letIn (if n6 < n5 then n6 else n5 : Int) fun n7 =>
  letIn (IntKind.wrap .i64 (0 + n7) : Int) fun n8 =>
  letIn (if n6 > n5 then n6 else n5 : Int) fun n9 =>
  letIn (IntKind.wrap .i64 (0 + n9) : Int) fun n10 =>
  letIn (IntKind.wrap .i64 (n1.c1 * v2.c2) : Int) fun n11 =>
  letIn (IntKind.wrap .i64 (n1.c1 * v2.c3) : Int) fun n12 =>
  letIn (if n12 < n11 then n12 else n11 : Int) fun n13 =>
  letIn (IntKind.wrap .i64 (n8 + n13) : Int) fun n14 =>
  letIn (if n12 > n11 then n12 else n11 : Int) fun n15 =>
  letIn (IntKind.wrap .i64 (n10 + n15) : Int) fun n16 =>
  letIn (IntKind.wrap .i64 (n1.c2 * v2.c4) : Int) fun n17 =>
  letIn (IntKind.wrap .i64 (n1.c2 * v2.c5) : Int) fun n18 =>
  letIn (if n18 < n17 then n18 else n17 : Int) fun n19 =>
  letIn (IntKind.wrap .i64 (n14 + n19) : Int) fun n20 =>
  letIn (if n18 > n17 then n18 else n17 : Int) fun n21 =>
  letIn (IntKind.wrap .i64 (n16 + n21) : Int) fun n22 =>
  (n20, n22)
theorem F_ref10_Dot_eq (n1 : I3) (v2 : I6) : F_ref10_Dot n1 v2 = some (G_ref10_Dot n1 v2) := F_ref10_Dot_of n1 v2 _ (by
  unfold G_ref10_Dot
  refine Tot.bind (F_ref10_Usable_eq n1) fun y3 => ?_
  refine Tot.bif ?_ ?_
  · rfl
  refine Tot.bind (F_ref10_reached_eq v2) fun y4 => ?_
  refine Tot.bif ?_ ?_
  · rfl
  refine Tot.letIn fun n5 => ?_
  refine Tot.letIn fun n6 => ?_
  refine Tot.letIn fun n7 => ?_
  refine Tot.letIn fun n8 => ?_
  refine Tot.letIn fun n9 => ?_
  refine Tot.letIn fun n10 => ?_
  refine Tot.letIn fun n11 => ?_
  refine Tot.letIn fun n12 => ?_
  refine Tot.letIn fun n13 => ?_
  refine Tot.letIn fun n14 => ?_
  refine Tot.letIn fun n15 => ?_
  refine Tot.letIn fun n16 => ?_
  refine Tot.letIn fun n17 => ?_
  refine Tot.letIn fun n18 => ?_
  refine Tot.letIn fun n19 => ?_
  refine Tot.letIn fun n20 => ?_
  refine Tot.letIn fun n21 => ?_
  refine Tot.letIn fun n22 => ?_
  rfl)

/-! armplan/armplanref10.Least -/
abbrev E_ref10_Least_0 : Type := (Int × Int)
def enc_L_ref10_Least_0 (e : E_ref10_Least_0) : Ex × St := (.exit 0, encSt S16_0_e0 ((e.1, e.2, ()), ()))
theorem inj_L_ref10_Least_0 : ∀ a b, enc_L_ref10_Least_0 a = enc_L_ref10_Least_0 b → a = b := by
  rintro ⟨a0, a1⟩ ⟨b0, b1⟩ h
  first | (cases h; done) | (have h2 := encSt_inj rfl (Prod.mk.inj h).2; simp [] at h2; simp [h2]) | (have h2 := (Prod.mk.inj h).1; simp at h2) | rfl
noncomputable abbrev X_L_ref10_Least_0 (v5 : List I6) (v6 : Int) (v7 : Int) (v8 : Int) (c9 : I3) (n : Nat) : Option (Ex × St) := (lvl Try.prog HH n).1 ⟨16, 0, true⟩ 0 (loopOf Try.f16 0) (encSt S16_0 (((List.map encI6 v5), (), v6, v7, v8, ()), ((c9.c0, c9.c1, c9.c2, ()), ())))
noncomputable def L_ref10_Least_0 (v5 : List I6) (v6 : Int) (v7 : Int) (v8 : Int) (c9 : I3) : Option E_ref10_Least_0 := den enc_L_ref10_Least_0 (X_L_ref10_Least_0 v5 v6 v7 v8 c9)
theorem L_ref10_Least_0_of (v5 : List I6) (v6 : Int) (v7 : Int) (v8 : Int) (c9 : I3) : ∀ r, ((
    bif decide (v8 < (((v5.length : Nat) : Int))) then (
      bif decide (0 ≤ v8) then (
        (nth v5 v8.toNat).bind fun x10 =>
        (F_ref10_Dot c9 x10).bind fun y11 =>
        bif v8 == 0 then (
          letIn (IntKind.wrap .i64 (v8 + 1) : Int) fun n12 =>
          L_ref10_Least_0 v5 y11.1 v8 n12 c9)
        else
        bif decide (y11.1 < v6) then (
          letIn (IntKind.wrap .i64 (v8 + 1) : Int) fun n13 =>
          L_ref10_Least_0 v5 y11.1 v8 n13 c9)
        else
        letIn (IntKind.wrap .i64 (v8 + 1) : Int) fun n14 =>
        L_ref10_Least_0 v5 v6 v7 n14 c9)
      else
      none)
    else
    some ((v6, v7))) : Option E_ref10_Least_0) = some r →
    L_ref10_Least_0 v5 v6 v7 v8 c9 = some r := fun r h =>
  den_of (x := (X_L_ref10_Least_0 v5 v6 v7 v8 c9)) inj_L_ref10_Least_0 1 (Lim.cong (fun n => loop16_0 n ((List.map encI6 v5)) v6 v7 v8 c9.c0 c9.c1 c9.c2) (by
      refine Lim.bif (by first | with_reducible rfl | (simp only [List.map_replicate, map_upd]; rfl) | (simp [map_upd] <;> rfl) | rfl) ?_ ?_
      · refine Lim.bif rfl ?_ Lim.none_
        refine Lim.nth encI6 rfl rfl fun x10 => ?_
        refine Lim.bifT rfl ?_
        refine Lim.decC (x10.c0, x10.c1, x10.c2, x10.c3, x10.c4, x10.c5, ()) rfl ?_
        refine Lim.call o_ref10_Dot (lim_ref10_Dot 0 c9 x10) rfl rfl fun y11 => ?_
        refine Lim.bif rfl ?_ ?_
        · refine Lim.letIn rfl fun n12 => ?_
          exact Lim.loop 0 rfl
        refine Lim.bif rfl ?_ ?_
        · refine Lim.letIn rfl fun n13 => ?_
          exact Lim.loop 0 rfl
        refine Lim.letIn rfl fun n14 => ?_
        exact Lim.loop 0 rfl
      exact Lim.leaf rfl
    )) h
abbrev o_ref10_Least (v : Int × Int × Bool) : VtsT outs16 × MtsT mouts16 := ((v.1, v.2.1, v.2.2, ()), ())
abbrev encO_ref10_Least (v : Int × Int × Bool) : R := (encR outs16 (o_ref10_Least v).1, encMts mouts16 (o_ref10_Least v).2)
theorem injO_ref10_Least : ∀ a b, encO_ref10_Least a = encO_ref10_Least b → a = b := by
  rintro ⟨a0, a1, a2⟩ ⟨b0, b1, b2⟩ h
  have h1 := encR_inj (Prod.mk.inj h).1
  have h2 := encMts_inj (Prod.mk.inj h).2
  simp [o_ref10_Least] at h1 h2
  simp [h1, h2]
noncomputable abbrev X_ref10_Least (n1 : I3) (l2 : List I6) (n : Nat) : Option R := (lvl Try.prog HH n).2 16 [.s (.agg true [.v (.int .i64 n1.c0), .v (.int .i64 n1.c1), .v (.int .i64 n1.c2)]), .s (.one (.fr 6 (List.map encI6 l2)))] []
noncomputable def F_ref10_Least (n1 : I3) (l2 : List I6) : Option (Int × Int × Bool) := den encO_ref10_Least (X_ref10_Least n1 l2)
theorem lim_ref10_Least (k : Nat) (n1 : I3) (l2 : List I6) : Lim (fun v => (encR outs16 (o_ref10_Least v).1, encMts mouts16 (o_ref10_Least v).2)) (fun n => (lvl Try.prog HH (n + k)).2 16 [.s (.agg true [.v (.int .i64 n1.c0), .v (.int .i64 n1.c1), .v (.int .i64 n1.c2)]), .s (.one (.fr 6 (List.map encI6 l2)))] []) (F_ref10_Least n1 l2) := Lim.den (x := (X_ref10_Least n1 l2)) k
theorem F_ref10_Least_of (n1 : I3) (l2 : List I6) : ∀ r, ((
    (F_ref10_Usable n1).bind fun y3 =>
    bif !y3 then (
      some (0, 0, false))
    else
    (F_ref10_Placed l2).bind fun y4 =>
    bif !y4 then (
      some (0, 0, false))
    else
    (L_ref10_Least_0 l2 0 0 0 n1).bind fun p15 =>
    some (p15.1, p15.2, true)) : Option (Int × Int × Bool)) = some r →
    F_ref10_Least n1 l2 = some r := fun r h =>
  den_of (x := (X_ref10_Least n1 l2)) injO_ref10_Least 1 (Lim.cong (fun n => fn16 n n1.c0 n1.c1 n1.c2 ((List.map encI6 l2))) (by
      refine Lim.call o_ref10_Usable (lim_ref10_Usable 0 n1) rfl rfl fun y3 => ?_
      refine Lim.bif rfl ?_ ?_
      · exact Lim.leaf rfl
      refine Lim.call o_ref10_Placed (lim_ref10_Placed 0 l2) rfl rfl fun y4 => ?_
      refine Lim.bif rfl ?_ ?_
      · exact Lim.leaf rfl
      refine Lim.bind (show Lim enc_L_ref10_Least_0 _ (L_ref10_Least_0 l2 0 0 0 n1) from Lim.loop 0 rfl) fun p15 => ?_
      refine Lim.exit (.exit 0) S16_0_e0 ((p15.1, p15.2, ()), ()) rfl rfl rfl ?_
      exact Lim.leaf rfl
    )) h

/-! armplan/armplanref10.Greatest -/
abbrev E_ref10_Greatest_0 : Type := (Int × Int)
def enc_L_ref10_Greatest_0 (e : E_ref10_Greatest_0) : Ex × St := (.exit 0, encSt S18_0_e0 ((e.1, e.2, ()), ()))
theorem inj_L_ref10_Greatest_0 : ∀ a b, enc_L_ref10_Greatest_0 a = enc_L_ref10_Greatest_0 b → a = b := by
  rintro ⟨a0, a1⟩ ⟨b0, b1⟩ h
  first | (cases h; done) | (have h2 := encSt_inj rfl (Prod.mk.inj h).2; simp [] at h2; simp [h2]) | (have h2 := (Prod.mk.inj h).1; simp at h2) | rfl
noncomputable abbrev X_L_ref10_Greatest_0 (v5 : List I6) (v6 : Int) (v7 : Int) (v8 : Int) (c9 : I3) (n : Nat) : Option (Ex × St) := (lvl Try.prog HH n).1 ⟨18, 0, true⟩ 0 (loopOf Try.f18 0) (encSt S18_0 (((List.map encI6 v5), (), v6, v7, v8, ()), ((c9.c0, c9.c1, c9.c2, ()), ())))
noncomputable def L_ref10_Greatest_0 (v5 : List I6) (v6 : Int) (v7 : Int) (v8 : Int) (c9 : I3) : Option E_ref10_Greatest_0 := den enc_L_ref10_Greatest_0 (X_L_ref10_Greatest_0 v5 v6 v7 v8 c9)
theorem L_ref10_Greatest_0_of (v5 : List I6) (v6 : Int) (v7 : Int) (v8 : Int) (c9 : I3) : ∀ r, ((
    bif decide (v8 < (((v5.length : Nat) : Int))) then (
      bif decide (0 ≤ v8) then (
        (nth v5 v8.toNat).bind fun x10 =>
        (F_ref10_Dot c9 x10).bind fun y11 =>
        bif v8 == 0 then (
          letIn (IntKind.wrap .i64 (v8 + 1) : Int) fun n12 =>
          L_ref10_Greatest_0 v5 y11.2 v8 n12 c9)
        else
        bif decide (y11.2 > v6) then (
          letIn (IntKind.wrap .i64 (v8 + 1) : Int) fun n13 =>
          L_ref10_Greatest_0 v5 y11.2 v8 n13 c9)
        else
        letIn (IntKind.wrap .i64 (v8 + 1) : Int) fun n14 =>
        L_ref10_Greatest_0 v5 v6 v7 n14 c9)
      else
      none)
    else
    some ((v6, v7))) : Option E_ref10_Greatest_0) = some r →
    L_ref10_Greatest_0 v5 v6 v7 v8 c9 = some r := fun r h =>
  den_of (x := (X_L_ref10_Greatest_0 v5 v6 v7 v8 c9)) inj_L_ref10_Greatest_0 1 (Lim.cong (fun n => loop18_0 n ((List.map encI6 v5)) v6 v7 v8 c9.c0 c9.c1 c9.c2) (by
      refine Lim.bif (by first | with_reducible rfl | (simp only [List.map_replicate, map_upd]; rfl) | (simp [map_upd] <;> rfl) | rfl) ?_ ?_
      · refine Lim.bif rfl ?_ Lim.none_
        refine Lim.nth encI6 rfl rfl fun x10 => ?_
        refine Lim.bifT rfl ?_
        refine Lim.decC (x10.c0, x10.c1, x10.c2, x10.c3, x10.c4, x10.c5, ()) rfl ?_
        refine Lim.call o_ref10_Dot (lim_ref10_Dot 0 c9 x10) rfl rfl fun y11 => ?_
        refine Lim.bif rfl ?_ ?_
        · refine Lim.letIn rfl fun n12 => ?_
          exact Lim.loop 0 rfl
        refine Lim.bif rfl ?_ ?_
        · refine Lim.letIn rfl fun n13 => ?_
          exact Lim.loop 0 rfl
        refine Lim.letIn rfl fun n14 => ?_
        exact Lim.loop 0 rfl
      exact Lim.leaf rfl
    )) h
abbrev o_ref10_Greatest (v : Int × Int × Bool) : VtsT outs18 × MtsT mouts18 := ((v.1, v.2.1, v.2.2, ()), ())
abbrev encO_ref10_Greatest (v : Int × Int × Bool) : R := (encR outs18 (o_ref10_Greatest v).1, encMts mouts18 (o_ref10_Greatest v).2)
theorem injO_ref10_Greatest : ∀ a b, encO_ref10_Greatest a = encO_ref10_Greatest b → a = b := by
  rintro ⟨a0, a1, a2⟩ ⟨b0, b1, b2⟩ h
  have h1 := encR_inj (Prod.mk.inj h).1
  have h2 := encMts_inj (Prod.mk.inj h).2
  simp [o_ref10_Greatest] at h1 h2
  simp [h1, h2]
noncomputable abbrev X_ref10_Greatest (n1 : I3) (l2 : List I6) (n : Nat) : Option R := (lvl Try.prog HH n).2 18 [.s (.agg true [.v (.int .i64 n1.c0), .v (.int .i64 n1.c1), .v (.int .i64 n1.c2)]), .s (.one (.fr 6 (List.map encI6 l2)))] []
noncomputable def F_ref10_Greatest (n1 : I3) (l2 : List I6) : Option (Int × Int × Bool) := den encO_ref10_Greatest (X_ref10_Greatest n1 l2)
theorem lim_ref10_Greatest (k : Nat) (n1 : I3) (l2 : List I6) : Lim (fun v => (encR outs18 (o_ref10_Greatest v).1, encMts mouts18 (o_ref10_Greatest v).2)) (fun n => (lvl Try.prog HH (n + k)).2 18 [.s (.agg true [.v (.int .i64 n1.c0), .v (.int .i64 n1.c1), .v (.int .i64 n1.c2)]), .s (.one (.fr 6 (List.map encI6 l2)))] []) (F_ref10_Greatest n1 l2) := Lim.den (x := (X_ref10_Greatest n1 l2)) k
theorem F_ref10_Greatest_of (n1 : I3) (l2 : List I6) : ∀ r, ((
    (F_ref10_Usable n1).bind fun y3 =>
    bif !y3 then (
      some (0, 0, false))
    else
    (F_ref10_Placed l2).bind fun y4 =>
    bif !y4 then (
      some (0, 0, false))
    else
    (L_ref10_Greatest_0 l2 0 0 0 n1).bind fun p15 =>
    some (p15.1, p15.2, true)) : Option (Int × Int × Bool)) = some r →
    F_ref10_Greatest n1 l2 = some r := fun r h =>
  den_of (x := (X_ref10_Greatest n1 l2)) injO_ref10_Greatest 1 (Lim.cong (fun n => fn18 n n1.c0 n1.c1 n1.c2 ((List.map encI6 l2))) (by
      refine Lim.call o_ref10_Usable (lim_ref10_Usable 0 n1) rfl rfl fun y3 => ?_
      refine Lim.bif rfl ?_ ?_
      · exact Lim.leaf rfl
      refine Lim.call o_ref10_Placed (lim_ref10_Placed 0 l2) rfl rfl fun y4 => ?_
      refine Lim.bif rfl ?_ ?_
      · exact Lim.leaf rfl
      refine Lim.bind (show Lim enc_L_ref10_Greatest_0 _ (L_ref10_Greatest_0 l2 0 0 0 n1) from Lim.loop 0 rfl) fun p15 => ?_
      refine Lim.exit (.exit 0) S18_0_e0 ((p15.1, p15.2, ()), ()) rfl rfl rfl ?_
      exact Lim.leaf rfl
    )) h

/-! armplan/armplanlaw14.awake -/
abbrev o_law14_awake (v : Bool) : VtsT outs12 × MtsT mouts12 := ((v, ()), ())
abbrev encO_law14_awake (v : Bool) : R := (encR outs12 (o_law14_awake v).1, encMts mouts12 (o_law14_awake v).2)
theorem injO_law14_awake : ∀ a b, encO_law14_awake a = encO_law14_awake b → a = b := by
  rintro a0 b0 h
  have h1 := encR_inj (Prod.mk.inj h).1
  have h2 := encMts_inj (Prod.mk.inj h).2
  simp [o_law14_awake] at h1 h2
  simp [h1, h2]
noncomputable abbrev X_law14_awake  (n : Nat) : Option R := (lvl Try.prog HH n).2 12 [] []
noncomputable def F_law14_awake  : Option Bool := den encO_law14_awake X_law14_awake
theorem lim_law14_awake (k : Nat)  : Lim (fun v => (encR outs12 (o_law14_awake v).1, encMts mouts12 (o_law14_awake v).2)) (fun n => (lvl Try.prog HH (n + k)).2 12 [] []) (F_law14_awake) := Lim.den (x := X_law14_awake) k
theorem F_law14_awake_of  : ∀ r, ((
    (F_nearest_Search [(I3.mk 0 0 0)] [(I3.mk 10 0 0)] 3 5).bind fun y1 =>
    (F_nearest_Search [(I3.mk 0 0 0)] [(I3.mk 10 0 0)] 10 5).bind fun y2 =>
    bif y1.c0 == 1 then (
      letIn ((y1.c1 == (-10)) && ((y1.c2 == 0) && ((y1.c3 == 0) && true)) : Bool) fun b3 =>
      bif b3 then (
        some (y2.c0 == 2))
      else
      some false)
    else
    some false) : Option Bool) = some r →
    F_law14_awake = some r := fun r h =>
  den_of (x := X_law14_awake) injO_law14_awake 1 (Lim.cong (fun n => fn12 n ) (by
      refine Lim.call o_nearest_Search (lim_nearest_Search 0 [(I3.mk 0 0 0)] [(I3.mk 10 0 0)] 3 5) (by first | with_reducible rfl | (simp [map_upd, o_nearest_Search] <;> rfl) | (simp only [List.map_append, List.map_cons, List.map_nil, List.map_take, List.map_drop, map_upd, List.map_replicate, List.length_map, o_nearest_Search] <;> rfl) | (simp only [List.map_append, List.map_cons, List.map_nil, List.map_take, List.map_drop, map_upd, List.map_replicate, List.length_map, List.length_append, List.length_cons, List.length_nil, o_nearest_Search] <;> rfl) | rfl) (by first | with_reducible rfl | (simp [map_upd, o_nearest_Search] <;> rfl) | (simp only [List.map_append, List.map_cons, List.map_nil, List.map_take, List.map_drop, map_upd, List.map_replicate, List.length_map, o_nearest_Search] <;> rfl) | (simp only [List.map_append, List.map_cons, List.map_nil, List.map_take, List.map_drop, map_upd, List.map_replicate, List.length_map, List.length_append, List.length_cons, List.length_nil, o_nearest_Search] <;> rfl) | rfl) fun y1 => ?_
      refine Lim.call o_nearest_Search (lim_nearest_Search 0 [(I3.mk 0 0 0)] [(I3.mk 10 0 0)] 10 5) (by first | with_reducible rfl | (simp [map_upd, o_nearest_Search] <;> rfl) | (simp only [List.map_append, List.map_cons, List.map_nil, List.map_take, List.map_drop, map_upd, List.map_replicate, List.length_map, o_nearest_Search] <;> rfl) | (simp only [List.map_append, List.map_cons, List.map_nil, List.map_take, List.map_drop, map_upd, List.map_replicate, List.length_map, List.length_append, List.length_cons, List.length_nil, o_nearest_Search] <;> rfl) | rfl) (by first | with_reducible rfl | (simp [map_upd, o_nearest_Search] <;> rfl) | (simp only [List.map_append, List.map_cons, List.map_nil, List.map_take, List.map_drop, map_upd, List.map_replicate, List.length_map, o_nearest_Search] <;> rfl) | (simp only [List.map_append, List.map_cons, List.map_nil, List.map_take, List.map_drop, map_upd, List.map_replicate, List.length_map, List.length_append, List.length_cons, List.length_nil, o_nearest_Search] <;> rfl) | rfl) fun y2 => ?_
      refine Lim.bif rfl ?_ ?_
      · refine Lim.letIn rfl fun b3 => ?_
        refine Lim.bif rfl ?_ ?_
        · exact Lim.leaf rfl
        exact Lim.leaf rfl
      exact Lim.leaf rfl
    )) h

/-! armplan/armplanref1.Root -/
abbrev E_ref1_Root_0 : Type := (Int)
def enc_L_ref1_Root_0 (e : E_ref1_Root_0) : Ex × St := (.exit 0, encSt S61_0_e0 ((e, ()), ()))
theorem inj_L_ref1_Root_0 : ∀ a b, enc_L_ref1_Root_0 a = enc_L_ref1_Root_0 b → a = b := by
  rintro a0 b0 h
  first | (cases h; done) | (have h2 := encSt_inj rfl (Prod.mk.inj h).2; simp [] at h2; simp [h2]) | (have h2 := (Prod.mk.inj h).1; simp at h2) | rfl
noncomputable abbrev X_L_ref1_Root_0 (v2 : Int) (v3 : Int) (v4 : Int) (n : Nat) : Option (Ex × St) := (lvl Try.prog HH n).1 ⟨61, 0, true⟩ 0 (loopOf Try.f61 0) (encSt S61_0 ((v2, v3, v4, ()), ()))
noncomputable def L_ref1_Root_0 (v2 : Int) (v3 : Int) (v4 : Int) : Option E_ref1_Root_0 := den enc_L_ref1_Root_0 (X_L_ref1_Root_0 v2 v3 v4)
theorem L_ref1_Root_0_of (v2 : Int) (v3 : Int) (v4 : Int) : ∀ r, ((
    letIn (IntKind.wrap .i64 (v4 - v3) : Int) fun n5 =>
    bif decide (n5 > 1) then (
      letIn (IntKind.wrap .i64 (v4 - v3) : Int) fun n6 =>
      letIn (IntKind.wrap .i64 (Int.tdiv n6 2) : Int) fun n7 =>
      letIn (IntKind.wrap .i64 (v3 + n7) : Int) fun n8 =>
      bif n8 == 0 then (
        none)
      else
      letIn (IntKind.wrap .i64 (Int.tdiv v2 n8) : Int) fun n9 =>
      bif decide (n8 ≤ n9) then (
        L_ref1_Root_0 v2 n8 v4)
      else
      L_ref1_Root_0 v2 v3 n8)
    else
    some v3) : Option E_ref1_Root_0) = some r →
    L_ref1_Root_0 v2 v3 v4 = some r := fun r h =>
  den_of (x := (X_L_ref1_Root_0 v2 v3 v4)) inj_L_ref1_Root_0 1 (Lim.cong (fun n => loop61_0 n v2 v3 v4) (by
      refine Lim.letIn rfl fun n5 => ?_
      refine Lim.bif rfl ?_ ?_
      · refine Lim.letIn rfl fun n6 => ?_
        refine Lim.letIn rfl fun n7 => ?_
        refine Lim.letIn rfl fun n8 => ?_
        refine Lim.bif rfl Lim.none_ ?_
        refine Lim.letIn rfl fun n9 => ?_
        refine Lim.bif rfl ?_ ?_
        · exact Lim.loop 0 rfl
        exact Lim.loop 0 rfl
      exact Lim.leaf rfl
    )) h
abbrev o_ref1_Root (v : Int) : VtsT outs61 × MtsT mouts61 := ((v, ()), ())
abbrev encO_ref1_Root (v : Int) : R := (encR outs61 (o_ref1_Root v).1, encMts mouts61 (o_ref1_Root v).2)
theorem injO_ref1_Root : ∀ a b, encO_ref1_Root a = encO_ref1_Root b → a = b := by
  rintro a0 b0 h
  have h1 := encR_inj (Prod.mk.inj h).1
  have h2 := encMts_inj (Prod.mk.inj h).2
  simp [o_ref1_Root] at h1 h2
  simp [h1, h2]
noncomputable abbrev X_ref1_Root (n1 : Int) (n : Nat) : Option R := (lvl Try.prog HH n).2 61 [.s (.one (.v (.int .i64 n1)))] []
noncomputable def F_ref1_Root (n1 : Int) : Option Int := den encO_ref1_Root (X_ref1_Root n1)
theorem lim_ref1_Root (k : Nat) (n1 : Int) : Lim (fun v => (encR outs61 (o_ref1_Root v).1, encMts mouts61 (o_ref1_Root v).2)) (fun n => (lvl Try.prog HH (n + k)).2 61 [.s (.one (.v (.int .i64 n1)))] []) (F_ref1_Root n1) := Lim.den (x := (X_ref1_Root n1)) k
theorem F_ref1_Root_of (n1 : Int) : ∀ r, ((
    bif decide (n1 < 1) then (
      some 0)
    else
    (L_ref1_Root_0 n1 1 4294967296).bind fun p10 =>
    some p10) : Option Int) = some r →
    F_ref1_Root n1 = some r := fun r h =>
  den_of (x := (X_ref1_Root n1)) injO_ref1_Root 1 (Lim.cong (fun n => fn61 n n1) (by
      refine Lim.bif rfl ?_ ?_
      · exact Lim.leaf rfl
      refine Lim.bind (show Lim enc_L_ref1_Root_0 _ (L_ref1_Root_0 n1 1 4294967296) from Lim.loop 0 rfl) fun p10 => ?_
      refine Lim.exit (.exit 0) S61_0_e0 ((p10, ()), ()) rfl rfl rfl ?_
      exact Lim.leaf rfl
    )) h

/-! armplan/armplanref1.RootUp -/
abbrev o_ref1_RootUp (v : Int) : VtsT outs34 × MtsT mouts34 := ((v, ()), ())
abbrev encO_ref1_RootUp (v : Int) : R := (encR outs34 (o_ref1_RootUp v).1, encMts mouts34 (o_ref1_RootUp v).2)
theorem injO_ref1_RootUp : ∀ a b, encO_ref1_RootUp a = encO_ref1_RootUp b → a = b := by
  rintro a0 b0 h
  have h1 := encR_inj (Prod.mk.inj h).1
  have h2 := encMts_inj (Prod.mk.inj h).2
  simp [o_ref1_RootUp] at h1 h2
  simp [h1, h2]
noncomputable abbrev X_ref1_RootUp (n1 : Int) (n : Nat) : Option R := (lvl Try.prog HH n).2 34 [.s (.one (.v (.int .i64 n1)))] []
noncomputable def F_ref1_RootUp (n1 : Int) : Option Int := den encO_ref1_RootUp (X_ref1_RootUp n1)
theorem lim_ref1_RootUp (k : Nat) (n1 : Int) : Lim (fun v => (encR outs34 (o_ref1_RootUp v).1, encMts mouts34 (o_ref1_RootUp v).2)) (fun n => (lvl Try.prog HH (n + k)).2 34 [.s (.one (.v (.int .i64 n1)))] []) (F_ref1_RootUp n1) := Lim.den (x := (X_ref1_RootUp n1)) k
theorem F_ref1_RootUp_of (n1 : Int) : ∀ r, ((
    (F_ref1_Root n1).bind fun y2 =>
    bif decide (n1 > 0) then (
      letIn (IntKind.wrap .i64 (y2 * y2) : Int) fun n3 =>
      bif decide (n3 < n1) then (
        letIn (IntKind.wrap .i64 (y2 + 1) : Int) fun n4 =>
        some n4)
      else
      some y2)
    else
    some y2) : Option Int) = some r →
    F_ref1_RootUp n1 = some r := fun r h =>
  den_of (x := (X_ref1_RootUp n1)) injO_ref1_RootUp 1 (Lim.cong (fun n => fn34 n n1) (by
      refine Lim.call o_ref1_Root (lim_ref1_Root 0 n1) rfl rfl fun y2 => ?_
      refine Lim.bif rfl ?_ ?_
      · refine Lim.letIn rfl fun n3 => ?_
        refine Lim.bif rfl ?_ ?_
        · refine Lim.letIn rfl fun n4 => ?_
          exact Lim.leaf rfl
        exact Lim.leaf rfl
      exact Lim.leaf rfl
    )) h

/-! armplan/armplanref10.Norm -/
abbrev o_ref10_Norm (v : Int) : VtsT outs19 × MtsT mouts19 := ((v, ()), ())
abbrev encO_ref10_Norm (v : Int) : R := (encR outs19 (o_ref10_Norm v).1, encMts mouts19 (o_ref10_Norm v).2)
theorem injO_ref10_Norm : ∀ a b, encO_ref10_Norm a = encO_ref10_Norm b → a = b := by
  rintro a0 b0 h
  have h1 := encR_inj (Prod.mk.inj h).1
  have h2 := encMts_inj (Prod.mk.inj h).2
  simp [o_ref10_Norm] at h1 h2
  simp [h1, h2]
noncomputable abbrev X_ref10_Norm (n1 : I3) (n : Nat) : Option R := (lvl Try.prog HH n).2 19 [.s (.agg true [.v (.int .i64 n1.c0), .v (.int .i64 n1.c1), .v (.int .i64 n1.c2)])] []
noncomputable def F_ref10_Norm (n1 : I3) : Option Int := den encO_ref10_Norm (X_ref10_Norm n1)
theorem lim_ref10_Norm (k : Nat) (n1 : I3) : Lim (fun v => (encR outs19 (o_ref10_Norm v).1, encMts mouts19 (o_ref10_Norm v).2)) (fun n => (lvl Try.prog HH (n + k)).2 19 [.s (.agg true [.v (.int .i64 n1.c0), .v (.int .i64 n1.c1), .v (.int .i64 n1.c2)])] []) (F_ref10_Norm n1) := Lim.den (x := (X_ref10_Norm n1)) k
theorem F_ref10_Norm_of (n1 : I3) : ∀ r, ((
    (F_ref10_Usable n1).bind fun y2 =>
    bif !y2 then (
      some 0)
    else
    letIn (IntKind.wrap .i64 (n1.c0 * n1.c0) : Int) fun n3 =>
    letIn (IntKind.wrap .i64 (n1.c1 * n1.c1) : Int) fun n4 =>
    letIn (IntKind.wrap .i64 (n3 + n4) : Int) fun n5 =>
    letIn (IntKind.wrap .i64 (n1.c2 * n1.c2) : Int) fun n6 =>
    letIn (IntKind.wrap .i64 (n5 + n6) : Int) fun n7 =>
    (F_ref1_RootUp n7).bind fun y8 =>
    some y8) : Option Int) = some r →
    F_ref10_Norm n1 = some r := fun r h =>
  den_of (x := (X_ref10_Norm n1)) injO_ref10_Norm 1 (Lim.cong (fun n => fn19 n n1.c0 n1.c1 n1.c2) (by
      refine Lim.call o_ref10_Usable (lim_ref10_Usable 0 n1) rfl rfl fun y2 => ?_
      refine Lim.bif rfl ?_ ?_
      · exact Lim.leaf rfl
      refine Lim.letIn rfl fun n3 => ?_
      refine Lim.letIn rfl fun n4 => ?_
      refine Lim.letIn rfl fun n5 => ?_
      refine Lim.letIn rfl fun n6 => ?_
      refine Lim.letIn rfl fun n7 => ?_
      refine Lim.call o_ref1_RootUp (lim_ref1_RootUp 0 n7) rfl rfl fun y8 => ?_
      exact Lim.leaf rfl
    )) h

/-! armplan/armplanmake.Total -/
abbrev E_make_Total_0 : Type := (Int)
def enc_L_make_Total_0 (e : E_make_Total_0) : Ex × St := (.exit 0, encSt S29_0_e0 ((e, ()), ()))
theorem inj_L_make_Total_0 : ∀ a b, enc_L_make_Total_0 a = enc_L_make_Total_0 b → a = b := by
  rintro a0 b0 h
  first | (cases h; done) | (have h2 := encSt_inj rfl (Prod.mk.inj h).2; simp [] at h2; simp [h2]) | (have h2 := (Prod.mk.inj h).1; simp at h2) | rfl
noncomputable abbrev X_L_make_Total_0 (v2 : List Int) (v3 : Int) (v4 : Int) (n : Nat) : Option (Ex × St) := (lvl Try.prog HH n).1 ⟨29, 0, true⟩ 0 (loopOf Try.f29 0) (encSt S29_0 (((List.map encI v2), v3, v4, ()), ()))
noncomputable def L_make_Total_0 (v2 : List Int) (v3 : Int) (v4 : Int) : Option E_make_Total_0 := den enc_L_make_Total_0 (X_L_make_Total_0 v2 v3 v4)
theorem L_make_Total_0_of (v2 : List Int) (v3 : Int) (v4 : Int) : ∀ r, ((
    bif decide (v4 < (((v2.length : Nat) : Int))) then (
      bif decide (0 ≤ v4) then (
        (nth v2 v4.toNat).bind fun x5 =>
        letIn (IntKind.wrap .i64 (v3 + x5) : Int) fun n6 =>
        letIn (IntKind.wrap .i64 (v4 + 1) : Int) fun n7 =>
        L_make_Total_0 v2 n6 n7)
      else
      none)
    else
    some v3) : Option E_make_Total_0) = some r →
    L_make_Total_0 v2 v3 v4 = some r := fun r h =>
  den_of (x := (X_L_make_Total_0 v2 v3 v4)) inj_L_make_Total_0 1 (Lim.cong (fun n => loop29_0 n ((List.map encI v2)) v3 v4) (by
      refine Lim.bif (by first | with_reducible rfl | (simp only [List.map_replicate, map_upd]; rfl) | (simp [map_upd] <;> rfl) | rfl) ?_ ?_
      · refine Lim.bif rfl ?_ Lim.none_
        refine Lim.nth encI rfl rfl fun x5 => ?_
        refine Lim.step rfl ?_
        refine Lim.step rfl ?_
        refine Lim.letIn rfl fun n6 => ?_
        refine Lim.letIn rfl fun n7 => ?_
        exact Lim.loop 0 rfl
      exact Lim.leaf rfl
    )) h
abbrev o_make_Total (v : Int) : VtsT outs29 × MtsT mouts29 := ((v, ()), ())
abbrev encO_make_Total (v : Int) : R := (encR outs29 (o_make_Total v).1, encMts mouts29 (o_make_Total v).2)
theorem injO_make_Total : ∀ a b, encO_make_Total a = encO_make_Total b → a = b := by
  rintro a0 b0 h
  have h1 := encR_inj (Prod.mk.inj h).1
  have h2 := encMts_inj (Prod.mk.inj h).2
  simp [o_make_Total] at h1 h2
  simp [h1, h2]
noncomputable abbrev X_make_Total (l1 : List Int) (n : Nat) : Option R := (lvl Try.prog HH n).2 29 [.s (.one (.fr 1 (List.map encI l1)))] []
noncomputable def F_make_Total (l1 : List Int) : Option Int := den encO_make_Total (X_make_Total l1)
theorem lim_make_Total (k : Nat) (l1 : List Int) : Lim (fun v => (encR outs29 (o_make_Total v).1, encMts mouts29 (o_make_Total v).2)) (fun n => (lvl Try.prog HH (n + k)).2 29 [.s (.one (.fr 1 (List.map encI l1)))] []) (F_make_Total l1) := Lim.den (x := (X_make_Total l1)) k
theorem F_make_Total_of (l1 : List Int) : ∀ r, ((
    (L_make_Total_0 l1 0 0).bind fun p8 =>
    some p8) : Option Int) = some r →
    F_make_Total l1 = some r := fun r h =>
  den_of (x := (X_make_Total l1)) injO_make_Total 1 (Lim.cong (fun n => fn29 n ((List.map encI l1))) (by
      refine Lim.bind (show Lim enc_L_make_Total_0 _ (L_make_Total_0 l1 0 0) from Lim.loop 0 rfl) fun p8 => ?_
      refine Lim.exit (.exit 0) S29_0_e0 ((p8, ()), ()) rfl rfl rfl ?_
      exact Lim.leaf rfl
    )) h

/-! armplan/armplanlaw14.weights -/
abbrev E_law14_weights_0 : Type := (Bool) ⊕ ((List Int) × Int)
def enc_L_law14_weights_0 : E_law14_weights_0 → Ex × St
  | .inl e => (.ret, encSt S15_0_r ((e, ()), ()))
  | .inr e => (.exit 0, encSt S15_0_e0 (((List.map encI e.1), e.2, ()), ()))
theorem inj_L_law14_weights_0 : ∀ a b, enc_L_law14_weights_0 a = enc_L_law14_weights_0 b → a = b := by
  rintro (a0 | ⟨a0, a1⟩) (b0 | ⟨b0, b1⟩) h <;> (first | (cases h; done) | (have h2 := encSt_inj rfl (Prod.mk.inj h).2; simp [map_inj encI_inj] at h2; simp [h2]) | (have h2 := (Prod.mk.inj h).1; simp at h2) | rfl)
noncomputable abbrev X_L_law14_weights_0 (v3 : List Int) (v4 : Int) (v5 : Int) (n : Nat) : Option (Ex × St) := (lvl Try.prog HH n).1 ⟨15, 0, true⟩ 0 (loopOf Try.f15 0) (encSt S15_0 (((List.map encI v3), v4, v5, ()), ()))
noncomputable def L_law14_weights_0 (v3 : List Int) (v4 : Int) (v5 : Int) : Option E_law14_weights_0 := den enc_L_law14_weights_0 (X_L_law14_weights_0 v3 v4 v5)
theorem L_law14_weights_0_of (v3 : List Int) (v4 : Int) (v5 : Int) : ∀ r, ((
    bif decide (v5 < (((v3.length : Nat) : Int))) then (
      bif decide (0 ≤ v5) then (
        (nth v3 v5.toNat).bind fun x6 =>
        bif decide (x6 < 0) then (
          some (.inl false))
        else
        bif decide (0 ≤ v5) then (
          (nth v3 v5.toNat).bind fun x7 =>
          bif decide (x7 > 65536) then (
            some (.inl false))
          else
          letIn (IntKind.wrap .i64 (v5 + 1) : Int) fun n8 =>
          L_law14_weights_0 v3 v4 n8)
        else
        none)
      else
      none)
    else
    some (.inr ((v3, v4)))) : Option E_law14_weights_0) = some r →
    L_law14_weights_0 v3 v4 v5 = some r := fun r h =>
  den_of (x := (X_L_law14_weights_0 v3 v4 v5)) inj_L_law14_weights_0 1 (Lim.cong (fun n => loop15_0 n ((List.map encI v3)) v4 v5) (by
      refine Lim.bif (by first | with_reducible rfl | (simp only [List.map_replicate, map_upd]; rfl) | (simp [map_upd] <;> rfl) | rfl) ?_ ?_
      · refine Lim.bif rfl ?_ Lim.none_
        refine Lim.nth encI rfl rfl fun x6 => ?_
        refine Lim.step rfl ?_
        refine Lim.step rfl ?_
        refine Lim.bif rfl ?_ ?_
        · exact Lim.leaf rfl
        refine Lim.bif rfl ?_ Lim.none_
        refine Lim.nth encI rfl rfl fun x7 => ?_
        refine Lim.step rfl ?_
        refine Lim.step rfl ?_
        refine Lim.bif rfl ?_ ?_
        · exact Lim.leaf rfl
        refine Lim.letIn rfl fun n8 => ?_
        exact Lim.loop 0 rfl
      exact Lim.leaf rfl
    )) h
abbrev o_law14_weights (v : Bool) : VtsT outs15 × MtsT mouts15 := ((v, ()), ())
abbrev encO_law14_weights (v : Bool) : R := (encR outs15 (o_law14_weights v).1, encMts mouts15 (o_law14_weights v).2)
theorem injO_law14_weights : ∀ a b, encO_law14_weights a = encO_law14_weights b → a = b := by
  rintro a0 b0 h
  have h1 := encR_inj (Prod.mk.inj h).1
  have h2 := encMts_inj (Prod.mk.inj h).2
  simp [o_law14_weights] at h1 h2
  simp [h1, h2]
noncomputable abbrev X_law14_weights (l1 : List Int) (n2 : Int) (n : Nat) : Option R := (lvl Try.prog HH n).2 15 [.s (.one (.fr 1 (List.map encI l1))), .s (.one (.v (.int .i64 n2)))] []
noncomputable def F_law14_weights (l1 : List Int) (n2 : Int) : Option Bool := den encO_law14_weights (X_law14_weights l1 n2)
theorem lim_law14_weights (k : Nat) (l1 : List Int) (n2 : Int) : Lim (fun v => (encR outs15 (o_law14_weights v).1, encMts mouts15 (o_law14_weights v).2)) (fun n => (lvl Try.prog HH (n + k)).2 15 [.s (.one (.fr 1 (List.map encI l1))), .s (.one (.v (.int .i64 n2)))] []) (F_law14_weights l1 n2) := Lim.den (x := (X_law14_weights l1 n2)) k
theorem F_law14_weights_of (l1 : List Int) (n2 : Int) : ∀ r, ((
    (L_law14_weights_0 l1 n2 0).bind fun p9 =>
    match p9 with
    | .inl e10 => (
      some e10)
    | .inr e11 => (
      bif (((e11.1.length : Nat) : Int)) == e11.2 then (
        (F_make_Total e11.1).bind fun y12 =>
        some (y12 == 65536))
      else
      some false)) : Option Bool) = some r →
    F_law14_weights l1 n2 = some r := fun r h =>
  den_of (x := (X_law14_weights l1 n2)) injO_law14_weights 1 (Lim.cong (fun n => fn15 n ((List.map encI l1)) n2) (by
      refine Lim.bind (show Lim enc_L_law14_weights_0 _ (L_law14_weights_0 l1 n2 0) from Lim.loop 0 rfl) fun p9 => ?_
      rcases p9 with e10 | e11
      · refine Lim.exit (.ret) S15_0_r ((e10, ()), ()) rfl rfl rfl ?_
        exact Lim.leaf rfl
      · refine Lim.bifF rfl ?_
        refine Lim.exit (.exit 0) S15_0_e0 (((List.map encI e11.1), e11.2, ()), ()) rfl rfl rfl ?_
        refine Lim.bif (by first | with_reducible rfl | (simp only [List.map_replicate, map_upd]; rfl) | (simp [map_upd] <;> rfl) | rfl) ?_ ?_
        · refine Lim.call o_make_Total (lim_make_Total 0 e11.1) rfl rfl fun y12 => ?_
          exact Lim.leaf rfl
        exact Lim.leaf rfl
    )) h

/-! armplan/armplanref10.Combine -/
abbrev E_ref10_Combine_0 : Type := (Int × Bool × I6) ⊕ ((List I6) × (List Int) × Int × I6)
def enc_L_ref10_Combine_0 : E_ref10_Combine_0 → Ex × St
  | .inl e => (.ret, encSt S62_0_r (((), e.1, e.2.1, ()), ((e.2.2.c0, e.2.2.c1, e.2.2.c2, e.2.2.c3, e.2.2.c4, e.2.2.c5, ()), ())))
  | .inr e => (.exit 0, encSt S62_0_e0 (((List.map encI6 e.1), (List.map encI e.2.1), (), e.2.2.1, ()), ((e.2.2.2.c0, e.2.2.2.c1, e.2.2.2.c2, e.2.2.2.c3, e.2.2.2.c4, e.2.2.2.c5, ()), ())))
theorem inj_L_ref10_Combine_0 : ∀ a b, enc_L_ref10_Combine_0 a = enc_L_ref10_Combine_0 b → a = b := by
  rintro (⟨a0, a1, ⟨a2, a3, a4, a5, a6, a7⟩⟩ | ⟨a0, a1, a2, ⟨a3, a4, a5, a6, a7, a8⟩⟩) (⟨b0, b1, ⟨b2, b3, b4, b5, b6, b7⟩⟩ | ⟨b0, b1, b2, ⟨b3, b4, b5, b6, b7, b8⟩⟩) h <;> (first | (cases h; done) | (have h2 := encSt_inj rfl (Prod.mk.inj h).2; simp [map_inj encI6_inj, map_inj encI_inj] at h2; simp [h2]) | (have h2 := (Prod.mk.inj h).1; simp at h2) | rfl)
abbrev E_ref10_Combine_2 : Type := (Int × I6 × I6)
def enc_L_ref10_Combine_2 (e : E_ref10_Combine_2) : Ex × St := (.exit 2, encSt S62_2_e2 (((), e.1, (), ()), ((e.2.1.c0, e.2.1.c1, e.2.1.c2, e.2.1.c3, e.2.1.c4, e.2.1.c5, ()), (e.2.2.c0, e.2.2.c1, e.2.2.c2, e.2.2.c3, e.2.2.c4, e.2.2.c5, ()), ())))
theorem inj_L_ref10_Combine_2 : ∀ a b, enc_L_ref10_Combine_2 a = enc_L_ref10_Combine_2 b → a = b := by
  rintro ⟨a0, ⟨a1, a2, a3, a4, a5, a6⟩, ⟨a7, a8, a9, a10, a11, a12⟩⟩ ⟨b0, ⟨b1, b2, b3, b4, b5, b6⟩, ⟨b7, b8, b9, b10, b11, b12⟩⟩ h
  first | (cases h; done) | (have h2 := encSt_inj rfl (Prod.mk.inj h).2; simp [] at h2; simp [h2]) | (have h2 := (Prod.mk.inj h).1; simp at h2) | rfl
abbrev E_ref10_Combine_4 : Type := ((List I6) × (List Int) × Int × Int × I6 × I6)
def enc_L_ref10_Combine_4 (e : E_ref10_Combine_4) : Ex × St := (.exit 4, encSt S62_4_e4 (((List.map encI6 e.1), (List.map encI e.2.1), (), e.2.2.1, (), e.2.2.2.1, ()), ((e.2.2.2.2.1.c0, e.2.2.2.2.1.c1, e.2.2.2.2.1.c2, e.2.2.2.2.1.c3, e.2.2.2.2.1.c4, e.2.2.2.2.1.c5, ()), (e.2.2.2.2.2.c0, e.2.2.2.2.2.c1, e.2.2.2.2.2.c2, e.2.2.2.2.2.c3, e.2.2.2.2.2.c4, e.2.2.2.2.2.c5, ()), ())))
theorem inj_L_ref10_Combine_4 : ∀ a b, enc_L_ref10_Combine_4 a = enc_L_ref10_Combine_4 b → a = b := by
  rintro ⟨a0, a1, a2, a3, ⟨a4, a5, a6, a7, a8, a9⟩, ⟨a10, a11, a12, a13, a14, a15⟩⟩ ⟨b0, b1, b2, b3, ⟨b4, b5, b6, b7, b8, b9⟩, ⟨b10, b11, b12, b13, b14, b15⟩⟩ h
  first | (cases h; done) | (have h2 := encSt_inj rfl (Prod.mk.inj h).2; simp [map_inj encI6_inj, map_inj encI_inj] at h2; simp [h2]) | (have h2 := (Prod.mk.inj h).1; simp at h2) | rfl
noncomputable abbrev X_L_ref10_Combine_0 (v4 : List I6) (v5 : List Int) (v6 : Int) (v7 : Int) (c8 : I6) (n : Nat) : Option (Ex × St) := (lvl Try.prog HH n).1 ⟨62, 0, true⟩ 0 (loopOf Try.f62 0) (encSt S62_0 (((List.map encI6 v4), (List.map encI v5), (), v6, v7, ()), ((c8.c0, c8.c1, c8.c2, c8.c3, c8.c4, c8.c5, ()), ())))
noncomputable def L_ref10_Combine_0 (v4 : List I6) (v5 : List Int) (v6 : Int) (v7 : Int) (c8 : I6) : Option E_ref10_Combine_0 := den enc_L_ref10_Combine_0 (X_L_ref10_Combine_0 v4 v5 v6 v7 c8)
noncomputable abbrev X_L_ref10_Combine_2 (v18 : List I6) (v19 : List Int) (v20 : Int) (v21 : Int) (c22 : I6) (c23 : I6) (n : Nat) : Option (Ex × St) := (lvl Try.prog HH n).1 ⟨62, 0, true⟩ 2 (loopOf Try.f62 2) (encSt S62_2 (((List.map encI6 v18), (List.map encI v19), (), v20, (), v21, ()), ((c22.c0, c22.c1, c22.c2, c22.c3, c22.c4, c22.c5, ()), (c23.c0, c23.c1, c23.c2, c23.c3, c23.c4, c23.c5, ()), ())))
noncomputable def L_ref10_Combine_2 (v18 : List I6) (v19 : List Int) (v20 : Int) (v21 : Int) (c22 : I6) (c23 : I6) : Option E_ref10_Combine_2 := den enc_L_ref10_Combine_2 (X_L_ref10_Combine_2 v18 v19 v20 v21 c22 c23)
theorem L_ref10_Combine_0_of (v4 : List I6) (v5 : List Int) (v6 : Int) (v7 : Int) (c8 : I6) : ∀ r, ((
    bif decide (v7 < (((v5.length : Nat) : Int))) then (
      bif decide (0 ≤ v7) then (
        (nth v5 v7.toNat).bind fun x9 =>
        bif decide (x9 < 0) then (
          some (.inl ((0, false, (I6.mk 0 0 0 0 0 0)))))
        else
        bif decide (0 ≤ v7) then (
          (nth v5 v7.toNat).bind fun x10 =>
          letIn (IntKind.wrap .i64 (65536 - v6) : Int) fun n11 =>
          bif decide (x10 > n11) then (
            some (.inl ((0, false, (I6.mk 0 0 0 0 0 0)))))
          else
          bif decide (0 ≤ v7) then (
            (nth v5 v7.toNat).bind fun x12 =>
            letIn (IntKind.wrap .i64 (v6 + x12) : Int) fun n13 =>
            letIn (IntKind.wrap .i64 (v7 + 1) : Int) fun n14 =>
            L_ref10_Combine_0 v4 v5 n13 n14 c8)
          else
          none)
        else
        none)
      else
      none)
    else
    some (.inr ((v4, v5, v6, c8)))) : Option E_ref10_Combine_0) = some r →
    L_ref10_Combine_0 v4 v5 v6 v7 c8 = some r := fun r h =>
  den_of (x := (X_L_ref10_Combine_0 v4 v5 v6 v7 c8)) inj_L_ref10_Combine_0 1 (Lim.cong (fun n => loop62_0 n ((List.map encI6 v4)) ((List.map encI v5)) v6 v7 c8.c0 c8.c1 c8.c2 c8.c3 c8.c4 c8.c5) (by
      refine Lim.bif (by first | with_reducible rfl | (simp only [List.map_replicate, map_upd]; rfl) | (simp [map_upd] <;> rfl) | rfl) ?_ ?_
      · refine Lim.bif rfl ?_ Lim.none_
        refine Lim.nth encI rfl rfl fun x9 => ?_
        refine Lim.step rfl ?_
        refine Lim.step rfl ?_
        refine Lim.bif rfl ?_ ?_
        · exact Lim.leaf rfl
        refine Lim.bif rfl ?_ Lim.none_
        refine Lim.nth encI rfl rfl fun x10 => ?_
        refine Lim.step rfl ?_
        refine Lim.step rfl ?_
        refine Lim.letIn rfl fun n11 => ?_
        refine Lim.bif rfl ?_ ?_
        · exact Lim.leaf rfl
        refine Lim.bif rfl ?_ Lim.none_
        refine Lim.nth encI rfl rfl fun x12 => ?_
        refine Lim.step rfl ?_
        refine Lim.step rfl ?_
        refine Lim.letIn rfl fun n13 => ?_
        refine Lim.letIn rfl fun n14 => ?_
        exact Lim.loop 0 rfl
      exact Lim.leaf rfl
    )) h
theorem L_ref10_Combine_2_of (v18 : List I6) (v19 : List Int) (v20 : Int) (v21 : Int) (c22 : I6) (c23 : I6) : ∀ r, ((
    bif decide (v21 < (((v18.length : Nat) : Int))) then (
      Option.bind (α := E_ref10_Combine_4) (
        bif decide (0 ≤ v21) then (
          (nth v19 v21.toNat).bind fun x24 =>
          bif decide (0 ≤ v21) then (
            (nth v18 v21.toNat).bind fun x25 =>
            letIn (IntKind.wrap .i64 (x24 * x25.c0) : Int) fun n26 =>
            letIn (IntKind.wrap .i64 (c23.c0 + n26) : Int) fun n27 =>
            bif decide (0 ≤ v21) then (
              (nth v19 v21.toNat).bind fun x28 =>
              bif decide (0 ≤ v21) then (
                (nth v18 v21.toNat).bind fun x29 =>
                letIn (IntKind.wrap .i64 (x28 * x29.c1) : Int) fun n30 =>
                letIn (IntKind.wrap .i64 (c23.c1 + n30) : Int) fun n31 =>
                bif decide (0 ≤ v21) then (
                  (nth v19 v21.toNat).bind fun x32 =>
                  bif decide (0 ≤ v21) then (
                    (nth v18 v21.toNat).bind fun x33 =>
                    letIn (IntKind.wrap .i64 (x32 * x33.c2) : Int) fun n34 =>
                    letIn (IntKind.wrap .i64 (c23.c2 + n34) : Int) fun n35 =>
                    bif decide (0 ≤ v21) then (
                      (nth v19 v21.toNat).bind fun x36 =>
                      bif decide (0 ≤ v21) then (
                        (nth v18 v21.toNat).bind fun x37 =>
                        letIn (IntKind.wrap .i64 (x36 * x37.c3) : Int) fun n38 =>
                        letIn (IntKind.wrap .i64 (c23.c3 + n38) : Int) fun n39 =>
                        bif decide (0 ≤ v21) then (
                          (nth v19 v21.toNat).bind fun x40 =>
                          bif decide (0 ≤ v21) then (
                            (nth v18 v21.toNat).bind fun x41 =>
                            letIn (IntKind.wrap .i64 (x40 * x41.c4) : Int) fun n42 =>
                            letIn (IntKind.wrap .i64 (c23.c4 + n42) : Int) fun n43 =>
                            bif decide (0 ≤ v21) then (
                              (nth v19 v21.toNat).bind fun x44 =>
                              bif decide (0 ≤ v21) then (
                                (nth v18 v21.toNat).bind fun x45 =>
                                letIn (IntKind.wrap .i64 (x44 * x45.c5) : Int) fun n46 =>
                                letIn (IntKind.wrap .i64 (c23.c5 + n46) : Int) fun n47 =>
                                some ((v18, v19, v20, v21, c22, (I6.mk n27 n31 n35 n39 n43 n47))))
                              else
                              none)
                            else
                            none)
                          else
                          none)
                        else
                        none)
                      else
                      none)
                    else
                    none)
                  else
                  none)
                else
                none)
              else
              none)
            else
            none)
          else
          none)
        else
        none) fun p48 =>
      letIn (IntKind.wrap .i64 (p48.2.2.2.1 + 1) : Int) fun n49 =>
      L_ref10_Combine_2 p48.1 p48.2.1 p48.2.2.1 n49 p48.2.2.2.2.1 p48.2.2.2.2.2)
    else
    some ((v20, c22, c23))) : Option E_ref10_Combine_2) = some r →
    L_ref10_Combine_2 v18 v19 v20 v21 c22 c23 = some r := fun r h =>
  den_of (x := (X_L_ref10_Combine_2 v18 v19 v20 v21 c22 c23)) inj_L_ref10_Combine_2 5 (Lim.cong (fun n => loop62_2 n ((List.map encI6 v18)) ((List.map encI v19)) v20 v21 c22.c0 c22.c1 c22.c2 c22.c3 c22.c4 c22.c5 c23.c0 c23.c1 c23.c2 c23.c3 c23.c4 c23.c5) (by
      refine Lim.bif (by first | with_reducible rfl | (simp only [List.map_replicate, map_upd]; rfl) | (simp [map_upd] <;> rfl) | rfl) ?_ ?_
      · refine Lim.bind (e := enc_L_ref10_Combine_4) ?_ fun p48 => ?_
        · refine Lim.bif rfl ?_ Lim.none_
          refine Lim.nth encI rfl rfl fun x24 => ?_
          refine Lim.step rfl ?_
          refine Lim.step rfl ?_
          refine Lim.bif rfl ?_ Lim.none_
          refine Lim.nth encI6 rfl rfl fun x25 => ?_
          refine Lim.step rfl ?_
          refine Lim.step rfl ?_
          refine Lim.letIn rfl fun n26 => ?_
          refine Lim.letIn rfl fun n27 => ?_
          refine Lim.bif rfl ?_ Lim.none_
          refine Lim.nth encI rfl rfl fun x28 => ?_
          refine Lim.step rfl ?_
          refine Lim.step rfl ?_
          refine Lim.bif rfl ?_ Lim.none_
          refine Lim.nth encI6 rfl rfl fun x29 => ?_
          refine Lim.step rfl ?_
          refine Lim.step rfl ?_
          refine Lim.letIn rfl fun n30 => ?_
          refine Lim.letIn rfl fun n31 => ?_
          refine Lim.bif rfl ?_ Lim.none_
          refine Lim.nth encI rfl rfl fun x32 => ?_
          refine Lim.step rfl ?_
          refine Lim.step rfl ?_
          refine Lim.bif rfl ?_ Lim.none_
          refine Lim.nth encI6 rfl rfl fun x33 => ?_
          refine Lim.step rfl ?_
          refine Lim.step rfl ?_
          refine Lim.letIn rfl fun n34 => ?_
          refine Lim.letIn rfl fun n35 => ?_
          refine Lim.bif rfl ?_ Lim.none_
          refine Lim.nth encI rfl rfl fun x36 => ?_
          refine Lim.step rfl ?_
          refine Lim.step rfl ?_
          refine Lim.bif rfl ?_ Lim.none_
          refine Lim.nth encI6 rfl rfl fun x37 => ?_
          refine Lim.step rfl ?_
          refine Lim.step rfl ?_
          refine Lim.letIn rfl fun n38 => ?_
          refine Lim.letIn rfl fun n39 => ?_
          refine Lim.bif rfl ?_ Lim.none_
          refine Lim.nth encI rfl rfl fun x40 => ?_
          refine Lim.step rfl ?_
          refine Lim.step rfl ?_
          refine Lim.bif rfl ?_ Lim.none_
          refine Lim.nth encI6 rfl rfl fun x41 => ?_
          refine Lim.step rfl ?_
          refine Lim.step rfl ?_
          refine Lim.letIn rfl fun n42 => ?_
          refine Lim.letIn rfl fun n43 => ?_
          refine Lim.bif rfl ?_ Lim.none_
          refine Lim.nth encI rfl rfl fun x44 => ?_
          refine Lim.step rfl ?_
          refine Lim.step rfl ?_
          refine Lim.bif rfl ?_ Lim.none_
          refine Lim.nth encI6 rfl rfl fun x45 => ?_
          refine Lim.step rfl ?_
          refine Lim.step rfl ?_
          refine Lim.letIn rfl fun n46 => ?_
          refine Lim.letIn rfl fun n47 => ?_
          exact Lim.leaf rfl
        refine Lim.exit (.exit 4) S62_4_e4 (((List.map encI6 p48.1), (List.map encI p48.2.1), (), p48.2.2.1, (), p48.2.2.2.1, ()), ((p48.2.2.2.2.1.c0, p48.2.2.2.2.1.c1, p48.2.2.2.2.1.c2, p48.2.2.2.2.1.c3, p48.2.2.2.2.1.c4, p48.2.2.2.2.1.c5, ()), (p48.2.2.2.2.2.c0, p48.2.2.2.2.2.c1, p48.2.2.2.2.2.c2, p48.2.2.2.2.2.c3, p48.2.2.2.2.2.c4, p48.2.2.2.2.2.c5, ()), ())) rfl rfl rfl ?_
        refine Lim.letIn rfl fun n49 => ?_
        exact Lim.loop 4 rfl
      exact Lim.leaf rfl
    )) h
abbrev o_ref10_Combine (v : I6 × Int × Bool) : VtsT outs62 × MtsT mouts62 := (((v.1.c0, v.1.c1, v.1.c2, v.1.c3, v.1.c4, v.1.c5, ()), v.2.1, v.2.2, ()), ())
abbrev encO_ref10_Combine (v : I6 × Int × Bool) : R := (encR outs62 (o_ref10_Combine v).1, encMts mouts62 (o_ref10_Combine v).2)
theorem injO_ref10_Combine : ∀ a b, encO_ref10_Combine a = encO_ref10_Combine b → a = b := by
  rintro ⟨⟨a0, a1, a2, a3, a4, a5⟩, a6, a7⟩ ⟨⟨b0, b1, b2, b3, b4, b5⟩, b6, b7⟩ h
  have h1 := encR_inj (Prod.mk.inj h).1
  have h2 := encMts_inj (Prod.mk.inj h).2
  simp [o_ref10_Combine] at h1 h2
  simp [h1, h2]
noncomputable abbrev X_ref10_Combine (l1 : List I6) (weights2 : List Int) (n : Nat) : Option R := (lvl Try.prog HH n).2 62 [.s (.one (.fr 6 (List.map encI6 l1))), .s (.one (.fr 1 (List.map encI weights2)))] []
noncomputable def F_ref10_Combine (l1 : List I6) (weights2 : List Int) : Option (I6 × Int × Bool) := den encO_ref10_Combine (X_ref10_Combine l1 weights2)
theorem lim_ref10_Combine (k : Nat) (l1 : List I6) (weights2 : List Int) : Lim (fun v => (encR outs62 (o_ref10_Combine v).1, encMts mouts62 (o_ref10_Combine v).2)) (fun n => (lvl Try.prog HH (n + k)).2 62 [.s (.one (.fr 6 (List.map encI6 l1))), .s (.one (.fr 1 (List.map encI weights2)))] []) (F_ref10_Combine l1 weights2) := Lim.den (x := (X_ref10_Combine l1 weights2)) k
theorem F_ref10_Combine_of (l1 : List I6) (weights2 : List Int) : ∀ r, ((
    (F_ref10_Placed l1).bind fun y3 =>
    bif !y3 then (
      some ((I6.mk 0 0 0 0 0 0), 0, false))
    else
    bif (((weights2.length : Nat) : Int)) != (((l1.length : Nat) : Int)) then (
      some ((I6.mk 0 0 0 0 0 0), 0, false))
    else
    (L_ref10_Combine_0 l1 weights2 0 0 ((I6.mk 0 0 0 0 0 0))).bind fun p15 =>
    match p15 with
    | .inl e16 => (
      some (e16.2.2, e16.1, e16.2.1))
    | .inr e17 => (
      bif decide (e17.2.2.1 < 1) then (
        some ((I6.mk 0 0 0 0 0 0), 0, false))
      else
      (L_ref10_Combine_2 e17.1 e17.2.1 e17.2.2.1 0 e17.2.2.2 ((I6.mk 0 0 0 0 0 0))).bind fun p50 =>
      some (p50.2.2, p50.1, true))) : Option (I6 × Int × Bool)) = some r →
    F_ref10_Combine l1 weights2 = some r := fun r h =>
  den_of (x := (X_ref10_Combine l1 weights2)) injO_ref10_Combine 1 (Lim.cong (fun n => fn62 n ((List.map encI6 l1)) ((List.map encI weights2))) (by
      refine Lim.call o_ref10_Placed (lim_ref10_Placed 0 l1) rfl rfl fun y3 => ?_
      refine Lim.bif rfl ?_ ?_
      · exact Lim.leaf rfl
      refine Lim.bif (by first | with_reducible rfl | (simp only [List.map_replicate, map_upd]; rfl) | (simp [map_upd] <;> rfl) | rfl) ?_ ?_
      · exact Lim.leaf rfl
      refine Lim.bind (show Lim enc_L_ref10_Combine_0 _ (L_ref10_Combine_0 l1 weights2 0 0 ((I6.mk 0 0 0 0 0 0))) from Lim.loop 0 rfl) fun p15 => ?_
      rcases p15 with e16 | e17
      · refine Lim.exit (.ret) S62_0_r (((), e16.1, e16.2.1, ()), ((e16.2.2.c0, e16.2.2.c1, e16.2.2.c2, e16.2.2.c3, e16.2.2.c4, e16.2.2.c5, ()), ())) rfl rfl rfl ?_
        exact Lim.leaf rfl
      · refine Lim.bifF rfl ?_
        refine Lim.exit (.exit 0) S62_0_e0 (((List.map encI6 e17.1), (List.map encI e17.2.1), (), e17.2.2.1, ()), ((e17.2.2.2.c0, e17.2.2.2.c1, e17.2.2.2.c2, e17.2.2.2.c3, e17.2.2.2.c4, e17.2.2.2.c5, ()), ())) rfl rfl rfl ?_
        refine Lim.bif rfl ?_ ?_
        · exact Lim.leaf rfl
        refine Lim.bind (show Lim enc_L_ref10_Combine_2 _ (L_ref10_Combine_2 e17.1 e17.2.1 e17.2.2.1 0 e17.2.2.2 ((I6.mk 0 0 0 0 0 0))) from Lim.loop 0 rfl) fun p50 => ?_
        refine Lim.exit (.exit 2) S62_2_e2 (((), p50.1, (), ()), ((p50.2.1.c0, p50.2.1.c1, p50.2.1.c2, p50.2.1.c3, p50.2.1.c4, p50.2.1.c5, ()), (p50.2.2.c0, p50.2.2.c1, p50.2.2.c2, p50.2.2.c3, p50.2.2.c4, p50.2.2.c5, ()), ())) rfl rfl rfl ?_
        exact Lim.leaf rfl
    )) h

/-! armplan/armplanref14.radius -/
abbrev o_ref14_radius (v : Bool) : VtsT outs63 × MtsT mouts63 := ((v, ()), ())
abbrev encO_ref14_radius (v : Bool) : R := (encR outs63 (o_ref14_radius v).1, encMts mouts63 (o_ref14_radius v).2)
theorem injO_ref14_radius : ∀ a b, encO_ref14_radius a = encO_ref14_radius b → a = b := by
  rintro a0 b0 h
  have h1 := encR_inj (Prod.mk.inj h).1
  have h2 := encMts_inj (Prod.mk.inj h).2
  simp [o_ref14_radius] at h1 h2
  simp [h1, h2]
noncomputable abbrev X_ref14_radius (r1 : Int) (n : Nat) : Option R := (lvl Try.prog HH n).2 63 [.s (.one (.v (.int .i64 r1)))] []
noncomputable def F_ref14_radius (r1 : Int) : Option Bool := den encO_ref14_radius (X_ref14_radius r1)
theorem lim_ref14_radius (k : Nat) (r1 : Int) : Lim (fun v => (encR outs63 (o_ref14_radius v).1, encMts mouts63 (o_ref14_radius v).2)) (fun n => (lvl Try.prog HH (n + k)).2 63 [.s (.one (.v (.int .i64 r1)))] []) (F_ref14_radius r1) := Lim.den (x := (X_ref14_radius r1)) k
theorem F_ref14_radius_of (r1 : Int) : ∀ r, ((
    bif decide (r1 ≥ 0) then (
      some (decide (r1 ≤ 1048576)))
    else
    some false) : Option Bool) = some r →
    F_ref14_radius r1 = some r := fun r h =>
  den_of (x := (X_ref14_radius r1)) injO_ref14_radius 1 (Lim.cong (fun n => fn63 n r1) (by
      refine Lim.bif rfl ?_ ?_
      · exact Lim.leaf rfl
      exact Lim.leaf rfl
    )) h
def G_ref14_radius (r1 : Int) : Bool :=
  bif decide (r1 ≥ 0) then (
    (decide (r1 ≤ 1048576)))
  else
  false
theorem F_ref14_radius_eq (r1 : Int) : F_ref14_radius r1 = some (G_ref14_radius r1) := F_ref14_radius_of r1 _ (by
  unfold G_ref14_radius
  refine Tot.bif ?_ ?_
  · rfl
  rfl)

/-! armplan/armplanref14.size -/
abbrev o_ref14_size (v : Int) : VtsT outs65 × MtsT mouts65 := ((v, ()), ())
abbrev encO_ref14_size (v : Int) : R := (encR outs65 (o_ref14_size v).1, encMts mouts65 (o_ref14_size v).2)
theorem injO_ref14_size : ∀ a b, encO_ref14_size a = encO_ref14_size b → a = b := by
  rintro a0 b0 h
  have h1 := encR_inj (Prod.mk.inj h).1
  have h2 := encMts_inj (Prod.mk.inj h).2
  simp [o_ref14_size] at h1 h2
  simp [h1, h2]
noncomputable abbrev X_ref14_size (x1 : Int) (n : Nat) : Option R := (lvl Try.prog HH n).2 65 [.s (.one (.v (.int .i64 x1)))] []
noncomputable def F_ref14_size (x1 : Int) : Option Int := den encO_ref14_size (X_ref14_size x1)
theorem lim_ref14_size (k : Nat) (x1 : Int) : Lim (fun v => (encR outs65 (o_ref14_size v).1, encMts mouts65 (o_ref14_size v).2)) (fun n => (lvl Try.prog HH (n + k)).2 65 [.s (.one (.v (.int .i64 x1)))] []) (F_ref14_size x1) := Lim.den (x := (X_ref14_size x1)) k
theorem F_ref14_size_of (x1 : Int) : ∀ r, ((
    letIn (IntKind.wrap .i64 (0 - x1) : Int) fun n2 =>
    letIn (if n2 > x1 then n2 else x1 : Int) fun n3 =>
    some n3) : Option Int) = some r →
    F_ref14_size x1 = some r := fun r h =>
  den_of (x := (X_ref14_size x1)) injO_ref14_size 1 (Lim.cong (fun n => fn65 n x1) (by
      refine Lim.letIn rfl fun n2 => ?_
      refine Lim.letIn rfl fun n3 => ?_
      exact Lim.leaf rfl
    )) h
def G_ref14_size (x1 : Int) : Int :=
  letIn (IntKind.wrap .i64 (0 - x1) : Int) fun n2 =>
  letIn (if n2 > x1 then n2 else x1 : Int) fun n3 =>
  n3
theorem F_ref14_size_eq (x1 : Int) : F_ref14_size x1 = some (G_ref14_size x1) := F_ref14_size_of x1 _ (by
  unfold G_ref14_size
  refine Tot.letIn fun n2 => ?_
  refine Tot.letIn fun n3 => ?_
  rfl)

/-! armplan/armplanref1.Ceil -/
abbrev o_ref1_Ceil (v : Int) : VtsT outs64 × MtsT mouts64 := ((v, ()), ())
abbrev encO_ref1_Ceil (v : Int) : R := (encR outs64 (o_ref1_Ceil v).1, encMts mouts64 (o_ref1_Ceil v).2)
theorem injO_ref1_Ceil : ∀ a b, encO_ref1_Ceil a = encO_ref1_Ceil b → a = b := by
  rintro a0 b0 h
  have h1 := encR_inj (Prod.mk.inj h).1
  have h2 := encMts_inj (Prod.mk.inj h).2
  simp [o_ref1_Ceil] at h1 h2
  simp [h1, h2]
noncomputable abbrev X_ref1_Ceil (a1 : Int) (b2 : Int) (n : Nat) : Option R := (lvl Try.prog HH n).2 64 [.s (.one (.v (.int .i64 a1))), .s (.one (.v (.int .i64 b2)))] []
noncomputable def F_ref1_Ceil (a1 : Int) (b2 : Int) : Option Int := den encO_ref1_Ceil (X_ref1_Ceil a1 b2)
theorem lim_ref1_Ceil (k : Nat) (a1 : Int) (b2 : Int) : Lim (fun v => (encR outs64 (o_ref1_Ceil v).1, encMts mouts64 (o_ref1_Ceil v).2)) (fun n => (lvl Try.prog HH (n + k)).2 64 [.s (.one (.v (.int .i64 a1))), .s (.one (.v (.int .i64 b2)))] []) (F_ref1_Ceil a1 b2) := Lim.den (x := (X_ref1_Ceil a1 b2)) k
theorem F_ref1_Ceil_of (a1 : Int) (b2 : Int) : ∀ r, ((
    bif b2 == 0 then (
      none)
    else
    letIn (IntKind.wrap .i64 (Int.tdiv a1 b2) : Int) fun n3 =>
    bif b2 == 0 then (
      none)
    else
    letIn (Int.tmod a1 b2 : Int) fun n4 =>
    bif decide (n4 > 0) then (
      letIn (IntKind.wrap .i64 (n3 + 1) : Int) fun n5 =>
      some n5)
    else
    some n3) : Option Int) = some r →
    F_ref1_Ceil a1 b2 = some r := fun r h =>
  den_of (x := (X_ref1_Ceil a1 b2)) injO_ref1_Ceil 1 (Lim.cong (fun n => fn64 n a1 b2) (by
      refine Lim.bif rfl Lim.none_ ?_
      refine Lim.letIn rfl fun n3 => ?_
      refine Lim.bif rfl Lim.none_ ?_
      refine Lim.letIn rfl fun n4 => ?_
      refine Lim.bif rfl ?_ ?_
      · refine Lim.letIn rfl fun n5 => ?_
        exact Lim.leaf rfl
      exact Lim.leaf rfl
    )) h

/-! armplan/armplanref14.Excess -/
abbrev E_ref14_Excess_0 : Type := (Int × Bool) ⊕ (Int)
def enc_L_ref14_Excess_0 : E_ref14_Excess_0 → Ex × St
  | .inl e => (.ret, encSt S35_0_r ((e.1, e.2, ()), ()))
  | .inr e => (.exit 0, encSt S35_0_e0 ((e, ()), ()))
theorem inj_L_ref14_Excess_0 : ∀ a b, enc_L_ref14_Excess_0 a = enc_L_ref14_Excess_0 b → a = b := by
  rintro (⟨a0, a1⟩ | a0) (⟨b0, b1⟩ | b0) h <;> (first | (cases h; done) | (have h2 := encSt_inj rfl (Prod.mk.inj h).2; simp [] at h2; simp [h2]) | (have h2 := (Prod.mk.inj h).1; simp at h2) | rfl)
abbrev o_ref14_Excess (v : Int × Bool) : VtsT outs35 × MtsT mouts35 := ((v.1, v.2, ()), ())
abbrev encO_ref14_Excess (v : Int × Bool) : R := (encR outs35 (o_ref14_Excess v).1, encMts mouts35 (o_ref14_Excess v).2)
theorem injO_ref14_Excess : ∀ a b, encO_ref14_Excess a = encO_ref14_Excess b → a = b := by
  rintro ⟨a0, a1⟩ ⟨b0, b1⟩ h
  have h1 := encR_inj (Prod.mk.inj h).1
  have h2 := encMts_inj (Prod.mk.inj h).2
  simp [o_ref14_Excess] at h1 h2
  simp [h1, h2]
noncomputable abbrev X_ref14_Excess (left1 : List Int) (right2 : List Int) (a3 : List I6) (ra4 : Int) (b5 : List I6) (rb6 : Int) (n : Nat) : Option R := (lvl Try.prog HH n).2 35 [.s (.one (.fr 1 (List.map encI left1))), .s (.one (.fr 1 (List.map encI right2))), .s (.one (.fr 6 (List.map encI6 a3))), .s (.one (.v (.int .i64 ra4))), .s (.one (.fr 6 (List.map encI6 b5))), .s (.one (.v (.int .i64 rb6)))] []
noncomputable def F_ref14_Excess (left1 : List Int) (right2 : List Int) (a3 : List I6) (ra4 : Int) (b5 : List I6) (rb6 : Int) : Option (Int × Bool) := den encO_ref14_Excess (X_ref14_Excess left1 right2 a3 ra4 b5 rb6)
theorem lim_ref14_Excess (k : Nat) (left1 : List Int) (right2 : List Int) (a3 : List I6) (ra4 : Int) (b5 : List I6) (rb6 : Int) : Lim (fun v => (encR outs35 (o_ref14_Excess v).1, encMts mouts35 (o_ref14_Excess v).2)) (fun n => (lvl Try.prog HH (n + k)).2 35 [.s (.one (.fr 1 (List.map encI left1))), .s (.one (.fr 1 (List.map encI right2))), .s (.one (.fr 6 (List.map encI6 a3))), .s (.one (.v (.int .i64 ra4))), .s (.one (.fr 6 (List.map encI6 b5))), .s (.one (.v (.int .i64 rb6)))] []) (F_ref14_Excess left1 right2 a3 ra4 b5 rb6) := Lim.den (x := (X_ref14_Excess left1 right2 a3 ra4 b5 rb6)) k
theorem F_ref14_Excess_of (left1 : List Int) (right2 : List Int) (a3 : List I6) (ra4 : Int) (b5 : List I6) (rb6 : Int) : ∀ r, ((
    (F_ref10_Combine a3 left1).bind fun y7 =>
    (F_ref10_Combine b5 right2).bind fun y8 =>
    bif !y7.2.2 then (
      some (0, false))
    else
    bif !y8.2.2 then (
      some (0, false))
    else
    bif y7.2.1 != y8.2.1 then (
      some (0, false))
    else
    (F_ref14_radius ra4).bind fun y9 =>
    bif !y9 then (
      some (0, false))
    else
    (F_ref14_radius rb6).bind fun y10 =>
    bif !y10 then (
      some (0, false))
    else
    letIn (IntKind.wrap .i64 (ra4 + rb6) : Int) fun n11 =>
    letIn (IntKind.wrap .i64 (ra4 + rb6) : Int) fun n12 =>
    letIn (IntKind.wrap .i64 (n11 * n12) : Int) fun n13 =>
    Option.bind (α := E_ref14_Excess_0) (
      letIn (IntKind.wrap .i64 (y7.1.c0 - y8.1.c1) : Int) fun n14 =>
      (F_ref14_size n14).bind fun y15 =>
      letIn (IntKind.wrap .i64 (y7.1.c1 - y8.1.c0) : Int) fun n16 =>
      (F_ref14_size n16).bind fun y17 =>
      letIn (if y17 > y15 then y17 else y15 : Int) fun n18 =>
      (F_ref1_Ceil n18 y7.2.1).bind fun y19 =>
      letIn (IntKind.wrap .i64 (ra4 + rb6) : Int) fun n20 =>
      bif decide (y19 > n20) then (
        some (.inl (((-1), true))))
      else
      letIn (IntKind.wrap .i64 (y19 * y19) : Int) fun n21 =>
      letIn (IntKind.wrap .i64 (n13 - n21) : Int) fun n22 =>
      letIn (IntKind.wrap .i64 (y7.1.c2 - y8.1.c3) : Int) fun n23 =>
      (F_ref14_size n23).bind fun y24 =>
      letIn (IntKind.wrap .i64 (y7.1.c3 - y8.1.c2) : Int) fun n25 =>
      (F_ref14_size n25).bind fun y26 =>
      letIn (if y26 > y24 then y26 else y24 : Int) fun n27 =>
      (F_ref1_Ceil n27 y7.2.1).bind fun y28 =>
      letIn (IntKind.wrap .i64 (ra4 + rb6) : Int) fun n29 =>
      bif decide (y28 > n29) then (
        some (.inl (((-1), true))))
      else
      letIn (IntKind.wrap .i64 (y28 * y28) : Int) fun n30 =>
      letIn (IntKind.wrap .i64 (n22 - n30) : Int) fun n31 =>
      letIn (IntKind.wrap .i64 (y7.1.c4 - y8.1.c5) : Int) fun n32 =>
      (F_ref14_size n32).bind fun y33 =>
      letIn (IntKind.wrap .i64 (y7.1.c5 - y8.1.c4) : Int) fun n34 =>
      (F_ref14_size n34).bind fun y35 =>
      letIn (if y35 > y33 then y35 else y33 : Int) fun n36 =>
      (F_ref1_Ceil n36 y7.2.1).bind fun y37 =>
      letIn (IntKind.wrap .i64 (ra4 + rb6) : Int) fun n38 =>
      bif decide (y37 > n38) then (
        some (.inl (((-1), true))))
      else
      letIn (IntKind.wrap .i64 (y37 * y37) : Int) fun n39 =>
      letIn (IntKind.wrap .i64 (n31 - n39) : Int) fun n40 =>
      some (.inr n40)) fun p41 =>
    match p41 with
    | .inl e42 => (
      some (e42.1, e42.2))
    | .inr e43 => (
      some (e43, true))) : Option (Int × Bool)) = some r →
    F_ref14_Excess left1 right2 a3 ra4 b5 rb6 = some r := fun r h =>
  den_of (x := (X_ref14_Excess left1 right2 a3 ra4 b5 rb6)) injO_ref14_Excess 5 (Lim.cong (fun n => fn35 n ((List.map encI left1)) ((List.map encI right2)) ((List.map encI6 a3)) ra4 ((List.map encI6 b5)) rb6) (by
      refine Lim.call o_ref10_Combine (lim_ref10_Combine 4 a3 left1) rfl rfl fun y7 => ?_
      refine Lim.call o_ref10_Combine (lim_ref10_Combine 4 b5 right2) rfl rfl fun y8 => ?_
      refine Lim.bif rfl ?_ ?_
      · exact Lim.leaf rfl
      refine Lim.bif rfl ?_ ?_
      · exact Lim.leaf rfl
      refine Lim.bif rfl ?_ ?_
      · exact Lim.leaf rfl
      refine Lim.call o_ref14_radius (lim_ref14_radius 4 ra4) rfl rfl fun y9 => ?_
      refine Lim.bif rfl ?_ ?_
      · exact Lim.leaf rfl
      refine Lim.call o_ref14_radius (lim_ref14_radius 4 rb6) rfl rfl fun y10 => ?_
      refine Lim.bif rfl ?_ ?_
      · exact Lim.leaf rfl
      refine Lim.letIn rfl fun n11 => ?_
      refine Lim.letIn rfl fun n12 => ?_
      refine Lim.letIn rfl fun n13 => ?_
      refine Lim.bind (e := enc_L_ref14_Excess_0) ?_ fun p41 => ?_
      · refine Lim.letIn rfl fun n14 => ?_
        refine Lim.call o_ref14_size (lim_ref14_size 3 n14) rfl rfl fun y15 => ?_
        refine Lim.letIn rfl fun n16 => ?_
        refine Lim.call o_ref14_size (lim_ref14_size 3 n16) rfl rfl fun y17 => ?_
        refine Lim.letIn rfl fun n18 => ?_
        refine Lim.call o_ref1_Ceil (lim_ref1_Ceil 3 n18 y7.2.1) rfl rfl fun y19 => ?_
        refine Lim.letIn rfl fun n20 => ?_
        refine Lim.bif rfl ?_ ?_
        · exact Lim.leaf rfl
        refine Lim.letIn rfl fun n21 => ?_
        refine Lim.letIn rfl fun n22 => ?_
        refine Lim.letIn rfl fun n23 => ?_
        refine Lim.call o_ref14_size (lim_ref14_size 2 n23) rfl rfl fun y24 => ?_
        refine Lim.letIn rfl fun n25 => ?_
        refine Lim.call o_ref14_size (lim_ref14_size 2 n25) rfl rfl fun y26 => ?_
        refine Lim.letIn rfl fun n27 => ?_
        refine Lim.call o_ref1_Ceil (lim_ref1_Ceil 2 n27 y7.2.1) rfl rfl fun y28 => ?_
        refine Lim.letIn rfl fun n29 => ?_
        refine Lim.bif rfl ?_ ?_
        · exact Lim.leaf rfl
        refine Lim.letIn rfl fun n30 => ?_
        refine Lim.letIn rfl fun n31 => ?_
        refine Lim.letIn rfl fun n32 => ?_
        refine Lim.call o_ref14_size (lim_ref14_size 1 n32) rfl rfl fun y33 => ?_
        refine Lim.letIn rfl fun n34 => ?_
        refine Lim.call o_ref14_size (lim_ref14_size 1 n34) rfl rfl fun y35 => ?_
        refine Lim.letIn rfl fun n36 => ?_
        refine Lim.call o_ref1_Ceil (lim_ref1_Ceil 1 n36 y7.2.1) rfl rfl fun y37 => ?_
        refine Lim.letIn rfl fun n38 => ?_
        refine Lim.bif rfl ?_ ?_
        · exact Lim.leaf rfl
        refine Lim.letIn rfl fun n39 => ?_
        refine Lim.letIn rfl fun n40 => ?_
        exact Lim.leaf rfl
      rcases p41 with e42 | e43
      · refine Lim.exit (.ret) S35_0_r ((e42.1, e42.2, ()), ()) rfl rfl rfl ?_
        exact Lim.leaf rfl
      · refine Lim.bifF rfl ?_
        refine Lim.exit (.exit 0) S35_0_e0 ((e43, ()), ()) rfl rfl rfl ?_
        exact Lim.leaf rfl
    )) h

/-! armplan/armplanref14.Overlaps -/
abbrev o_ref14_Overlaps (v : Bool) : VtsT outs20 × MtsT mouts20 := ((v, ()), ())
abbrev encO_ref14_Overlaps (v : Bool) : R := (encR outs20 (o_ref14_Overlaps v).1, encMts mouts20 (o_ref14_Overlaps v).2)
theorem injO_ref14_Overlaps : ∀ a b, encO_ref14_Overlaps a = encO_ref14_Overlaps b → a = b := by
  rintro a0 b0 h
  have h1 := encR_inj (Prod.mk.inj h).1
  have h2 := encMts_inj (Prod.mk.inj h).2
  simp [o_ref14_Overlaps] at h1 h2
  simp [h1, h2]
noncomputable abbrev X_ref14_Overlaps (left1 : List Int) (right2 : List Int) (a3 : List I6) (ra4 : Int) (b5 : List I6) (rb6 : Int) (n : Nat) : Option R := (lvl Try.prog HH n).2 20 [.s (.one (.fr 1 (List.map encI left1))), .s (.one (.fr 1 (List.map encI right2))), .s (.one (.fr 6 (List.map encI6 a3))), .s (.one (.v (.int .i64 ra4))), .s (.one (.fr 6 (List.map encI6 b5))), .s (.one (.v (.int .i64 rb6)))] []
noncomputable def F_ref14_Overlaps (left1 : List Int) (right2 : List Int) (a3 : List I6) (ra4 : Int) (b5 : List I6) (rb6 : Int) : Option Bool := den encO_ref14_Overlaps (X_ref14_Overlaps left1 right2 a3 ra4 b5 rb6)
theorem lim_ref14_Overlaps (k : Nat) (left1 : List Int) (right2 : List Int) (a3 : List I6) (ra4 : Int) (b5 : List I6) (rb6 : Int) : Lim (fun v => (encR outs20 (o_ref14_Overlaps v).1, encMts mouts20 (o_ref14_Overlaps v).2)) (fun n => (lvl Try.prog HH (n + k)).2 20 [.s (.one (.fr 1 (List.map encI left1))), .s (.one (.fr 1 (List.map encI right2))), .s (.one (.fr 6 (List.map encI6 a3))), .s (.one (.v (.int .i64 ra4))), .s (.one (.fr 6 (List.map encI6 b5))), .s (.one (.v (.int .i64 rb6)))] []) (F_ref14_Overlaps left1 right2 a3 ra4 b5 rb6) := Lim.den (x := (X_ref14_Overlaps left1 right2 a3 ra4 b5 rb6)) k
theorem F_ref14_Overlaps_of (left1 : List Int) (right2 : List Int) (a3 : List I6) (ra4 : Int) (b5 : List I6) (rb6 : Int) : ∀ r, ((
    (F_ref14_Excess left1 right2 a3 ra4 b5 rb6).bind fun y7 =>
    bif y7.2 then (
      some (decide (y7.1 ≥ 0)))
    else
    some false) : Option Bool) = some r →
    F_ref14_Overlaps left1 right2 a3 ra4 b5 rb6 = some r := fun r h =>
  den_of (x := (X_ref14_Overlaps left1 right2 a3 ra4 b5 rb6)) injO_ref14_Overlaps 1 (Lim.cong (fun n => fn20 n ((List.map encI left1)) ((List.map encI right2)) ((List.map encI6 a3)) ra4 ((List.map encI6 b5)) rb6) (by
      refine Lim.call o_ref14_Excess (lim_ref14_Excess 0 left1 right2 a3 ra4 b5 rb6) rfl rfl fun y7 => ?_
      refine Lim.bif rfl ?_ ?_
      · exact Lim.leaf rfl
      exact Lim.leaf rfl
    )) h

/-! armplan/armplanlaw14.NearestDecides -/
abbrev o_law14_NearestDecides (v : Bool) : VtsT outs5 × MtsT mouts5 := ((v, ()), ())
abbrev encO_law14_NearestDecides (v : Bool) : R := (encR outs5 (o_law14_NearestDecides v).1, encMts mouts5 (o_law14_NearestDecides v).2)
theorem injO_law14_NearestDecides : ∀ a b, encO_law14_NearestDecides a = encO_law14_NearestDecides b → a = b := by
  rintro a0 b0 h
  have h1 := encR_inj (Prod.mk.inj h).1
  have h2 := encMts_inj (Prod.mk.inj h).2
  simp [o_law14_NearestDecides] at h1 h2
  simp [h1, h2]
noncomputable abbrev X_law14_NearestDecides (l1 : List Int) (m2 : List Int) (rho3 : Int) (n : Nat) : Option R := (lvl Try.prog HH n).2 5 [.s (.one (.fr 1 (List.map encI l1))), .s (.one (.fr 1 (List.map encI m2))), .s (.one (.v (.int .i64 rho3)))] []
noncomputable def F_law14_NearestDecides (l1 : List Int) (m2 : List Int) (rho3 : Int) : Option Bool := den encO_law14_NearestDecides (X_law14_NearestDecides l1 m2 rho3)
theorem lim_law14_NearestDecides (k : Nat) (l1 : List Int) (m2 : List Int) (rho3 : Int) : Lim (fun v => (encR outs5 (o_law14_NearestDecides v).1, encMts mouts5 (o_law14_NearestDecides v).2)) (fun n => (lvl Try.prog HH (n + k)).2 5 [.s (.one (.fr 1 (List.map encI l1))), .s (.one (.fr 1 (List.map encI m2))), .s (.one (.v (.int .i64 rho3)))] []) (F_law14_NearestDecides l1 m2 rho3) := Lim.den (x := (X_law14_NearestDecides l1 m2 rho3)) k
theorem F_law14_NearestDecides_of (l1 : List Int) (m2 : List Int) (rho3 : Int) : ∀ r, ((
    (F_law14_hulls l1 m2 rho3).bind fun y4 =>
    (F_nearest_Search y4.1 y4.2.1 y4.2.2 64).bind fun y5 =>
    bif y5.c0 == 1 then (
      (F_make_Boxed y4.1).bind fun y6 =>
      (F_ref10_Least ((I3.mk y5.c1 y5.c2 y5.c3)) y6).bind fun y7 =>
      (F_make_Boxed y4.2.1).bind fun y8 =>
      (F_ref10_Greatest ((I3.mk y5.c1 y5.c2 y5.c3)) y8).bind fun y9 =>
      (F_law14_awake).bind fun y10 =>
      bif y10 then (
        bif y7.2.2 then (
          bif y9.2.2 then (
            letIn (IntKind.wrap .i64 (y7.1 - y9.1) : Int) fun n11 =>
            (F_ref10_Norm ((I3.mk y5.c1 y5.c2 y5.c3))).bind fun y12 =>
            letIn (IntKind.wrap .i64 (y12 * y4.2.2) : Int) fun n13 =>
            some (decide (n11 > n13)))
          else
          some false)
        else
        some false)
      else
      some false)
    else
    bif y5.c0 == 2 then (
      (F_law14_awake).bind fun y14 =>
      bif y14 then (
        (F_law14_weights y5.c4 (((y4.1.length : Nat) : Int))).bind fun y15 =>
        bif y15 then (
          (F_law14_weights y5.c5 (((y4.2.1.length : Nat) : Int))).bind fun y16 =>
          bif y16 then (
            (F_make_Boxed y4.1).bind fun y17 =>
            letIn (IntKind.wrap .i64 (Int.tdiv y4.2.2 2) : Int) fun n18 =>
            (F_make_Boxed y4.2.1).bind fun y19 =>
            letIn (IntKind.wrap .i64 (Int.tdiv y4.2.2 2) : Int) fun n20 =>
            letIn (IntKind.wrap .i64 (y4.2.2 - n20) : Int) fun n21 =>
            (F_ref14_Overlaps y5.c4 y5.c5 y17 n18 y19 n21).bind fun y22 =>
            some y22)
          else
          some false)
        else
        some false)
      else
      some false)
    else
    (F_law14_awake).bind fun y23 =>
    some y23) : Option Bool) = some r →
    F_law14_NearestDecides l1 m2 rho3 = some r := fun r h =>
  den_of (x := (X_law14_NearestDecides l1 m2 rho3)) injO_law14_NearestDecides 1 (Lim.cong (fun n => fn5 n ((List.map encI l1)) ((List.map encI m2)) rho3) (by
      refine Lim.call o_law14_hulls (lim_law14_hulls 0 l1 m2 rho3) rfl rfl fun y4 => ?_
      refine Lim.call o_nearest_Search (lim_nearest_Search 0 y4.1 y4.2.1 y4.2.2 64) rfl rfl fun y5 => ?_
      refine Lim.bif rfl ?_ ?_
      · refine Lim.call o_make_Boxed (lim_make_Boxed 0 y4.1) rfl rfl fun y6 => ?_
        refine Lim.call o_ref10_Least (lim_ref10_Least 0 ((I3.mk y5.c1 y5.c2 y5.c3)) y6) rfl rfl fun y7 => ?_
        refine Lim.call o_make_Boxed (lim_make_Boxed 0 y4.2.1) rfl rfl fun y8 => ?_
        refine Lim.call o_ref10_Greatest (lim_ref10_Greatest 0 ((I3.mk y5.c1 y5.c2 y5.c3)) y8) rfl rfl fun y9 => ?_
        refine Lim.call o_law14_awake (lim_law14_awake 0 ) rfl rfl fun y10 => ?_
        refine Lim.bif rfl ?_ ?_
        · refine Lim.bif rfl ?_ ?_
          · refine Lim.bif rfl ?_ ?_
            · refine Lim.letIn rfl fun n11 => ?_
              refine Lim.call o_ref10_Norm (lim_ref10_Norm 0 ((I3.mk y5.c1 y5.c2 y5.c3))) rfl rfl fun y12 => ?_
              refine Lim.letIn rfl fun n13 => ?_
              exact Lim.leaf rfl
            exact Lim.leaf rfl
          exact Lim.leaf rfl
        exact Lim.leaf rfl
      refine Lim.bif rfl ?_ ?_
      · refine Lim.call o_law14_awake (lim_law14_awake 0 ) rfl rfl fun y14 => ?_
        refine Lim.bif rfl ?_ ?_
        · refine Lim.call o_law14_weights (lim_law14_weights 0 y5.c4 (((y4.1.length : Nat) : Int))) (by first | with_reducible rfl | (simp [map_upd, o_law14_hulls, o_nearest_Search, o_make_Boxed] <;> rfl) | (simp only [List.map_append, List.map_cons, List.map_nil, List.map_take, List.map_drop, map_upd, List.map_replicate, List.length_map, o_law14_hulls, o_nearest_Search, o_make_Boxed] <;> rfl) | (simp only [List.map_append, List.map_cons, List.map_nil, List.map_take, List.map_drop, map_upd, List.map_replicate, List.length_map, List.length_append, List.length_cons, List.length_nil, o_law14_hulls, o_nearest_Search, o_make_Boxed] <;> rfl) | rfl) (by first | with_reducible rfl | (simp [map_upd, o_law14_hulls, o_nearest_Search, o_make_Boxed] <;> rfl) | (simp only [List.map_append, List.map_cons, List.map_nil, List.map_take, List.map_drop, map_upd, List.map_replicate, List.length_map, o_law14_hulls, o_nearest_Search, o_make_Boxed] <;> rfl) | (simp only [List.map_append, List.map_cons, List.map_nil, List.map_take, List.map_drop, map_upd, List.map_replicate, List.length_map, List.length_append, List.length_cons, List.length_nil, o_law14_hulls, o_nearest_Search, o_make_Boxed] <;> rfl) | rfl) fun y15 => ?_
          refine Lim.bif rfl ?_ ?_
          · refine Lim.call o_law14_weights (lim_law14_weights 0 y5.c5 (((y4.2.1.length : Nat) : Int))) (by first | with_reducible rfl | (simp [map_upd, o_law14_hulls, o_nearest_Search, o_make_Boxed] <;> rfl) | (simp only [List.map_append, List.map_cons, List.map_nil, List.map_take, List.map_drop, map_upd, List.map_replicate, List.length_map, o_law14_hulls, o_nearest_Search, o_make_Boxed] <;> rfl) | (simp only [List.map_append, List.map_cons, List.map_nil, List.map_take, List.map_drop, map_upd, List.map_replicate, List.length_map, List.length_append, List.length_cons, List.length_nil, o_law14_hulls, o_nearest_Search, o_make_Boxed] <;> rfl) | rfl) (by first | with_reducible rfl | (simp [map_upd, o_law14_hulls, o_nearest_Search, o_make_Boxed] <;> rfl) | (simp only [List.map_append, List.map_cons, List.map_nil, List.map_take, List.map_drop, map_upd, List.map_replicate, List.length_map, o_law14_hulls, o_nearest_Search, o_make_Boxed] <;> rfl) | (simp only [List.map_append, List.map_cons, List.map_nil, List.map_take, List.map_drop, map_upd, List.map_replicate, List.length_map, List.length_append, List.length_cons, List.length_nil, o_law14_hulls, o_nearest_Search, o_make_Boxed] <;> rfl) | rfl) fun y16 => ?_
            refine Lim.bif rfl ?_ ?_
            · refine Lim.call o_make_Boxed (lim_make_Boxed 0 y4.1) rfl rfl fun y17 => ?_
              refine Lim.letIn rfl fun n18 => ?_
              refine Lim.call o_make_Boxed (lim_make_Boxed 0 y4.2.1) rfl rfl fun y19 => ?_
              refine Lim.letIn rfl fun n20 => ?_
              refine Lim.letIn rfl fun n21 => ?_
              refine Lim.call o_ref14_Overlaps (lim_ref14_Overlaps 0 y5.c4 y5.c5 y17 n18 y19 n21) rfl rfl fun y22 => ?_
              exact Lim.leaf rfl
            exact Lim.leaf rfl
          exact Lim.leaf rfl
        exact Lim.leaf rfl
      refine Lim.call o_law14_awake (lim_law14_awake 0 ) rfl rfl fun y23 => ?_
      exact Lim.leaf rfl
    )) h
end Go.Proofs.Ytcldcnolhmmegaa.Am
