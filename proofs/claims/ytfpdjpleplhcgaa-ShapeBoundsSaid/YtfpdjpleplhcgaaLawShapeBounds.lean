/- The law ShapeBounds: it returns true for every input, and its arguments read as before. The row, out of what is proved of the law without levels. -/
import Derived.Test.YtfpdjpleplhcgaaRows
import Derived.Test.YtfpdjpleplhcgaaSeat
import Derived.Test.YtfpdjpleplhcgaaMShapeBounds
import Derived.WalkKit
import Derived.ProofKit
import Derived.OpenShut
import Derived.ShutString
import Derived.ChangeOld
import Derived.Below
import Derived.Carry
import Derived.SizedLaws
namespace Go.Proofs.Ytfpdjpleplhcgaa.shapeBounds
open Go Go.Proofs Go.ChangeShapes Go.WideShapes Go.ChangeAt Go.RowKit Am
open Go.ChangeMaps (open_string shut_string)
set_option linter.unusedVariables false
theorem own : ownKnob Try.prog.godebug = none := by kernel_rfl
theorem laidOut : laidOutB Try.prog = true := seat_laidOut
set_option maxRecDepth 100000 in
theorem lifted (os : Os) (started : os.Started) (H : Type) (enc : TypeId × Value → H) :
    ReturnsInHanded {} Try.checked os 22 .any (Rows.shapeBoundsSpec.pre6 enc Try.prog Try.f22 Rows.shapeBoundsRow.domain false) (Rows.shapeBoundsSpec.post enc Try.prog Try.f22 false true false false) := by
  refine returnsInHanded_of_change_sized (C := Try.checked) own started (by kernel_rfl) Try.func22
    (ChangeSpec.witness6 (enc := enc) (C := Try.checked) false ⟨#[], #[.slice none 0 0, .int .i64 0, .slice none 0 0, .int .i64 0], []⟩ 8 (by kernel_rfl) (by kernel_rfl) (by kernel_rfl) (by kernel_rfl)) ?_
  intro W base args ds gs before hval0 hW hcnd hsz0 _
  have hsz : (DataW.weightsEach Try.prog (Try.f22.params.toList ++ Rows.shapeBoundsSpec.plain.varTypes Try.prog) (ds ++ gs)).all (· ≤ reachBytes) = true := hsz0
  have hval : ∀ (j : Nat) t v, Try.f22.params[j]? = some t → args[j]? = some v → Value.okWide Try.prog W .any base t v := hval0
  have hW' := hW
  obtain ⟨p, q, hA0, hV, rfl, hfz, hnd⟩ := hW
  have hA : DataW.TrodAll enc Try.prog W 0 (fun _ => true) true Try.f22.params.toList args.toList ds p := hA0
  rw [Try.params22] at hA hval hsz
  obtain ⟨v0, vs0, d0, ds0, p0, q0, hargs, rfl, rfl, h0, r0⟩ := trodAll_cons hA
  obtain ⟨v1, vs1, d1, ds1, p1, q1, rfl, rfl, rfl, h1, r1⟩ := trodAll_cons r0
  obtain ⟨v2, vs2, d2, ds2, p2, q2, rfl, rfl, rfl, h2, r2⟩ := trodAll_cons r1
  obtain ⟨v3, vs3, d3, ds3, p3, q3, rfl, rfl, rfl, h3, r3⟩ := trodAll_cons r2
  obtain ⟨rfl, rfl, rfl⟩ := trodAll_nil r3
  obtain rfl : args = #[v0, v1, v2, v3] := by cases args; simp_all
  obtain ⟨rfl, rfl⟩ := trodVars_none hV
  have k0 := h0
  have lt0 : ∀ x ∈ p0, x.block < W.heap.size := by obtain ⟨m, hm⟩ := k0; exact DataW.trod_lt m _ _ _ hm
  obtain ⟨a0, c0, l0, _, b0⟩ := open_rows' 8 6 48 [.int .i64, .int .i64, .int .i64, .int .i64, .int .i64, .int .i64] Try.underlying22 (by kernel_rfl) (by kernel_rfl) (by kernel_rfl) (by kernel_rfl) rfl (by decide) hsz (j := 0) rfl rfl (hval 0 22 v0 rfl rfl) h0
  rw [rows_typed toI6 encI6 toI6_enc] at c0
  have k1 := h1
  have lt1 : ∀ x ∈ p1, x.block < W.heap.size := by obtain ⟨m, hm⟩ := k1; exact DataW.trod_lt m _ _ _ hm
  obtain ⟨a1, rfl, rfl, rfl, w1⟩ := open_int Try.underlying2 (hval 1 2 v1 rfl rfl) h1
  have k2 := h2
  have lt2 : ∀ x ∈ p2, x.block < W.heap.size := by obtain ⟨m, hm⟩ := k2; exact DataW.trod_lt m _ _ _ hm
  obtain ⟨a2, c2, l2, _, b2⟩ := open_rows' 8 1 8 [.int .i64] Try.underlying24 (by kernel_rfl) (by kernel_rfl) (by kernel_rfl) (by kernel_rfl) rfl (by decide) hsz (j := 2) rfl rfl (hval 2 24 v2 rfl rfl) h2
  rw [rows_typed toI encI toI_enc] at c2
  have k3 := h3
  have lt3 : ∀ x ∈ p3, x.block < W.heap.size := by obtain ⟨m, hm⟩ := k3; exact DataW.trod_lt m _ _ _ hm
  obtain ⟨a3, rfl, rfl, rfl, w3⟩ := open_int Try.underlying3 (hval 3 3 v3 rfl rfl) h3
  clear hA0 hval0 hsz0 hsz
  refine (ran_den (H := HH) (by kernel_rfl) (f := 22) (w := W) (vs := [v0, .int .i64 a1, v2, .int .i64 a3]) (e := encO_law10_ShapeBounds) rfl (show den encO_law10_ShapeBounds (X_law10_ShapeBounds (a0.map toI6) a1 (a2.map toI) a3) = some true from law_law10_ShapeBounds (a0.map toI6) a1 (a2.map toI) a3 (by rw [List.length_map]; exact l0) (rows_b toI6 BI6 toI6_b b0) (wf_i64 w1) (by rw [List.length_map]; exact l2) (rows_b toI BI toI_b b2) (wf_i64 w3)) ⟨vd_c1 c0, VD_dv rfl, vd_c1 c2, VD_dv rfl, trivial⟩).mono fun e W' ⟨he, bel⟩ => ?_
  subst he
  exact ⟨_, rfl, _, _, _, [], _, [], hW', trodAll_mk1 (shut_bool Try.underlying4 _), (trodAll_cons_mk (Below.trod laidOut (by kernel_rfl) (of_decide_eq_true (by kernel_rfl)) k0 bel lt0) (trodAll_cons_mk (shut_int Try.underlying2 w1) (trodAll_cons_mk (Below.trod laidOut (by kernel_rfl) (of_decide_eq_true (by kernel_rfl)) k2 bel lt2) (trodAll_cons_mk (shut_int Try.underlying3 w3) trodAll_mk0)))), rfl, bel.frame _, fun h => by cases h⟩
theorem k1 : (Rows.shapeBoundsRow.wf (OpenSpec.ofChange Rows.shapeBoundsSpec)) = true := by kernel_rfl
theorem k4 : (Try.f22.params.all (Try.prog.readableRec ·)) = true := by kernel_rfl
theorem k5 : (namedTie Try.prog Rows.shapeBoundsRow.named Rows.shapeBoundsSpec.vars) = true := by kernel_rfl
theorem k6 : (Rows.shapeBoundsRow.stops == []) = true := by kernel_rfl
theorem k8 : (Rows.shapeBoundsRow.knobs == []) = true := by kernel_rfl
theorem k10 : (Rows.shapeBoundsRow.inPlace == Try.prog.inPlace 22) = true := by kernel_rfl
theorem k11 : (Rows.shapeBoundsRow.unfollowed == Try.prog.unfollowed 22) = true := by kernel_rfl
theorem k12 : (Rows.shapeBoundsRow.recurses == Try.prog.recurses 22) = true := by kernel_rfl
theorem k13 : (Rows.shapeBoundsRow.named == Try.prog.varsNamed 22) = true := by kernel_rfl
theorem k14 : (Rows.shapeBoundsRow.maps == (Try.f22.params.toList ++ Rows.shapeBoundsSpec.plain.varTypes Try.prog).any (Try.prog.mapsRec ·)) = true := by kernel_rfl
theorem k15 : (Rows.shapeBoundsRow.ifaces == (Try.f22.params.toList ++ Rows.shapeBoundsSpec.plain.varTypes Try.prog).any (Try.prog.ifacesRec ·)) = true := by kernel_rfl
theorem k16 : (Rows.shapeBoundsRow.mapsOut == Try.prog.mapsAmong Try.f22.resultTypes.toList) = true := by kernel_rfl
theorem k17 : (Rows.shapeBoundsRow.loops == (Try.f22.params.toList ++ Rows.shapeBoundsSpec.plain.varTypes Try.prog).any (Try.prog.loopsFrom ·)) = true := by kernel_rfl
theorem k18 : (Rows.shapeBoundsRow.wideKeys == (Try.f22.params.toList ++ Rows.shapeBoundsSpec.plain.varTypes Try.prog ++ Try.f22.resultTypes.toList).any (Try.prog.wideKeysFrom ·)) = true := by kernel_rfl
theorem k19 : (Rows.shapeBoundsSpec.vars.all (Try.prog.varReadable ·)) = true := by kernel_rfl
theorem k20 : (Try.f22.resultTypes.all (fun t => Try.prog.readableRec t && decide (t < Try.prog.types.size))) = true := by kernel_rfl
theorem k21 : (Rows.shapeBoundsRow.ifacesOut == Try.f22.resultTypes.toList.any (Try.prog.ifacesRec ·)) = true := by kernel_rfl
theorem k22 : (Rows.shapeBoundsRow.loopsOut == Try.f22.resultTypes.toList.any (Try.prog.loopsFrom ·)) = true := by kernel_rfl
theorem k23 : (Rows.shapeBoundsRow.plainKeys == Try.prog.plainKeys) = true := by kernel_rfl
theorem k24 : (Rows.shapeBoundsRow.shortTexts.isNone) = true := by kernel_rfl
theorem k29 : (Rows.shapeBoundsRow.kinds == []) = true := by kernel_rfl
theorem k33 : (Rows.shapeBoundsRow.domain.isEmpty) = true := by kernel_rfl
theorem k30 : (Rows.shapeBoundsRow.pinned == Rows.shapeBoundsRow.pinnedBy) = true := by kernel_rfl
theorem k31 : (Rows.shapeBoundsRow.veiled == (Try.f22.params.toList ++ Rows.shapeBoundsSpec.plain.varTypes Try.prog ++ Try.f22.resultTypes.toList).any (Try.prog.veiledRec ·)) = true := by kernel_rfl
theorem k32 : (Rows.shapeBoundsRow.veiledFits Try.prog Try.f22.params.toList (Try.f22.params.toList ++ Rows.shapeBoundsSpec.plain.varTypes Try.prog ++ Try.f22.resultTypes.toList)) = true := by kernel_rfl
theorem k27 : (Rows.shapeBoundsRow.lifted == Try.prog.liftsFinal) = true := by rw [seat_lifts]; rfl
theorem k28 : (Try.prog.make == some Rows.shapeBoundsRow.make) = true := by rw [seat_make]; rfl
theorem closed : joinedFacts Try.prog 22 Try.f22 Rows.shapeBoundsSpec Rows.shapeBoundsRow = true := joined_of k1 laidOut seat_mapsRowed k4 k5 k6 seat_stops k8 seat_knobs k10 k11 k12 k13 k14 k15 k16 k17 k18 k19 k20 k21 k22 k23 k24 seat_heard seat_enter k27 k28 k29 k33 k30 k31 k32
theorem over : Rows.shapeBoundsRow.holds Try.pinned (OpenSpec.ofChange Rows.shapeBoundsSpec) :=
  OpenClaim.holds_of_wide 22 Try.f22 rfl rfl rfl rfl rfl rfl rfl ⟨rfl, rfl, rfl, rfl, rfl⟩ rfl rfl rfl rfl rfl (by kernel_rfl) Try.func22 closed
    (of_decide_eq_true (by kernel_rfl)) (by unfold Func.isWrapper; first | (rw [if_pos (by decide +kernel)]; kernel_rfl) | (rw [if_neg (by decide +kernel)]; exact ⟨rfl, rfl⟩))
    (fun os started H enc _ => lifted os started H enc)
theorem proved : Rows.ShapeBoundsSaid := over
#print axioms proved
end Go.Proofs.Ytfpdjpleplhcgaa.shapeBounds
namespace Go.Proofs.Ytfpdjpleplhcgaa
/-- The row, under a short name, for the claim. -/
theorem shapeBounds_holds : Rows.ShapeBoundsSaid := shapeBounds.proved
end Go.Proofs.Ytfpdjpleplhcgaa
