/- The law SupportExtremes: it returns true for every input, and its arguments read as before. The row, out of what is proved of the law without levels. -/
import Derived.Test.YtceaambiagobbaaRows
import Derived.Test.YtceaambiagobbaaSeat
import Derived.Test.YtceaambiagobbaaMSupportExtremes
import Derived.WalkKit
import Derived.ProofKit
import Derived.OpenShut
import Derived.ShutString
import Derived.ChangeOld
import Derived.Below
import Derived.Carry
import Derived.SizedLaws
namespace Go.Proofs.Ytceaambiagobbaa.supportExtremes
open Go Go.Proofs Go.ChangeShapes Go.WideShapes Go.ChangeAt Go.RowKit Am
open Go.ChangeMaps (open_string shut_string)
set_option linter.unusedVariables false
theorem own : ownKnob Try.prog.godebug = none := by kernel_rfl
theorem laidOut : laidOutB Try.prog = true := seat_laidOut
set_option maxRecDepth 100000 in
theorem lifted (os : Os) (started : os.Started) (H : Type) (enc : TypeId × Value → H) :
    ReturnsInHanded {} Try.checked os 5 .any (Rows.supportExtremesSpec.pre6 enc Try.prog Try.f5 Rows.supportExtremesRow.domain false) (Rows.supportExtremesSpec.post enc Try.prog Try.f5 false true false false) := by
  refine returnsInHanded_of_change_sized (C := Try.checked) own started (by kernel_rfl) Try.func5
    (ChangeSpec.witness6 (enc := enc) (C := Try.checked) false ⟨#[], #[.agg #[.int .i64 0, .int .i64 0, .int .i64 0], .slice none 0 0, .int .i64 0, .int .i64 0, .int .i64 0, .slice none 0 0], []⟩ 8 (by kernel_rfl) (by kernel_rfl) (by kernel_rfl) (by kernel_rfl)) ?_
  intro W base args ds gs before hval0 hW hcnd hsz0 _
  have hsz : (DataW.weightsEach Try.prog (Try.f5.params.toList ++ Rows.supportExtremesSpec.plain.varTypes Try.prog) (ds ++ gs)).all (· ≤ reachBytes) = true := hsz0
  have hval : ∀ (j : Nat) t v, Try.f5.params[j]? = some t → args[j]? = some v → Value.okWide Try.prog W .any base t v := hval0
  have hW' := hW
  obtain ⟨p, q, hA0, hV, rfl, hfz, hnd⟩ := hW
  have hA : DataW.TrodAll enc Try.prog W 0 (fun _ => true) true Try.f5.params.toList args.toList ds p := hA0
  rw [Try.params5] at hA hval hsz
  obtain ⟨v0, vs0, d0, ds0, p0, q0, hargs, rfl, rfl, h0, r0⟩ := trodAll_cons hA
  obtain ⟨v1, vs1, d1, ds1, p1, q1, rfl, rfl, rfl, h1, r1⟩ := trodAll_cons r0
  obtain ⟨v2, vs2, d2, ds2, p2, q2, rfl, rfl, rfl, h2, r2⟩ := trodAll_cons r1
  obtain ⟨v3, vs3, d3, ds3, p3, q3, rfl, rfl, rfl, h3, r3⟩ := trodAll_cons r2
  obtain ⟨v4, vs4, d4, ds4, p4, q4, rfl, rfl, rfl, h4, r4⟩ := trodAll_cons r3
  obtain ⟨v5, vs5, d5, ds5, p5, q5, rfl, rfl, rfl, h5, r5⟩ := trodAll_cons r4
  obtain ⟨rfl, rfl, rfl⟩ := trodAll_nil r5
  obtain rfl : args = #[v0, v1, v2, v3, v4, v5] := by cases args; simp_all
  obtain ⟨rfl, rfl⟩ := trodVars_none hV
  have k0 := h0
  have lt0 : ∀ x ∈ p0, x.block < W.heap.size := by obtain ⟨m, hm⟩ := k0; exact DataW.trod_lt m _ _ _ hm
  obtain ⟨a0, c0, b0⟩ := open_flat' 8 [.int .i64, .int .i64, .int .i64] (by kernel_rfl) (by kernel_rfl) (by kernel_rfl) rfl (hval 0 23 v0 rfl rfl) h0
  have k1 := h1
  have lt1 : ∀ x ∈ p1, x.block < W.heap.size := by obtain ⟨m, hm⟩ := k1; exact DataW.trod_lt m _ _ _ hm
  obtain ⟨a1, c1, l1, _, b1⟩ := open_rows' 8 6 48 [.int .i64, .int .i64, .int .i64, .int .i64, .int .i64, .int .i64] Try.underlying32 (by kernel_rfl) (by kernel_rfl) (by kernel_rfl) (by kernel_rfl) rfl (by decide) hsz (j := 1) rfl rfl (hval 1 32 v1 rfl rfl) h1
  rw [rows_typed toI6 encI6 toI6_enc] at c1
  have k2 := h2
  have lt2 : ∀ x ∈ p2, x.block < W.heap.size := by obtain ⟨m, hm⟩ := k2; exact DataW.trod_lt m _ _ _ hm
  obtain ⟨a2, rfl, rfl, rfl, w2⟩ := open_int Try.underlying3 (hval 2 3 v2 rfl rfl) h2
  have k3 := h3
  have lt3 : ∀ x ∈ p3, x.block < W.heap.size := by obtain ⟨m, hm⟩ := k3; exact DataW.trod_lt m _ _ _ hm
  obtain ⟨a3, rfl, rfl, rfl, w3⟩ := open_int Try.underlying3 (hval 3 3 v3 rfl rfl) h3
  have k4 := h4
  have lt4 : ∀ x ∈ p4, x.block < W.heap.size := by obtain ⟨m, hm⟩ := k4; exact DataW.trod_lt m _ _ _ hm
  obtain ⟨a4, rfl, rfl, rfl, w4⟩ := open_int Try.underlying3 (hval 4 3 v4 rfl rfl) h4
  have k5 := h5
  have lt5 : ∀ x ∈ p5, x.block < W.heap.size := by obtain ⟨m, hm⟩ := k5; exact DataW.trod_lt m _ _ _ hm
  obtain ⟨a5, c5, l5, _, b5⟩ := open_rows' 8 1 8 [.int .i64] Try.underlying33 (by kernel_rfl) (by kernel_rfl) (by kernel_rfl) (by kernel_rfl) rfl (by decide) hsz (j := 5) rfl rfl (hval 5 33 v5 rfl rfl) h5
  rw [rows_typed toI encI toI_enc] at c5
  clear hA0 hval0 hsz0 hsz
  refine (ran_den (H := HH) (by kernel_rfl) (f := 5) (w := W) (vs := [v0, v1, .int .i64 a2, .int .i64 a3, .int .i64 a4, v5]) (e := encO_law13_SupportExtremes) rfl (show den encO_law13_SupportExtremes (X_law13_SupportExtremes (toI3 a0) (a1.map toI6) a2 a3 a4 (a5.map toI)) = some true from law_law13_SupportExtremes (toI3 a0) (a1.map toI6) a2 a3 a4 (a5.map toI) (toI3_b a0 b0) (by rw [List.length_map]; exact l1) (rows_b toI6 BI6 toI6_b b1) (wf_i64 w2) (wf_i64 w3) (wf_i64 w4) (by rw [List.length_map]; exact l5) (rows_b toI BI toI_b b5)) ⟨c0 _ _, vd_c1 c1, VD_dv rfl, VD_dv rfl, VD_dv rfl, vd_c1 c5, trivial⟩).mono fun e W' ⟨he, bel⟩ => ?_
  subst he
  exact ⟨_, rfl, _, _, _, [], _, [], hW', trodAll_mk1 (shut_bool Try.underlying4 _), (trodAll_cons_mk (Below.trod laidOut (by kernel_rfl) (of_decide_eq_true (by kernel_rfl)) k0 bel lt0) (trodAll_cons_mk (Below.trod laidOut (by kernel_rfl) (of_decide_eq_true (by kernel_rfl)) k1 bel lt1) (trodAll_cons_mk (shut_int Try.underlying3 w2) (trodAll_cons_mk (shut_int Try.underlying3 w3) (trodAll_cons_mk (shut_int Try.underlying3 w4) (trodAll_cons_mk (Below.trod laidOut (by kernel_rfl) (of_decide_eq_true (by kernel_rfl)) k5 bel lt5) trodAll_mk0)))))), rfl, bel.frame _, fun h => by cases h⟩
theorem k1 : (Rows.supportExtremesRow.wf (OpenSpec.ofChange Rows.supportExtremesSpec)) = true := by kernel_rfl
theorem k4 : (Try.f5.params.all (Try.prog.readableRec ·)) = true := by kernel_rfl
theorem k5 : (namedTie Try.prog Rows.supportExtremesRow.named Rows.supportExtremesSpec.vars) = true := by kernel_rfl
theorem k6 : (Rows.supportExtremesRow.stops == []) = true := by kernel_rfl
theorem k8 : (Rows.supportExtremesRow.knobs == []) = true := by kernel_rfl
theorem k10 : (Rows.supportExtremesRow.inPlace == Try.prog.inPlace 5) = true := by kernel_rfl
theorem k11 : (Rows.supportExtremesRow.unfollowed == Try.prog.unfollowed 5) = true := by kernel_rfl
theorem k12 : (Rows.supportExtremesRow.recurses == Try.prog.recurses 5) = true := by kernel_rfl
theorem k13 : (Rows.supportExtremesRow.named == Try.prog.varsNamed 5) = true := by kernel_rfl
theorem k14 : (Rows.supportExtremesRow.maps == (Try.f5.params.toList ++ Rows.supportExtremesSpec.plain.varTypes Try.prog).any (Try.prog.mapsRec ·)) = true := by kernel_rfl
theorem k15 : (Rows.supportExtremesRow.ifaces == (Try.f5.params.toList ++ Rows.supportExtremesSpec.plain.varTypes Try.prog).any (Try.prog.ifacesRec ·)) = true := by kernel_rfl
theorem k16 : (Rows.supportExtremesRow.mapsOut == Try.prog.mapsAmong Try.f5.resultTypes.toList) = true := by kernel_rfl
theorem k17 : (Rows.supportExtremesRow.loops == (Try.f5.params.toList ++ Rows.supportExtremesSpec.plain.varTypes Try.prog).any (Try.prog.loopsFrom ·)) = true := by kernel_rfl
theorem k18 : (Rows.supportExtremesRow.wideKeys == (Try.f5.params.toList ++ Rows.supportExtremesSpec.plain.varTypes Try.prog ++ Try.f5.resultTypes.toList).any (Try.prog.wideKeysFrom ·)) = true := by kernel_rfl
theorem k19 : (Rows.supportExtremesSpec.vars.all (Try.prog.varReadable ·)) = true := by kernel_rfl
theorem k20 : (Try.f5.resultTypes.all (fun t => Try.prog.readableRec t && decide (t < Try.prog.types.size))) = true := by kernel_rfl
theorem k21 : (Rows.supportExtremesRow.ifacesOut == Try.f5.resultTypes.toList.any (Try.prog.ifacesRec ·)) = true := by kernel_rfl
theorem k22 : (Rows.supportExtremesRow.loopsOut == Try.f5.resultTypes.toList.any (Try.prog.loopsFrom ·)) = true := by kernel_rfl
theorem k23 : (Rows.supportExtremesRow.plainKeys == Try.prog.plainKeys) = true := by kernel_rfl
theorem k24 : (Rows.supportExtremesRow.shortTexts.isNone) = true := by kernel_rfl
theorem k29 : (Rows.supportExtremesRow.kinds == []) = true := by kernel_rfl
theorem k33 : (Rows.supportExtremesRow.domain.isEmpty) = true := by kernel_rfl
theorem k30 : (Rows.supportExtremesRow.pinned == Rows.supportExtremesRow.pinnedBy) = true := by kernel_rfl
theorem k31 : (Rows.supportExtremesRow.veiled == (Try.f5.params.toList ++ Rows.supportExtremesSpec.plain.varTypes Try.prog ++ Try.f5.resultTypes.toList).any (Try.prog.veiledRec ·)) = true := by kernel_rfl
theorem k32 : (Rows.supportExtremesRow.veiledFits Try.prog Try.f5.params.toList (Try.f5.params.toList ++ Rows.supportExtremesSpec.plain.varTypes Try.prog ++ Try.f5.resultTypes.toList)) = true := by kernel_rfl
theorem k27 : (Rows.supportExtremesRow.lifted == Try.prog.liftsFinal) = true := by rw [seat_lifts]; rfl
theorem k28 : (Try.prog.make == some Rows.supportExtremesRow.make) = true := by rw [seat_make]; rfl
theorem closed : joinedFacts Try.prog 5 Try.f5 Rows.supportExtremesSpec Rows.supportExtremesRow = true := joined_of k1 laidOut seat_mapsRowed k4 k5 k6 seat_stops k8 seat_knobs k10 k11 k12 k13 k14 k15 k16 k17 k18 k19 k20 k21 k22 k23 k24 seat_heard seat_enter k27 k28 k29 k33 k30 k31 k32
theorem over : Rows.supportExtremesRow.holds Try.pinned (OpenSpec.ofChange Rows.supportExtremesSpec) :=
  OpenClaim.holds_of_wide 5 Try.f5 rfl rfl rfl rfl rfl rfl rfl ⟨rfl, rfl, rfl, rfl, rfl⟩ rfl rfl rfl rfl rfl (by kernel_rfl) Try.func5 closed
    (of_decide_eq_true (by kernel_rfl)) (by unfold Func.isWrapper; first | (rw [if_pos (by decide +kernel)]; kernel_rfl) | (rw [if_neg (by decide +kernel)]; exact ⟨rfl, rfl⟩))
    (fun os started H enc _ => lifted os started H enc)
theorem proved : Rows.SupportExtremesSaid := over
#print axioms proved
end Go.Proofs.Ytceaambiagobbaa.supportExtremes
namespace Go.Proofs.Ytceaambiagobbaa
/-- The row, under a short name, for the claim. -/
theorem supportExtremes_holds : Rows.SupportExtremesSaid := supportExtremes.proved
end Go.Proofs.Ytceaambiagobbaa
