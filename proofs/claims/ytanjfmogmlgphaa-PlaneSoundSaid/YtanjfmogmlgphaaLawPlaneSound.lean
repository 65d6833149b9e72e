/- The law PlaneSound: it returns true for every input, and its arguments read as before. The row, out of what is proved of the law without levels. -/
import Derived.Test.YtanjfmogmlgphaaRows
import Derived.Test.YtanjfmogmlgphaaSeat
import Derived.Test.YtanjfmogmlgphaaMPlaneSound
import Derived.WalkKit
import Derived.ProofKit
import Derived.OpenShut
import Derived.ShutString
import Derived.ChangeOld
import Derived.Below
import Derived.Carry
import Derived.SizedLaws
namespace Go.Proofs.Ytanjfmogmlgphaa.planeSound
open Go Go.Proofs Go.ChangeShapes Go.WideShapes Go.ChangeAt Go.RowKit Am
open Go.ChangeMaps (open_string shut_string)
set_option linter.unusedVariables false
theorem own : ownKnob Try.prog.godebug = none := by kernel_rfl
theorem laidOut : laidOutB Try.prog = true := seat_laidOut
set_option maxRecDepth 100000 in
theorem lifted (os : Os) (started : os.Started) (H : Type) (enc : TypeId × Value → H) :
    ReturnsInHanded {} Try.checked os 8 .any (Rows.planeSoundSpec.pre6 enc Try.prog Try.f8 Rows.planeSoundRow.domain false) (Rows.planeSoundSpec.post enc Try.prog Try.f8 false true false false) := by
  refine returnsInHanded_of_change_sized (C := Try.checked) own started (by kernel_rfl) Try.func8
    (ChangeSpec.witness6 (enc := enc) (C := Try.checked) false ⟨#[], #[.slice none 0 0, .slice none 0 0, .slice none 0 0, .slice none 0 0, .slice none 0 0, .slice none 0 0, .int .i64 0, .int .i64 0, .int .i64 0, .int .i64 0, .int .i64 0], []⟩ 8 (by kernel_rfl) (by kernel_rfl) (by kernel_rfl) (by kernel_rfl)) ?_
  intro W base args ds gs before hval0 hW hcnd hsz0 _
  have hsz : (DataW.weightsEach Try.prog (Try.f8.params.toList ++ Rows.planeSoundSpec.plain.varTypes Try.prog) (ds ++ gs)).all (· ≤ reachBytes) = true := hsz0
  have hval : ∀ (j : Nat) t v, Try.f8.params[j]? = some t → args[j]? = some v → Value.okWide Try.prog W .any base t v := hval0
  have hW' := hW
  obtain ⟨p, q, hA0, hV, rfl, hfz, hnd⟩ := hW
  have hA : DataW.TrodAll enc Try.prog W 0 (fun _ => true) true Try.f8.params.toList args.toList ds p := hA0
  rw [Try.params8] at hA hval hsz
  obtain ⟨v0, vs0, d0, ds0, p0, q0, hargs, rfl, rfl, h0, r0⟩ := trodAll_cons hA
  obtain ⟨v1, vs1, d1, ds1, p1, q1, rfl, rfl, rfl, h1, r1⟩ := trodAll_cons r0
  obtain ⟨v2, vs2, d2, ds2, p2, q2, rfl, rfl, rfl, h2, r2⟩ := trodAll_cons r1
  obtain ⟨v3, vs3, d3, ds3, p3, q3, rfl, rfl, rfl, h3, r3⟩ := trodAll_cons r2
  obtain ⟨v4, vs4, d4, ds4, p4, q4, rfl, rfl, rfl, h4, r4⟩ := trodAll_cons r3
  obtain ⟨v5, vs5, d5, ds5, p5, q5, rfl, rfl, rfl, h5, r5⟩ := trodAll_cons r4
  obtain ⟨v6, vs6, d6, ds6, p6, q6, rfl, rfl, rfl, h6, r6⟩ := trodAll_cons r5
  obtain ⟨v7, vs7, d7, ds7, p7, q7, rfl, rfl, rfl, h7, r7⟩ := trodAll_cons r6
  obtain ⟨v8, vs8, d8, ds8, p8, q8, rfl, rfl, rfl, h8, r8⟩ := trodAll_cons r7
  obtain ⟨v9, vs9, d9, ds9, p9, q9, rfl, rfl, rfl, h9, r9⟩ := trodAll_cons r8
  obtain ⟨v10, vs10, d10, ds10, p10, q10, rfl, rfl, rfl, h10, r10⟩ := trodAll_cons r9
  obtain ⟨rfl, rfl, rfl⟩ := trodAll_nil r10
  obtain rfl : args = #[v0, v1, v2, v3, v4, v5, v6, v7, v8, v9, v10] := by cases args; simp_all
  obtain ⟨rfl, rfl⟩ := trodVars_none hV
  have k0 := h0
  have lt0 : ∀ x ∈ p0, x.block < W.heap.size := by obtain ⟨m, hm⟩ := k0; exact DataW.trod_lt m _ _ _ hm
  obtain ⟨a0, c0, l0, _, b0⟩ := open_rows' 8 1 8 [.int .i64] Try.underlying25 (by kernel_rfl) (by kernel_rfl) (by kernel_rfl) (by kernel_rfl) rfl (by decide) hsz (j := 0) rfl rfl (hval 0 25 v0 rfl rfl) h0
  rw [rows_typed toI encI toI_enc] at c0
  have k1 := h1
  have lt1 : ∀ x ∈ p1, x.block < W.heap.size := by obtain ⟨m, hm⟩ := k1; exact DataW.trod_lt m _ _ _ hm
  obtain ⟨a1, c1, l1, _, b1⟩ := open_rows' 8 1 8 [.int .i64] Try.underlying25 (by kernel_rfl) (by kernel_rfl) (by kernel_rfl) (by kernel_rfl) rfl (by decide) hsz (j := 1) rfl rfl (hval 1 25 v1 rfl rfl) h1
  rw [rows_typed toI encI toI_enc] at c1
  have k2 := h2
  have lt2 : ∀ x ∈ p2, x.block < W.heap.size := by obtain ⟨m, hm⟩ := k2; exact DataW.trod_lt m _ _ _ hm
  obtain ⟨a2, c2, l2, _, b2⟩ := open_rows' 8 1 8 [.int .i64] Try.underlying25 (by kernel_rfl) (by kernel_rfl) (by kernel_rfl) (by kernel_rfl) rfl (by decide) hsz (j := 2) rfl rfl (hval 2 25 v2 rfl rfl) h2
  rw [rows_typed toI encI toI_enc] at c2
  have k3 := h3
  have lt3 : ∀ x ∈ p3, x.block < W.heap.size := by obtain ⟨m, hm⟩ := k3; exact DataW.trod_lt m _ _ _ hm
  obtain ⟨a3, c3, l3, _, b3⟩ := open_rows' 8 1 8 [.int .i64] Try.underlying25 (by kernel_rfl) (by kernel_rfl) (by kernel_rfl) (by kernel_rfl) rfl (by decide) hsz (j := 3) rfl rfl (hval 3 25 v3 rfl rfl) h3
  rw [rows_typed toI encI toI_enc] at c3
  have k4 := h4
  have lt4 : ∀ x ∈ p4, x.block < W.heap.size := by obtain ⟨m, hm⟩ := k4; exact DataW.trod_lt m _ _ _ hm
  obtain ⟨a4, c4, l4, _, b4⟩ := open_rows' 8 1 8 [.int .i64] Try.underlying25 (by kernel_rfl) (by kernel_rfl) (by kernel_rfl) (by kernel_rfl) rfl (by decide) hsz (j := 4) rfl rfl (hval 4 25 v4 rfl rfl) h4
  rw [rows_typed toI encI toI_enc] at c4
  have k5 := h5
  have lt5 : ∀ x ∈ p5, x.block < W.heap.size := by obtain ⟨m, hm⟩ := k5; exact DataW.trod_lt m _ _ _ hm
  obtain ⟨a5, c5, l5, _, b5⟩ := open_rows' 8 1 8 [.int .i64] Try.underlying25 (by kernel_rfl) (by kernel_rfl) (by kernel_rfl) (by kernel_rfl) rfl (by decide) hsz (j := 5) rfl rfl (hval 5 25 v5 rfl rfl) h5
  rw [rows_typed toI encI toI_enc] at c5
  have k6 := h6
  have lt6 : ∀ x ∈ p6, x.block < W.heap.size := by obtain ⟨m, hm⟩ := k6; exact DataW.trod_lt m _ _ _ hm
  obtain ⟨a6, rfl, rfl, rfl, w6⟩ := open_int Try.underlying3 (hval 6 3 v6 rfl rfl) h6
  have k7 := h7
  have lt7 : ∀ x ∈ p7, x.block < W.heap.size := by obtain ⟨m, hm⟩ := k7; exact DataW.trod_lt m _ _ _ hm
  obtain ⟨a7, rfl, rfl, rfl, w7⟩ := open_int Try.underlying3 (hval 7 3 v7 rfl rfl) h7
  have k8 := h8
  have lt8 : ∀ x ∈ p8, x.block < W.heap.size := by obtain ⟨m, hm⟩ := k8; exact DataW.trod_lt m _ _ _ hm
  obtain ⟨a8, rfl, rfl, rfl, w8⟩ := open_int Try.underlying3 (hval 8 3 v8 rfl rfl) h8
  have k9 := h9
  have lt9 : ∀ x ∈ p9, x.block < W.heap.size := by obtain ⟨m, hm⟩ := k9; exact DataW.trod_lt m _ _ _ hm
  obtain ⟨a9, rfl, rfl, rfl, w9⟩ := open_int Try.underlying3 (hval 9 3 v9 rfl rfl) h9
  have k10 := h10
  have lt10 : ∀ x ∈ p10, x.block < W.heap.size := by obtain ⟨m, hm⟩ := k10; exact DataW.trod_lt m _ _ _ hm
  obtain ⟨a10, rfl, rfl, rfl, w10⟩ := open_int Try.underlying3 (hval 10 3 v10 rfl rfl) h10
  clear hA0 hval0 hsz0 hsz
  refine (ran_den (H := HH) (by kernel_rfl) (f := 8) (w := W) (vs := [v0, v1, v2, v3, v4, v5, .int .i64 a6, .int .i64 a7, .int .i64 a8, .int .i64 a9, .int .i64 a10]) (e := encO_law15_PlaneSound) rfl (show den encO_law15_PlaneSound (X_law15_PlaneSound (a0.map toI) (a1.map toI) (a2.map toI) (a3.map toI) (a4.map toI) (a5.map toI) a6 a7 a8 a9 a10) = some true from law_law15_PlaneSound (a0.map toI) (a1.map toI) (a2.map toI) (a3.map toI) (a4.map toI) (a5.map toI) a6 a7 a8 a9 a10 (by rw [List.length_map]; exact l0) (rows_b toI BI toI_b b0) (by rw [List.length_map]; exact l1) (rows_b toI BI toI_b b1) (by rw [List.length_map]; exact l2) (rows_b toI BI toI_b b2) (by rw [List.length_map]; exact l3) (rows_b toI BI toI_b b3) (by rw [List.length_map]; exact l4) (rows_b toI BI toI_b b4) (by rw [List.length_map]; exact l5) (rows_b toI BI toI_b b5) (wf_i64 w6) (wf_i64 w7) (wf_i64 w8) (wf_i64 w9) (wf_i64 w10)) ⟨vd_c1 c0, vd_c1 c1, vd_c1 c2, vd_c1 c3, vd_c1 c4, vd_c1 c5, VD_dv rfl, VD_dv rfl, VD_dv rfl, VD_dv rfl, VD_dv rfl, trivial⟩).mono fun e W' ⟨he, bel⟩ => ?_
  subst he
  exact ⟨_, rfl, _, _, _, [], _, [], hW', trodAll_mk1 (shut_bool Try.underlying4 _), (trodAll_cons_mk (Below.trod laidOut (by kernel_rfl) (of_decide_eq_true (by kernel_rfl)) k0 bel lt0) (trodAll_cons_mk (Below.trod laidOut (by kernel_rfl) (of_decide_eq_true (by kernel_rfl)) k1 bel lt1) (trodAll_cons_mk (Below.trod laidOut (by kernel_rfl) (of_decide_eq_true (by kernel_rfl)) k2 bel lt2) (trodAll_cons_mk (Below.trod laidOut (by kernel_rfl) (of_decide_eq_true (by kernel_rfl)) k3 bel lt3) (trodAll_cons_mk (Below.trod laidOut (by kernel_rfl) (of_decide_eq_true (by kernel_rfl)) k4 bel lt4) (trodAll_cons_mk (Below.trod laidOut (by kernel_rfl) (of_decide_eq_true (by kernel_rfl)) k5 bel lt5) (trodAll_cons_mk (shut_int Try.underlying3 w6) (trodAll_cons_mk (shut_int Try.underlying3 w7) (trodAll_cons_mk (shut_int Try.underlying3 w8) (trodAll_cons_mk (shut_int Try.underlying3 w9) (trodAll_cons_mk (shut_int Try.underlying3 w10) trodAll_mk0))))))))))), rfl, bel.frame _, fun h => by cases h⟩
theorem k1 : (Rows.planeSoundRow.wf (OpenSpec.ofChange Rows.planeSoundSpec)) = true := by kernel_rfl
theorem k4 : (Try.f8.params.all (Try.prog.readableRec ·)) = true := by kernel_rfl
theorem k5 : (namedTie Try.prog Rows.planeSoundRow.named Rows.planeSoundSpec.vars) = true := by kernel_rfl
theorem k6 : (Rows.planeSoundRow.stops == []) = true := by kernel_rfl
theorem k8 : (Rows.planeSoundRow.knobs == []) = true := by kernel_rfl
theorem k10 : (Rows.planeSoundRow.inPlace == Try.prog.inPlace 8) = true := by kernel_rfl
theorem k11 : (Rows.planeSoundRow.unfollowed == Try.prog.unfollowed 8) = true := by kernel_rfl
theorem k12 : (Rows.planeSoundRow.recurses == Try.prog.recurses 8) = true := by kernel_rfl
theorem k13 : (Rows.planeSoundRow.named == Try.prog.varsNamed 8) = true := by kernel_rfl
theorem k14 : (Rows.planeSoundRow.maps == (Try.f8.params.toList ++ Rows.planeSoundSpec.plain.varTypes Try.prog).any (Try.prog.mapsRec ·)) = true := by kernel_rfl
theorem k15 : (Rows.planeSoundRow.ifaces == (Try.f8.params.toList ++ Rows.planeSoundSpec.plain.varTypes Try.prog).any (Try.prog.ifacesRec ·)) = true := by kernel_rfl
theorem k16 : (Rows.planeSoundRow.mapsOut == Try.prog.mapsAmong Try.f8.resultTypes.toList) = true := by kernel_rfl
theorem k17 : (Rows.planeSoundRow.loops == (Try.f8.params.toList ++ Rows.planeSoundSpec.plain.varTypes Try.prog).any (Try.prog.loopsFrom ·)) = true := by kernel_rfl
theorem k18 : (Rows.planeSoundRow.wideKeys == (Try.f8.params.toList ++ Rows.planeSoundSpec.plain.varTypes Try.prog ++ Try.f8.resultTypes.toList).any (Try.prog.wideKeysFrom ·)) = true := by kernel_rfl
theorem k19 : (Rows.planeSoundSpec.vars.all (Try.prog.varReadable ·)) = true := by kernel_rfl
theorem k20 : (Try.f8.resultTypes.all (fun t => Try.prog.readableRec t && decide (t < Try.prog.types.size))) = true := by kernel_rfl
theorem k21 : (Rows.planeSoundRow.ifacesOut == Try.f8.resultTypes.toList.any (Try.prog.ifacesRec ·)) = true := by kernel_rfl
theorem k22 : (Rows.planeSoundRow.loopsOut == Try.f8.resultTypes.toList.any (Try.prog.loopsFrom ·)) = true := by kernel_rfl
theorem k23 : (Rows.planeSoundRow.plainKeys == Try.prog.plainKeys) = true := by kernel_rfl
theorem k24 : (Rows.planeSoundRow.shortTexts.isNone) = true := by kernel_rfl
theorem k29 : (Rows.planeSoundRow.kinds == []) = true := by kernel_rfl
theorem k33 : (Rows.planeSoundRow.domain.isEmpty) = true := by kernel_rfl
theorem k30 : (Rows.planeSoundRow.pinned == Rows.planeSoundRow.pinnedBy) = true := by kernel_rfl
theorem k31 : (Rows.planeSoundRow.veiled == (Try.f8.params.toList ++ Rows.planeSoundSpec.plain.varTypes Try.prog ++ Try.f8.resultTypes.toList).any (Try.prog.veiledRec ·)) = true := by kernel_rfl
theorem k32 : (Rows.planeSoundRow.veiledFits Try.prog Try.f8.params.toList (Try.f8.params.toList ++ Rows.planeSoundSpec.plain.varTypes Try.prog ++ Try.f8.resultTypes.toList)) = true := by kernel_rfl
theorem k27 : (Rows.planeSoundRow.lifted == Try.prog.liftsFinal) = true := by rw [seat_lifts]; rfl
theorem k28 : (Try.prog.make == some Rows.planeSoundRow.make) = true := by rw [seat_make]; rfl
theorem closed : joinedFacts Try.prog 8 Try.f8 Rows.planeSoundSpec Rows.planeSoundRow = true := joined_of k1 laidOut seat_mapsRowed k4 k5 k6 seat_stops k8 seat_knobs k10 k11 k12 k13 k14 k15 k16 k17 k18 k19 k20 k21 k22 k23 k24 seat_heard seat_enter k27 k28 k29 k33 k30 k31 k32
theorem over : Rows.planeSoundRow.holds Try.pinned (OpenSpec.ofChange Rows.planeSoundSpec) :=
  OpenClaim.holds_of_wide 8 Try.f8 rfl rfl rfl rfl rfl rfl rfl ⟨rfl, rfl, rfl, rfl, rfl⟩ rfl rfl rfl rfl rfl (by kernel_rfl) Try.func8 closed
    (of_decide_eq_true (by kernel_rfl)) (by unfold Func.isWrapper; first | (rw [if_pos (by decide +kernel)]; kernel_rfl) | (rw [if_neg (by decide +kernel)]; exact ⟨rfl, rfl⟩))
    (fun os started H enc _ => lifted os started H enc)
theorem proved : Rows.PlaneSoundSaid := over
#print axioms proved
end Go.Proofs.Ytanjfmogmlgphaa.planeSound
namespace Go.Proofs.Ytanjfmogmlgphaa
/-- The row, under a short name, for the claim. -/
theorem planeSound_holds : Rows.PlaneSoundSaid := planeSound.proved
end Go.Proofs.Ytanjfmogmlgphaa
