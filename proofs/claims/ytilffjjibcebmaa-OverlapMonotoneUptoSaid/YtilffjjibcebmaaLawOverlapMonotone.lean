/- The law OverlapMonotone: it returns true for every input, and its arguments read as before. The row, out of what is proved of the law without levels. -/
import Derived.Test.YtilffjjibcebmaaRows
import Derived.Test.YtilffjjibcebmaaSeat
import Derived.Test.YtilffjjibcebmaaMOverlapMonotone
import Derived.Test.YtilffjjibcebmaaAmRow3
import Derived.WalkKit
import Derived.ProofKit
import Derived.OpenShut
import Derived.ShutString
import Derived.ChangeOld
import Derived.Below
import Derived.Carry
import Derived.SizedLaws
import Derived.JoinedCond
namespace Go.Proofs.Ytilffjjibcebmaa.overlapMonotone
open Go Go.Proofs Go.ChangeShapes Go.WideShapes Go.ChangeAt Go.RowKit Am
open Go.ChangeMaps (open_string shut_string)
set_option linter.unusedVariables false
theorem own : ownKnob Try.prog.godebug = none := by kernel_rfl
theorem laidOut : laidOutB Try.prog = true := seat_laidOut
theorem one_le {H : Type} (d : DataW H) : 1 ≤ Rows.uptoBulk d := by
  cases d with
  | lit l => cases l <;> simp [Rows.uptoBulk]
  | nil => simp [Rows.uptoBulk]
  | ptr d => simp [Rows.uptoBulk]
  | slice elems spare => simp [Rows.uptoBulk]
  | agg parts => simp [Rows.uptoBulk]
  | iface t d => simp [Rows.uptoBulk]
  | map entries => simp [Rows.uptoBulk]
  | held h => simp [Rows.uptoBulk]
theorem part_le {H : Type} {d : DataW H} {l : List (DataW H)} (h : d ∈ l) : Rows.uptoBulk d ≤ Rows.uptoBulkAll l := by
  induction l with
  | nil => cases h
  | cons x r ih =>
    simp only [Rows.uptoBulkAll]
    cases List.mem_cons.1 h with
    | inl e => subst e; omega
    | inr e => have := ih e; omega
theorem length_le {H : Type} (l : List (DataW H)) : l.length ≤ Rows.uptoBulkAll l := by
  induction l with
  | nil => simp [Rows.uptoBulkAll]
  | cons x r ih => have := one_le x; simp only [Rows.uptoBulkAll, List.length_cons]; omega
/-- a slice that came in is no longer than the bound -/
theorem bulk_rows {H : Type} {l : List (DataW H)} {d : DataW H} {n : Nat} (h : Rows.uptoBulkAll l ≤ 1048576) (hd : d ∈ l) (e : n = 0 ∨ ∃ el sp, d = .slice el sp ∧ el.length = n) : n ≤ 1048576 := by
  rcases e with rfl | ⟨el, sp, rfl, rfl⟩
  · omega
  · have h1 := part_le hd
    have h2 := length_le el
    simp only [Rows.uptoBulk] at h1
    omega
set_option maxRecDepth 100000 in
theorem lifted (os : Os) (started : os.Started) (H : Type) (enc : TypeId × Value → H) (F : Stop.Interp) :
    ReturnsInHanded {} Try.checked os 5 .any ((Rows.OpenSpec.upto Rows.overlapMonotoneSpec).pre6 enc Try.prog Try.f5 Rows.overlapMonotoneUptoRow.domain false) (((Rows.OpenSpec.upto Rows.overlapMonotoneSpec).at F).post enc Try.prog Try.f5 false true false false) := by
  refine returnsInHanded_of_cond (C := Try.checked) (s := Rows.OpenSpec.upto Rows.overlapMonotoneSpec) (k := Rows.uptoSmall) rfl own started (by kernel_rfl) Try.func5
    (OpenSpec.witness (enc := enc) (C := Try.checked) (s := Rows.OpenSpec.upto Rows.overlapMonotoneSpec) (k := Rows.uptoSmall) rfl false ⟨#[], #[.slice none 0 0, .slice none 0 0, .slice none 0 0, .slice none 0 0, .slice none 0 0, .int .i64 0, .int .i64 0], []⟩ 8 (by kernel_rfl) (by kernel_rfl) (by kernel_rfl) (x := ([.nil, .nil, .nil, .nil, .nil, .lit (.int .i64 0), .lit (.int .i64 0)], [], [])) (by kernel_rfl) rfl (by kernel_rfl)) ?_
  intro W base args ds gs before hval0 hW hcnd hk _
  have hval : ∀ (j : Nat) t v, Try.f5.params[j]? = some t → args[j]? = some v → Value.okWide Try.prog W .any base t v := hval0
  have hW' := hW
  obtain ⟨p, q, hA0, hV, rfl, hfz, hnd⟩ := hW
  have hA : DataW.TrodAll enc Try.prog W 0 (fun _ => true) true Try.f5.params.toList args.toList ds p := hA0
  rw [Try.params5] at hA hval
  obtain ⟨v0, vs0, d0, ds0, p0, q0, hargs, rfl, rfl, h0, r0⟩ := trodAll_cons hA
  obtain ⟨v1, vs1, d1, ds1, p1, q1, rfl, rfl, rfl, h1, r1⟩ := trodAll_cons r0
  obtain ⟨v2, vs2, d2, ds2, p2, q2, rfl, rfl, rfl, h2, r2⟩ := trodAll_cons r1
  obtain ⟨v3, vs3, d3, ds3, p3, q3, rfl, rfl, rfl, h3, r3⟩ := trodAll_cons r2
  obtain ⟨v4, vs4, d4, ds4, p4, q4, rfl, rfl, rfl, h4, r4⟩ := trodAll_cons r3
  obtain ⟨v5, vs5, d5, ds5, p5, q5, rfl, rfl, rfl, h5, r5⟩ := trodAll_cons r4
  obtain ⟨v6, vs6, d6, ds6, p6, q6, rfl, rfl, rfl, h6, r6⟩ := trodAll_cons r5
  obtain ⟨rfl, rfl, rfl⟩ := trodAll_nil r6
  obtain rfl : args = #[v0, v1, v2, v3, v4, v5, v6] := by cases args; simp_all
  obtain ⟨rfl, rfl⟩ := trodVars_none hV
  have k0 := h0
  have lt0 : ∀ x ∈ p0, x.block < W.heap.size := by obtain ⟨m, hm⟩ := k0; exact DataW.trod_lt m _ _ _ hm
  obtain ⟨a0, c0, l0, _, b0⟩ := open_rowsU 8 1 [.int .i64] Try.underlying24 (by kernel_rfl) (by kernel_rfl) (by kernel_rfl) rfl (by decide) (hval 0 24 v0 rfl rfl) h0
  have l0 := bulk_rows (of_decide_eq_true hk) (d := d0) (by simp) l0
  rw [rows_typed toI encI toI_enc] at c0
  have k1 := h1
  have lt1 : ∀ x ∈ p1, x.block < W.heap.size := by obtain ⟨m, hm⟩ := k1; exact DataW.trod_lt m _ _ _ hm
  obtain ⟨a1, c1, l1, _, b1⟩ := open_rowsU 8 1 [.int .i64] Try.underlying24 (by kernel_rfl) (by kernel_rfl) (by kernel_rfl) rfl (by decide) (hval 1 24 v1 rfl rfl) h1
  have l1 := bulk_rows (of_decide_eq_true hk) (d := d1) (by simp) l1
  rw [rows_typed toI encI toI_enc] at c1
  have k2 := h2
  have lt2 : ∀ x ∈ p2, x.block < W.heap.size := by obtain ⟨m, hm⟩ := k2; exact DataW.trod_lt m _ _ _ hm
  obtain ⟨a2, c2, l2, _, b2⟩ := open_rowsU 8 1 [.int .i64] Try.underlying24 (by kernel_rfl) (by kernel_rfl) (by kernel_rfl) rfl (by decide) (hval 2 24 v2 rfl rfl) h2
  have l2 := bulk_rows (of_decide_eq_true hk) (d := d2) (by simp) l2
  rw [rows_typed toI encI toI_enc] at c2
  have k3 := h3
  have lt3 : ∀ x ∈ p3, x.block < W.heap.size := by obtain ⟨m, hm⟩ := k3; exact DataW.trod_lt m _ _ _ hm
  obtain ⟨a3, c3, l3, _, b3⟩ := open_rowsU 8 1 [.int .i64] Try.underlying24 (by kernel_rfl) (by kernel_rfl) (by kernel_rfl) rfl (by decide) (hval 3 24 v3 rfl rfl) h3
  have l3 := bulk_rows (of_decide_eq_true hk) (d := d3) (by simp) l3
  rw [rows_typed toI encI toI_enc] at c3
  have k4 := h4
  have lt4 : ∀ x ∈ p4, x.block < W.heap.size := by obtain ⟨m, hm⟩ := k4; exact DataW.trod_lt m _ _ _ hm
  obtain ⟨a4, c4, l4, _, b4⟩ := open_rowsU 8 1 [.int .i64] Try.underlying24 (by kernel_rfl) (by kernel_rfl) (by kernel_rfl) rfl (by decide) (hval 4 24 v4 rfl rfl) h4
  have l4 := bulk_rows (of_decide_eq_true hk) (d := d4) (by simp) l4
  rw [rows_typed toI encI toI_enc] at c4
  have k5 := h5
  have lt5 : ∀ x ∈ p5, x.block < W.heap.size := by obtain ⟨m, hm⟩ := k5; exact DataW.trod_lt m _ _ _ hm
  obtain ⟨a5, rfl, rfl, rfl, w5⟩ := open_int Try.underlying3 (hval 5 3 v5 rfl rfl) h5
  have k6 := h6
  have lt6 : ∀ x ∈ p6, x.block < W.heap.size := by obtain ⟨m, hm⟩ := k6; exact DataW.trod_lt m _ _ _ hm
  obtain ⟨a6, rfl, rfl, rfl, w6⟩ := open_int Try.underlying3 (hval 6 3 v6 rfl rfl) h6
  clear hA0 hval0 hk
  refine (ran_den (H := HH) (by kernel_rfl) (f := 5) (w := W) (vs := [v0, v1, v2, v3, v4, .int .i64 a5, .int .i64 a6]) (e := encO_law16_OverlapMonotone) rfl (show den encO_law16_OverlapMonotone (X_law16_OverlapMonotone (a0.map toI) (a1.map toI) (a2.map toI) (a3.map toI) (a4.map toI) a5 a6) = some true from law_law16_OverlapMonotone (a0.map toI) (a1.map toI) (a2.map toI) (a3.map toI) (a4.map toI) a5 a6 (by rw [List.length_map]; exact l0) (rows_b toI BI toI_b b0) (by rw [List.length_map]; exact l1) (rows_b toI BI toI_b b1) (by rw [List.length_map]; exact l2) (rows_b toI BI toI_b b2) (by rw [List.length_map]; exact l3) (rows_b toI BI toI_b b3) (by rw [List.length_map]; exact l4) (rows_b toI BI toI_b b4) (wf_i64 w5) (wf_i64 w6)) ⟨vd_c1 c0, vd_c1 c1, vd_c1 c2, vd_c1 c3, vd_c1 c4, VD_dv rfl, VD_dv rfl, trivial⟩).mono fun e W' ⟨he, bel⟩ => ?_
  subst he
  exact ⟨_, rfl, _, _, _, [], _, [], hW', trodAll_mk1 (shut_bool Try.underlying4 _), (trodAll_cons_mk (Below.trod laidOut (by kernel_rfl) (of_decide_eq_true (by kernel_rfl)) k0 bel lt0) (trodAll_cons_mk (Below.trod laidOut (by kernel_rfl) (of_decide_eq_true (by kernel_rfl)) k1 bel lt1) (trodAll_cons_mk (Below.trod laidOut (by kernel_rfl) (of_decide_eq_true (by kernel_rfl)) k2 bel lt2) (trodAll_cons_mk (Below.trod laidOut (by kernel_rfl) (of_decide_eq_true (by kernel_rfl)) k3 bel lt3) (trodAll_cons_mk (Below.trod laidOut (by kernel_rfl) (of_decide_eq_true (by kernel_rfl)) k4 bel lt4) (trodAll_cons_mk (shut_int Try.underlying3 w5) (trodAll_cons_mk (shut_int Try.underlying3 w6) trodAll_mk0))))))), rfl, bel.frame _, fun h => by cases h⟩
theorem k1 : (Rows.overlapMonotoneUptoRow.wf (OpenSpec.ofChange Rows.overlapMonotoneSpec)) = true := by kernel_rfl
theorem k4 : (Try.f5.params.all (Try.prog.readableRec ·)) = true := by kernel_rfl
theorem k5 : (namedTie Try.prog Rows.overlapMonotoneUptoRow.named Rows.overlapMonotoneSpec.vars) = true := by kernel_rfl
theorem k6 : (Rows.overlapMonotoneUptoRow.stops == []) = true := by kernel_rfl
theorem k8 : (Rows.overlapMonotoneUptoRow.knobs == []) = true := by kernel_rfl
theorem k10 : (Rows.overlapMonotoneUptoRow.inPlace == Try.prog.inPlace 5) = true := by kernel_rfl
theorem k11 : (Rows.overlapMonotoneUptoRow.unfollowed == Try.prog.unfollowed 5) = true := by kernel_rfl
theorem k12 : (Rows.overlapMonotoneUptoRow.recurses == Try.prog.recurses 5) = true := by kernel_rfl
theorem k13 : (Rows.overlapMonotoneUptoRow.named == Try.prog.varsNamed 5) = true := by kernel_rfl
theorem k14 : (Rows.overlapMonotoneUptoRow.maps == (Try.f5.params.toList ++ Rows.overlapMonotoneSpec.plain.varTypes Try.prog).any (Try.prog.mapsRec ·)) = true := by kernel_rfl
theorem k15 : (Rows.overlapMonotoneUptoRow.ifaces == (Try.f5.params.toList ++ Rows.overlapMonotoneSpec.plain.varTypes Try.prog).any (Try.prog.ifacesRec ·)) = true := by kernel_rfl
theorem k16 : (Rows.overlapMonotoneUptoRow.mapsOut == Try.prog.mapsAmong Try.f5.resultTypes.toList) = true := by kernel_rfl
theorem k17 : (Rows.overlapMonotoneUptoRow.loops == (Try.f5.params.toList ++ Rows.overlapMonotoneSpec.plain.varTypes Try.prog).any (Try.prog.loopsFrom ·)) = true := by kernel_rfl
theorem k18 : (Rows.overlapMonotoneUptoRow.wideKeys == (Try.f5.params.toList ++ Rows.overlapMonotoneSpec.plain.varTypes Try.prog ++ Try.f5.resultTypes.toList).any (Try.prog.wideKeysFrom ·)) = true := by kernel_rfl
theorem k19 : (Rows.overlapMonotoneSpec.vars.all (Try.prog.varReadable ·)) = true := by kernel_rfl
theorem k20 : (Try.f5.resultTypes.all (fun t => Try.prog.readableRec t && decide (t < Try.prog.types.size))) = true := by kernel_rfl
theorem k21 : (Rows.overlapMonotoneUptoRow.ifacesOut == Try.f5.resultTypes.toList.any (Try.prog.ifacesRec ·)) = true := by kernel_rfl
theorem k22 : (Rows.overlapMonotoneUptoRow.loopsOut == Try.f5.resultTypes.toList.any (Try.prog.loopsFrom ·)) = true := by kernel_rfl
theorem k23 : (Rows.overlapMonotoneUptoRow.plainKeys == Try.prog.plainKeys) = true := by kernel_rfl
theorem k24 : (Rows.overlapMonotoneUptoRow.shortTexts.isNone) = true := by kernel_rfl
theorem k29 : (Rows.overlapMonotoneUptoRow.kinds == []) = true := by kernel_rfl
theorem k33 : (Rows.overlapMonotoneUptoRow.domain.isEmpty) = true := by kernel_rfl
theorem k30 : (Rows.overlapMonotoneUptoRow.pinned == Rows.overlapMonotoneUptoRow.pinnedBy) = true := by kernel_rfl
theorem k31 : (Rows.overlapMonotoneUptoRow.veiled == (Try.f5.params.toList ++ Rows.overlapMonotoneSpec.plain.varTypes Try.prog ++ Try.f5.resultTypes.toList).any (Try.prog.veiledRec ·)) = true := by kernel_rfl
theorem k32 : (Rows.overlapMonotoneUptoRow.veiledFits Try.prog Try.f5.params.toList (Try.f5.params.toList ++ Rows.overlapMonotoneSpec.plain.varTypes Try.prog ++ Try.f5.resultTypes.toList)) = true := by kernel_rfl
theorem k27 : (Rows.overlapMonotoneUptoRow.lifted == Try.prog.liftsFinal) = true := by rw [seat_lifts]; rfl
theorem k28 : (Try.prog.make == some Rows.overlapMonotoneUptoRow.make) = true := by rw [seat_make]; rfl
theorem closed : joinedFacts Try.prog 5 Try.f5 Rows.overlapMonotoneSpec Rows.overlapMonotoneUptoRow = true := joined_of k1 laidOut seat_mapsRowed k4 k5 k6 seat_stops k8 seat_knobs k10 k11 k12 k13 k14 k15 k16 k17 k18 k19 k20 k21 k22 k23 k24 seat_heard seat_enter k27 k28 k29 k33 k30 k31 k32
theorem over : Rows.overlapMonotoneUptoRow.holds Try.pinned (Rows.OpenSpec.upto Rows.overlapMonotoneSpec) :=
  OpenClaim.holds_of_cond 5 Try.f5 rfl rfl rfl rfl rfl rfl rfl ⟨rfl, rfl, rfl, rfl, rfl⟩ rfl rfl rfl rfl rfl (by kernel_rfl) Try.func5 closed
    (of_decide_eq_true (by kernel_rfl)) (by unfold Func.isWrapper; first | (rw [if_pos (by decide +kernel)]; kernel_rfl) | (rw [if_neg (by decide +kernel)]; exact ⟨rfl, rfl⟩))
    (fun os started H enc _ F => lifted os started H enc F)
theorem proved : Rows.OverlapMonotoneUptoSaid := over
#print axioms proved
end Go.Proofs.Ytilffjjibcebmaa.overlapMonotone
namespace Go.Proofs.Ytilffjjibcebmaa
/-- The row, under a short name, for the claim. -/
theorem overlapMonotone_holds : Rows.OverlapMonotoneUptoSaid := overlapMonotone.proved
end Go.Proofs.Ytilffjjibcebmaa
