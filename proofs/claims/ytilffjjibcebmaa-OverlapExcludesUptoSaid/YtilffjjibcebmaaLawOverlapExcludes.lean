/- The law OverlapExcludes: it returns true for every input, and its arguments read as before. The row, out of what is proved of the law without levels. -/
import Derived.Test.YtilffjjibcebmaaRows
import Derived.Test.YtilffjjibcebmaaSeat
import Derived.Test.YtilffjjibcebmaaMOverlapExcludes
import Derived.Test.YtilffjjibcebmaaAmRow3
import Derived.WalkKit
import Derived.ProofKit
import Derived.OpenShut
import Derived.ShutString
import Derived.ChangeOld
import Derived.Below
import Derived.Carry
import Derived.SizedLaws
import Derived.JoinedCond
namespace Go.Proofs.Ytilffjjibcebmaa.overlapExcludes
open Go Go.Proofs Go.ChangeShapes Go.WideShapes Go.ChangeAt Go.RowKit Am
open Go.ChangeMaps (open_string shut_string)
set_option linter.unusedVariables false
theorem own : ownKnob Try.prog.godebug = none := by kernel_rfl
theorem laidOut : laidOutB Try.prog = true := seat_laidOut
theorem one_le {H : Type} (d : DataW H) : 1 ≤ Rows.uptoBulk d := by
  cases d with
  | lit l => cases l <;> simp [Rows.uptoBulk]
  | nil => simp [Rows.uptoBulk]
  | ptr d => simp [Rows.uptoBulk]
  | slice elems spare => simp [Rows.uptoBulk]
  | agg parts => simp [Rows.uptoBulk]
  | iface t d => simp [Rows.uptoBulk]
  | map entries => simp [Rows.uptoBulk]
  | held h => simp [Rows.uptoBulk]
theorem part_le {H : Type} {d : DataW H} {l : List (DataW H)} (h : d ∈ l) : Rows.uptoBulk d ≤ Rows.uptoBulkAll l := by
  induction l with
  | nil => cases h
  | cons x r ih =>
    simp only [Rows.uptoBulkAll]
    cases List.mem_cons.1 h with
    | inl e => subst e; omega
    | inr e => have := ih e; omega
theorem length_le {H : Type} (l : List (DataW H)) : l.length ≤ Rows.uptoBulkAll l := by
  induction l with
  | nil => simp [Rows.uptoBulkAll]
  | cons x r ih => have := one_le x; simp only [Rows.uptoBulkAll, List.length_cons]; omega
/-- a slice that came in is no longer than the bound -/
theorem bulk_rows {H : Type} {l : List (DataW H)} {d : DataW H} {n : Nat} (h : Rows.uptoBulkAll l ≤ 1048576) (hd : d ∈ l) (e : n = 0 ∨ ∃ el sp, d = .slice el sp ∧ el.length = n) : n ≤ 1048576 := by
  rcases e with rfl | ⟨el, sp, rfl, rfl⟩
  · omega
  · have h1 := part_le hd
    have h2 := length_le el
    simp only [Rows.uptoBulk] at h1
    omega
set_option maxRecDepth 100000 in
theorem lifted (os : Os) (started : os.Started) (H : Type) (enc : TypeId × Value → H) (F : Stop.Interp) :
    ReturnsInHanded {} Try.checked os 9 .any ((Rows.OpenSpec.upto Rows.overlapExcludesSpec).pre6 enc Try.prog Try.f9 Rows.overlapExcludesUptoRow.domain false) (((Rows.OpenSpec.upto Rows.overlapExcludesSpec).at F).post enc Try.prog Try.f9 false true false false) := by
  refine returnsInHanded_of_cond (C := Try.checked) (s := Rows.OpenSpec.upto Rows.overlapExcludesSpec) (k := Rows.uptoSmall) rfl own started (by kernel_rfl) Try.func9
    (OpenSpec.witness (enc := enc) (C := Try.checked) (s := Rows.OpenSpec.upto Rows.overlapExcludesSpec) (k := Rows.uptoSmall) rfl false ⟨#[], #[.slice none 0 0, .slice none 0 0, .slice none 0 0, .int .i64 0, .int .i64 0, .int .i64 0, .int .i64 0, .int .i64 0], []⟩ 8 (by kernel_rfl) (by kernel_rfl) (by kernel_rfl) (x := ([.nil, .nil, .nil, .lit (.int .i64 0), .lit (.int .i64 0), .lit (.int .i64 0), .lit (.int .i64 0), .lit (.int .i64 0)], [], [])) (by kernel_rfl) rfl (by kernel_rfl)) ?_
  intro W base args ds gs before hval0 hW hcnd hk _
  have hval : ∀ (j : Nat) t v, Try.f9.params[j]? = some t → args[j]? = some v → Value.okWide Try.prog W .any base t v := hval0
  have hW' := hW
  obtain ⟨p, q, hA0, hV, rfl, hfz, hnd⟩ := hW
  have hA : DataW.TrodAll enc Try.prog W 0 (fun _ => true) true Try.f9.params.toList args.toList ds p := hA0
  rw [Try.params9] at hA hval
  obtain ⟨v0, vs0, d0, ds0, p0, q0, hargs, rfl, rfl, h0, r0⟩ := trodAll_cons hA
  obtain ⟨v1, vs1, d1, ds1, p1, q1, rfl, rfl, rfl, h1, r1⟩ := trodAll_cons r0
  obtain ⟨v2, vs2, d2, ds2, p2, q2, rfl, rfl, rfl, h2, r2⟩ := trodAll_cons r1
  obtain ⟨v3, vs3, d3, ds3, p3, q3, rfl, rfl, rfl, h3, r3⟩ := trodAll_cons r2
  obtain ⟨v4, vs4, d4, ds4, p4, q4, rfl, rfl, rfl, h4, r4⟩ := trodAll_cons r3
  obtain ⟨v5, vs5, d5, ds5, p5, q5, rfl, rfl, rfl, h5, r5⟩ := trodAll_cons r4
  obtain ⟨v6, vs6, d6, ds6, p6, q6, rfl, rfl, rfl, h6, r6⟩ := trodAll_cons r5
  obtain ⟨v7, vs7, d7, ds7, p7, q7, rfl, rfl, rfl, h7, r7⟩ := trodAll_cons r6
  obtain ⟨rfl, rfl, rfl⟩ := trodAll_nil r7
  obtain rfl : args = #[v0, v1, v2, v3, v4, v5, v6, v7] := by cases args; simp_all
  obtain ⟨rfl, rfl⟩ := trodVars_none hV
  have k0 := h0
  have lt0 : ∀ x ∈ p0, x.block < W.heap.size := by obtain ⟨m, hm⟩ := k0; exact DataW.trod_lt m _ _ _ hm
  obtain ⟨a0, c0, l0, _, b0⟩ := open_rowsU 8 1 [.int .i64] Try.underlying24 (by kernel_rfl) (by kernel_rfl) (by kernel_rfl) rfl (by decide) (hval 0 24 v0 rfl rfl) h0
  have l0 := bulk_rows (of_decide_eq_true hk) (d := d0) (by simp) l0
  rw [rows_typed toI encI toI_enc] at c0
  have k1 := h1
  have lt1 : ∀ x ∈ p1, x.block < W.heap.size := by obtain ⟨m, hm⟩ := k1; exact DataW.trod_lt m _ _ _ hm
  obtain ⟨a1, c1, l1, _, b1⟩ := open_rowsU 8 1 [.int .i64] Try.underlying24 (by kernel_rfl) (by kernel_rfl) (by kernel_rfl) rfl (by decide) (hval 1 24 v1 rfl rfl) h1
  have l1 := bulk_rows (of_decide_eq_true hk) (d := d1) (by simp) l1
  rw [rows_typed toI encI toI_enc] at c1
  have k2 := h2
  have lt2 : ∀ x ∈ p2, x.block < W.heap.size := by obtain ⟨m, hm⟩ := k2; exact DataW.trod_lt m _ _ _ hm
  obtain ⟨a2, c2, l2, _, b2⟩ := open_rowsU 8 1 [.int .i64] Try.underlying24 (by kernel_rfl) (by kernel_rfl) (by kernel_rfl) rfl (by decide) (hval 2 24 v2 rfl rfl) h2
  have l2 := bulk_rows (of_decide_eq_true hk) (d := d2) (by simp) l2
  rw [rows_typed toI encI toI_enc] at c2
  have k3 := h3
  have lt3 : ∀ x ∈ p3, x.block < W.heap.size := by obtain ⟨m, hm⟩ := k3; exact DataW.trod_lt m _ _ _ hm
  obtain ⟨a3, rfl, rfl, rfl, w3⟩ := open_int Try.underlying3 (hval 3 3 v3 rfl rfl) h3
  have k4 := h4
  have lt4 : ∀ x ∈ p4, x.block < W.heap.size := by obtain ⟨m, hm⟩ := k4; exact DataW.trod_lt m _ _ _ hm
  obtain ⟨a4, rfl, rfl, rfl, w4⟩ := open_int Try.underlying3 (hval 4 3 v4 rfl rfl) h4
  have k5 := h5
  have lt5 : ∀ x ∈ p5, x.block < W.heap.size := by obtain ⟨m, hm⟩ := k5; exact DataW.trod_lt m _ _ _ hm
  obtain ⟨a5, rfl, rfl, rfl, w5⟩ := open_int Try.underlying3 (hval 5 3 v5 rfl rfl) h5
  have k6 := h6
  have lt6 : ∀ x ∈ p6, x.block < W.heap.size := by obtain ⟨m, hm⟩ := k6; exact DataW.trod_lt m _ _ _ hm
  obtain ⟨a6, rfl, rfl, rfl, w6⟩ := open_int Try.underlying3 (hval 6 3 v6 rfl rfl) h6
  have k7 := h7
  have lt7 : ∀ x ∈ p7, x.block < W.heap.size := by obtain ⟨m, hm⟩ := k7; exact DataW.trod_lt m _ _ _ hm
  obtain ⟨a7, rfl, rfl, rfl, w7⟩ := open_int Try.underlying3 (hval 7 3 v7 rfl rfl) h7
  clear hA0 hval0 hk
  refine (ran_den (H := HH) (by kernel_rfl) (f := 9) (w := W) (vs := [v0, v1, v2, .int .i64 a3, .int .i64 a4, .int .i64 a5, .int .i64 a6, .int .i64 a7]) (e := encO_law16_OverlapExcludes) rfl (show den encO_law16_OverlapExcludes (X_law16_OverlapExcludes (a0.map toI) (a1.map toI) (a2.map toI) a3 a4 a5 a6 a7) = some true from law_law16_OverlapExcludes (a0.map toI) (a1.map toI) (a2.map toI) a3 a4 a5 a6 a7 (by rw [List.length_map]; exact l0) (rows_b toI BI toI_b b0) (by rw [List.length_map]; exact l1) (rows_b toI BI toI_b b1) (by rw [List.length_map]; exact l2) (rows_b toI BI toI_b b2) (wf_i64 w3) (wf_i64 w4) (wf_i64 w5) (wf_i64 w6) (wf_i64 w7)) ⟨vd_c1 c0, vd_c1 c1, vd_c1 c2, VD_dv rfl, VD_dv rfl, VD_dv rfl, VD_dv rfl, VD_dv rfl, trivial⟩).mono fun e W' ⟨he, bel⟩ => ?_
  subst he
  exact ⟨_, rfl, _, _, _, [], _, [], hW', trodAll_mk1 (shut_bool Try.underlying4 _), (trodAll_cons_mk (Below.trod laidOut (by kernel_rfl) (of_decide_eq_true (by kernel_rfl)) k0 bel lt0) (trodAll_cons_mk (Below.trod laidOut (by kernel_rfl) (of_decide_eq_true (by kernel_rfl)) k1 bel lt1) (trodAll_cons_mk (Below.trod laidOut (by kernel_rfl) (of_decide_eq_true (by kernel_rfl)) k2 bel lt2) (trodAll_cons_mk (shut_int Try.underlying3 w3) (trodAll_cons_mk (shut_int Try.underlying3 w4) (trodAll_cons_mk (shut_int Try.underlying3 w5) (trodAll_cons_mk (shut_int Try.underlying3 w6) (trodAll_cons_mk (shut_int Try.underlying3 w7) trodAll_mk0)))))))), rfl, bel.frame _, fun h => by cases h⟩
theorem k1 : (Rows.overlapExcludesUptoRow.wf (OpenSpec.ofChange Rows.overlapExcludesSpec)) = true := by kernel_rfl
theorem k4 : (Try.f9.params.all (Try.prog.readableRec ·)) = true := by kernel_rfl
theorem k5 : (namedTie Try.prog Rows.overlapExcludesUptoRow.named Rows.overlapExcludesSpec.vars) = true := by kernel_rfl
theorem k6 : (Rows.overlapExcludesUptoRow.stops == []) = true := by kernel_rfl
theorem k8 : (Rows.overlapExcludesUptoRow.knobs == []) = true := by kernel_rfl
theorem k10 : (Rows.overlapExcludesUptoRow.inPlace == Try.prog.inPlace 9) = true := by kernel_rfl
theorem k11 : (Rows.overlapExcludesUptoRow.unfollowed == Try.prog.unfollowed 9) = true := by kernel_rfl
theorem k12 : (Rows.overlapExcludesUptoRow.recurses == Try.prog.recurses 9) = true := by kernel_rfl
theorem k13 : (Rows.overlapExcludesUptoRow.named == Try.prog.varsNamed 9) = true := by kernel_rfl
theorem k14 : (Rows.overlapExcludesUptoRow.maps == (Try.f9.params.toList ++ Rows.overlapExcludesSpec.plain.varTypes Try.prog).any (Try.prog.mapsRec ·)) = true := by kernel_rfl
theorem k15 : (Rows.overlapExcludesUptoRow.ifaces == (Try.f9.params.toList ++ Rows.overlapExcludesSpec.plain.varTypes Try.prog).any (Try.prog.ifacesRec ·)) = true := by kernel_rfl
theorem k16 : (Rows.overlapExcludesUptoRow.mapsOut == Try.prog.mapsAmong Try.f9.resultTypes.toList) = true := by kernel_rfl
theorem k17 : (Rows.overlapExcludesUptoRow.loops == (Try.f9.params.toList ++ Rows.overlapExcludesSpec.plain.varTypes Try.prog).any (Try.prog.loopsFrom ·)) = true := by kernel_rfl
theorem k18 : (Rows.overlapExcludesUptoRow.wideKeys == (Try.f9.params.toList ++ Rows.overlapExcludesSpec.plain.varTypes Try.prog ++ Try.f9.resultTypes.toList).any (Try.prog.wideKeysFrom ·)) = true := by kernel_rfl
theorem k19 : (Rows.overlapExcludesSpec.vars.all (Try.prog.varReadable ·)) = true := by kernel_rfl
theorem k20 : (Try.f9.resultTypes.all (fun t => Try.prog.readableRec t && decide (t < Try.prog.types.size))) = true := by kernel_rfl
theorem k21 : (Rows.overlapExcludesUptoRow.ifacesOut == Try.f9.resultTypes.toList.any (Try.prog.ifacesRec ·)) = true := by kernel_rfl
theorem k22 : (Rows.overlapExcludesUptoRow.loopsOut == Try.f9.resultTypes.toList.any (Try.prog.loopsFrom ·)) = true := by kernel_rfl
theorem k23 : (Rows.overlapExcludesUptoRow.plainKeys == Try.prog.plainKeys) = true := by kernel_rfl
theorem k24 : (Rows.overlapExcludesUptoRow.shortTexts.isNone) = true := by kernel_rfl
theorem k29 : (Rows.overlapExcludesUptoRow.kinds == []) = true := by kernel_rfl
theorem k33 : (Rows.overlapExcludesUptoRow.domain.isEmpty) = true := by kernel_rfl
theorem k30 : (Rows.overlapExcludesUptoRow.pinned == Rows.overlapExcludesUptoRow.pinnedBy) = true := by kernel_rfl
theorem k31 : (Rows.overlapExcludesUptoRow.veiled == (Try.f9.params.toList ++ Rows.overlapExcludesSpec.plain.varTypes Try.prog ++ Try.f9.resultTypes.toList).any (Try.prog.veiledRec ·)) = true := by kernel_rfl
theorem k32 : (Rows.overlapExcludesUptoRow.veiledFits Try.prog Try.f9.params.toList (Try.f9.params.toList ++ Rows.overlapExcludesSpec.plain.varTypes Try.prog ++ Try.f9.resultTypes.toList)) = true := by kernel_rfl
theorem k27 : (Rows.overlapExcludesUptoRow.lifted == Try.prog.liftsFinal) = true := by rw [seat_lifts]; rfl
theorem k28 : (Try.prog.make == some Rows.overlapExcludesUptoRow.make) = true := by rw [seat_make]; rfl
theorem closed : joinedFacts Try.prog 9 Try.f9 Rows.overlapExcludesSpec Rows.overlapExcludesUptoRow = true := joined_of k1 laidOut seat_mapsRowed k4 k5 k6 seat_stops k8 seat_knobs k10 k11 k12 k13 k14 k15 k16 k17 k18 k19 k20 k21 k22 k23 k24 seat_heard seat_enter k27 k28 k29 k33 k30 k31 k32
theorem over : Rows.overlapExcludesUptoRow.holds Try.pinned (Rows.OpenSpec.upto Rows.overlapExcludesSpec) :=
  OpenClaim.holds_of_cond 9 Try.f9 rfl rfl rfl rfl rfl rfl rfl ⟨rfl, rfl, rfl, rfl, rfl⟩ rfl rfl rfl rfl rfl (by kernel_rfl) Try.func9 closed
    (of_decide_eq_true (by kernel_rfl)) (by unfold Func.isWrapper; first | (rw [if_pos (by decide +kernel)]; kernel_rfl) | (rw [if_neg (by decide +kernel)]; exact ⟨rfl, rfl⟩))
    (fun os started H enc _ F => lifted os started H enc F)
theorem proved : Rows.OverlapExcludesUptoSaid := over
#print axioms proved
end Go.Proofs.Ytilffjjibcebmaa.overlapExcludes
namespace Go.Proofs.Ytilffjjibcebmaa
/-- The row, under a short name, for the claim. -/
theorem overlapExcludes_holds : Rows.OverlapExcludesUptoSaid := overlapExcludes.proved
end Go.Proofs.Ytilffjjibcebmaa
