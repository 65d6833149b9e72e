/- The law OverlapScales: it returns true for every input, and its arguments read as before. The row, out of what is proved of the law without levels. -/
import Derived.Test.YtilffjjibcebmaaRows
import Derived.Test.YtilffjjibcebmaaSeat
import Derived.Test.YtilffjjibcebmaaMOverlapScales
import Derived.Test.YtilffjjibcebmaaAmRow3
import Derived.WalkKit
import Derived.ProofKit
import Derived.OpenShut
import Derived.ShutString
import Derived.ChangeOld
import Derived.Below
import Derived.Carry
import Derived.SizedLaws
import Derived.JoinedCond
namespace Go.Proofs.Ytilffjjibcebmaa.overlapScales
open Go Go.Proofs Go.ChangeShapes Go.WideShapes Go.ChangeAt Go.RowKit Am
open Go.ChangeMaps (open_string shut_string)
set_option linter.unusedVariables false
theorem own : ownKnob Try.prog.godebug = none := by kernel_rfl
theorem laidOut : laidOutB Try.prog = true := seat_laidOut
theorem one_le {H : Type} (d : DataW H) : 1 ≤ Rows.uptoBulk d := by
  cases d with
  | lit l => cases l <;> simp [Rows.uptoBulk]
  | nil => simp [Rows.uptoBulk]
  | ptr d => simp [Rows.uptoBulk]
  | slice elems spare => simp [Rows.uptoBulk]
  | agg parts => simp [Rows.uptoBulk]
  | iface t d => simp [Rows.uptoBulk]
  | map entries => simp [Rows.uptoBulk]
  | held h => simp [Rows.uptoBulk]
theorem part_le {H : Type} {d : DataW H} {l : List (DataW H)} (h : d ∈ l) : Rows.uptoBulk d ≤ Rows.uptoBulkAll l := by
  induction l with
  | nil => cases h
  | cons x r ih =>
    simp only [Rows.uptoBulkAll]
    cases List.mem_cons.1 h with
    | inl e => subst e; omega
    | inr e => have := ih e; omega
theorem length_le {H : Type} (l : List (DataW H)) : l.length ≤ Rows.uptoBulkAll l := by
  induction l with
  | nil => simp [Rows.uptoBulkAll]
  | cons x r ih => have := one_le x; simp only [Rows.uptoBulkAll, List.length_cons]; omega
/-- a slice that came in is no longer than the bound -/
theorem bulk_rows {H : Type} {l : List (DataW H)} {d : DataW H} {n : Nat} (h : Rows.uptoBulkAll l ≤ 1048576) (hd : d ∈ l) (e : n = 0 ∨ ∃ el sp, d = .slice el sp ∧ el.length = n) : n ≤ 1048576 := by
  rcases e with rfl | ⟨el, sp, rfl, rfl⟩
  · omega
  · have h1 := part_le hd
    have h2 := length_le el
    simp only [Rows.uptoBulk] at h1
    omega
set_option maxRecDepth 100000 in
theorem lifted (os : Os) (started : os.Started) (H : Type) (enc : TypeId × Value → H) (F : Stop.Interp) :
    ReturnsInHanded {} Try.checked os 6 .any ((Rows.OpenSpec.upto Rows.overlapScalesSpec).pre6 enc Try.prog Try.f6 Rows.overlapScalesUptoRow.domain false) (((Rows.OpenSpec.upto Rows.overlapScalesSpec).at F).post enc Try.prog Try.f6 false true false false) := by
  refine returnsInHanded_of_cond (C := Try.checked) (s := Rows.OpenSpec.upto Rows.overlapScalesSpec) (k := Rows.uptoSmall) rfl own started (by kernel_rfl) Try.func6
    (OpenSpec.witness (enc := enc) (C := Try.checked) (s := Rows.OpenSpec.upto Rows.overlapScalesSpec) (k := Rows.uptoSmall) rfl false ⟨#[], #[.slice none 0 0, .slice none 0 0, .slice none 0 0, .int .i64 0, .int .i64 0, .int .u8 0], []⟩ 8 (by kernel_rfl) (by kernel_rfl) (by kernel_rfl) (x := ([.nil, .nil, .nil, .lit (.int .i64 0), .lit (.int .i64 0), .lit (.int .u8 0)], [], [])) (by kernel_rfl) rfl (by kernel_rfl)) ?_
  intro W base args ds gs before hval0 hW hcnd hk _
  have hval : ∀ (j : Nat) t v, Try.f6.params[j]? = some t → args[j]? = some v → Value.okWide Try.prog W .any base t v := hval0
  have hW' := hW
  obtain ⟨p, q, hA0, hV, rfl, hfz, hnd⟩ := hW
  have hA : DataW.TrodAll enc Try.prog W 0 (fun _ => true) true Try.f6.params.toList args.toList ds p := hA0
  rw [Try.params6] at hA hval
  obtain ⟨v0, vs0, d0, ds0, p0, q0, hargs, rfl, rfl, h0, r0⟩ := trodAll_cons hA
  obtain ⟨v1, vs1, d1, ds1, p1, q1, rfl, rfl, rfl, h1, r1⟩ := trodAll_cons r0
  obtain ⟨v2, vs2, d2, ds2, p2, q2, rfl, rfl, rfl, h2, r2⟩ := trodAll_cons r1
  obtain ⟨v3, vs3, d3, ds3, p3, q3, rfl, rfl, rfl, h3, r3⟩ := trodAll_cons r2
  obtain ⟨v4, vs4, d4, ds4, p4, q4, rfl, rfl, rfl, h4, r4⟩ := trodAll_cons r3
  obtain ⟨v5, vs5, d5, ds5, p5, q5, rfl, rfl, rfl, h5, r5⟩ := trodAll_cons r4
  obtain ⟨rfl, rfl, rfl⟩ := trodAll_nil r5
  obtain rfl : args = #[v0, v1, v2, v3, v4, v5] := by cases args; simp_all
  obtain ⟨rfl, rfl⟩ := trodVars_none hV
  have k0 := h0
  have lt0 : ∀ x ∈ p0, x.block < W.heap.size := by obtain ⟨m, hm⟩ := k0; exact DataW.trod_lt m _ _ _ hm
  obtain ⟨a0, c0, l0, _, b0⟩ := open_rowsU 8 1 [.int .i64] Try.underlying24 (by kernel_rfl) (by kernel_rfl) (by kernel_rfl) rfl (by decide) (hval 0 24 v0 rfl rfl) h0
  have l0 := bulk_rows (of_decide_eq_true hk) (d := d0) (by simp) l0
  rw [rows_typed toI encI toI_enc] at c0
  have k1 := h1
  have lt1 : ∀ x ∈ p1, x.block < W.heap.size := by obtain ⟨m, hm⟩ := k1; exact DataW.trod_lt m _ _ _ hm
  obtain ⟨a1, c1, l1, _, b1⟩ := open_rowsU 8 1 [.int .i64] Try.underlying24 (by kernel_rfl) (by kernel_rfl) (by kernel_rfl) rfl (by decide) (hval 1 24 v1 rfl rfl) h1
  have l1 := bulk_rows (of_decide_eq_true hk) (d := d1) (by simp) l1
  rw [rows_typed toI encI toI_enc] at c1
  have k2 := h2
  have lt2 : ∀ x ∈ p2, x.block < W.heap.size := by obtain ⟨m, hm⟩ := k2; exact DataW.trod_lt m _ _ _ hm
  obtain ⟨a2, c2, l2, _, b2⟩ := open_rowsU 8 1 [.int .i64] Try.underlying24 (by kernel_rfl) (by kernel_rfl) (by kernel_rfl) rfl (by decide) (hval 2 24 v2 rfl rfl) h2
  have l2 := bulk_rows (of_decide_eq_true hk) (d := d2) (by simp) l2
  rw [rows_typed toI encI toI_enc] at c2
  have k3 := h3
  have lt3 : ∀ x ∈ p3, x.block < W.heap.size := by obtain ⟨m, hm⟩ := k3; exact DataW.trod_lt m _ _ _ hm
  obtain ⟨a3, rfl, rfl, rfl, w3⟩ := open_int Try.underlying3 (hval 3 3 v3 rfl rfl) h3
  have k4 := h4
  have lt4 : ∀ x ∈ p4, x.block < W.heap.size := by obtain ⟨m, hm⟩ := k4; exact DataW.trod_lt m _ _ _ hm
  obtain ⟨a4, rfl, rfl, rfl, w4⟩ := open_int Try.underlying3 (hval 4 3 v4 rfl rfl) h4
  have k5 := h5
  have lt5 : ∀ x ∈ p5, x.block < W.heap.size := by obtain ⟨m, hm⟩ := k5; exact DataW.trod_lt m _ _ _ hm
  obtain ⟨a5, rfl, rfl, rfl, w5⟩ := open_int Try.underlying5 (hval 5 5 v5 rfl rfl) h5
  clear hA0 hval0 hk
  refine (ran_den (H := HH) (by kernel_rfl) (f := 6) (w := W) (vs := [v0, v1, v2, .int .i64 a3, .int .i64 a4, .int .u8 a5]) (e := encO_law16_OverlapScales) rfl (show den encO_law16_OverlapScales (X_law16_OverlapScales (a0.map toI) (a1.map toI) (a2.map toI) a3 a4 a5) = some true from law_law16_OverlapScales (a0.map toI) (a1.map toI) (a2.map toI) a3 a4 a5 (by rw [List.length_map]; exact l0) (rows_b toI BI toI_b b0) (by rw [List.length_map]; exact l1) (rows_b toI BI toI_b b1) (by rw [List.length_map]; exact l2) (rows_b toI BI toI_b b2) (wf_i64 w3) (wf_i64 w4) (wf_u8 w5)) ⟨vd_c1 c0, vd_c1 c1, vd_c1 c2, VD_dv rfl, VD_dv rfl, VD_dv rfl, trivial⟩).mono fun e W' ⟨he, bel⟩ => ?_
  subst he
  exact ⟨_, rfl, _, _, _, [], _, [], hW', trodAll_mk1 (shut_bool Try.underlying4 _), (trodAll_cons_mk (Below.trod laidOut (by kernel_rfl) (of_decide_eq_true (by kernel_rfl)) k0 bel lt0) (trodAll_cons_mk (Below.trod laidOut (by kernel_rfl) (of_decide_eq_true (by kernel_rfl)) k1 bel lt1) (trodAll_cons_mk (Below.trod laidOut (by kernel_rfl) (of_decide_eq_true (by kernel_rfl)) k2 bel lt2) (trodAll_cons_mk (shut_int Try.underlying3 w3) (trodAll_cons_mk (shut_int Try.underlying3 w4) (trodAll_cons_mk (shut_int Try.underlying5 w5) trodAll_mk0)))))), rfl, bel.frame _, fun h => by cases h⟩
theorem k1 : (Rows.overlapScalesUptoRow.wf (OpenSpec.ofChange Rows.overlapScalesSpec)) = true := by kernel_rfl
theorem k4 : (Try.f6.params.all (Try.prog.readableRec ·)) = true := by kernel_rfl
theorem k5 : (namedTie Try.prog Rows.overlapScalesUptoRow.named Rows.overlapScalesSpec.vars) = true := by kernel_rfl
theorem k6 : (Rows.overlapScalesUptoRow.stops == []) = true := by kernel_rfl
theorem k8 : (Rows.overlapScalesUptoRow.knobs == []) = true := by kernel_rfl
theorem k10 : (Rows.overlapScalesUptoRow.inPlace == Try.prog.inPlace 6) = true := by kernel_rfl
theorem k11 : (Rows.overlapScalesUptoRow.unfollowed == Try.prog.unfollowed 6) = true := by kernel_rfl
theorem k12 : (Rows.overlapScalesUptoRow.recurses == Try.prog.recurses 6) = true := by kernel_rfl
theorem k13 : (Rows.overlapScalesUptoRow.named == Try.prog.varsNamed 6) = true := by kernel_rfl
theorem k14 : (Rows.overlapScalesUptoRow.maps == (Try.f6.params.toList ++ Rows.overlapScalesSpec.plain.varTypes Try.prog).any (Try.prog.mapsRec ·)) = true := by kernel_rfl
theorem k15 : (Rows.overlapScalesUptoRow.ifaces == (Try.f6.params.toList ++ Rows.overlapScalesSpec.plain.varTypes Try.prog).any (Try.prog.ifacesRec ·)) = true := by kernel_rfl
theorem k16 : (Rows.overlapScalesUptoRow.mapsOut == Try.prog.mapsAmong Try.f6.resultTypes.toList) = true := by kernel_rfl
theorem k17 : (Rows.overlapScalesUptoRow.loops == (Try.f6.params.toList ++ Rows.overlapScalesSpec.plain.varTypes Try.prog).any (Try.prog.loopsFrom ·)) = true := by kernel_rfl
theorem k18 : (Rows.overlapScalesUptoRow.wideKeys == (Try.f6.params.toList ++ Rows.overlapScalesSpec.plain.varTypes Try.prog ++ Try.f6.resultTypes.toList).any (Try.prog.wideKeysFrom ·)) = true := by kernel_rfl
theorem k19 : (Rows.overlapScalesSpec.vars.all (Try.prog.varReadable ·)) = true := by kernel_rfl
theorem k20 : (Try.f6.resultTypes.all (fun t => Try.prog.readableRec t && decide (t < Try.prog.types.size))) = true := by kernel_rfl
theorem k21 : (Rows.overlapScalesUptoRow.ifacesOut == Try.f6.resultTypes.toList.any (Try.prog.ifacesRec ·)) = true := by kernel_rfl
theorem k22 : (Rows.overlapScalesUptoRow.loopsOut == Try.f6.resultTypes.toList.any (Try.prog.loopsFrom ·)) = true := by kernel_rfl
theorem k23 : (Rows.overlapScalesUptoRow.plainKeys == Try.prog.plainKeys) = true := by kernel_rfl
theorem k24 : (Rows.overlapScalesUptoRow.shortTexts.isNone) = true := by kernel_rfl
theorem k29 : (Rows.overlapScalesUptoRow.kinds == []) = true := by kernel_rfl
theorem k33 : (Rows.overlapScalesUptoRow.domain.isEmpty) = true := by kernel_rfl
theorem k30 : (Rows.overlapScalesUptoRow.pinned == Rows.overlapScalesUptoRow.pinnedBy) = true := by kernel_rfl
theorem k31 : (Rows.overlapScalesUptoRow.veiled == (Try.f6.params.toList ++ Rows.overlapScalesSpec.plain.varTypes Try.prog ++ Try.f6.resultTypes.toList).any (Try.prog.veiledRec ·)) = true := by kernel_rfl
theorem k32 : (Rows.overlapScalesUptoRow.veiledFits Try.prog Try.f6.params.toList (Try.f6.params.toList ++ Rows.overlapScalesSpec.plain.varTypes Try.prog ++ Try.f6.resultTypes.toList)) = true := by kernel_rfl
theorem k27 : (Rows.overlapScalesUptoRow.lifted == Try.prog.liftsFinal) = true := by rw [seat_lifts]; rfl
theorem k28 : (Try.prog.make == some Rows.overlapScalesUptoRow.make) = true := by rw [seat_make]; rfl
theorem closed : joinedFacts Try.prog 6 Try.f6 Rows.overlapScalesSpec Rows.overlapScalesUptoRow = true := joined_of k1 laidOut seat_mapsRowed k4 k5 k6 seat_stops k8 seat_knobs k10 k11 k12 k13 k14 k15 k16 k17 k18 k19 k20 k21 k22 k23 k24 seat_heard seat_enter k27 k28 k29 k33 k30 k31 k32
theorem over : Rows.overlapScalesUptoRow.holds Try.pinned (Rows.OpenSpec.upto Rows.overlapScalesSpec) :=
  OpenClaim.holds_of_cond 6 Try.f6 rfl rfl rfl rfl rfl rfl rfl ⟨rfl, rfl, rfl, rfl, rfl⟩ rfl rfl rfl rfl rfl (by kernel_rfl) Try.func6 closed
    (of_decide_eq_true (by kernel_rfl)) (by unfold Func.isWrapper; first | (rw [if_pos (by decide +kernel)]; kernel_rfl) | (rw [if_neg (by decide +kernel)]; exact ⟨rfl, rfl⟩))
    (fun os started H enc _ F => lifted os started H enc F)
theorem proved : Rows.OverlapScalesUptoSaid := over
#print axioms proved
end Go.Proofs.Ytilffjjibcebmaa.overlapScales
namespace Go.Proofs.Ytilffjjibcebmaa
/-- The row, under a short name, for the claim. -/
theorem overlapScales_holds : Rows.OverlapScalesUptoSaid := overlapScales.proved
end Go.Proofs.Ytilffjjibcebmaa
