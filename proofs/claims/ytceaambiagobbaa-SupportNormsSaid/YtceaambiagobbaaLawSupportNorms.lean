/- The law SupportNorms: it returns true for every input, and its arguments read as before. The row, out of what is proved of the law without levels. -/
import Derived.Test.YtceaambiagobbaaRows
import Derived.Test.YtceaambiagobbaaSeat
import Derived.Test.YtceaambiagobbaaMSupportNorms
import Derived.WalkKit
import Derived.ProofKit
import Derived.OpenShut
import Derived.ShutString
import Derived.ChangeOld
import Derived.Below
import Derived.Carry
import Derived.SizedLaws
namespace Go.Proofs.Ytceaambiagobbaa.supportNorms
open Go Go.Proofs Go.ChangeShapes Go.WideShapes Go.ChangeAt Go.RowKit Am
open Go.ChangeMaps (open_string shut_string)
set_option linter.unusedVariables false
theorem own : ownKnob Try.prog.godebug = none := by kernel_rfl
theorem laidOut : laidOutB Try.prog = true := seat_laidOut
set_option maxRecDepth 100000 in
theorem lifted (os : Os) (started : os.Started) (H : Type) (enc : TypeId × Value → H) :
    ReturnsInHanded {} Try.checked os 4 .any (Rows.supportNormsSpec.pre6 enc Try.prog Try.f4 Rows.supportNormsRow.domain false) (Rows.supportNormsSpec.post enc Try.prog Try.f4 false true false false) := by
  refine returnsInHanded_of_change_sized (C := Try.checked) own started (by kernel_rfl) Try.func4
    (ChangeSpec.witness6 (enc := enc) (C := Try.checked) false ⟨#[], #[.agg #[.int .i64 0, .int .i64 0, .int .i64 0], .int .u8 0], []⟩ 8 (by kernel_rfl) (by kernel_rfl) (by kernel_rfl) (by kernel_rfl)) ?_
  intro W base args ds gs before hval0 hW hcnd hsz0 _
  have hsz : (DataW.weightsEach Try.prog (Try.f4.params.toList ++ Rows.supportNormsSpec.plain.varTypes Try.prog) (ds ++ gs)).all (· ≤ reachBytes) = true := hsz0
  have hval : ∀ (j : Nat) t v, Try.f4.params[j]? = some t → args[j]? = some v → Value.okWide Try.prog W .any base t v := hval0
  have hW' := hW
  obtain ⟨p, q, hA0, hV, rfl, hfz, hnd⟩ := hW
  have hA : DataW.TrodAll enc Try.prog W 0 (fun _ => true) true Try.f4.params.toList args.toList ds p := hA0
  rw [Try.params4] at hA hval hsz
  obtain ⟨v0, vs0, d0, ds0, p0, q0, hargs, rfl, rfl, h0, r0⟩ := trodAll_cons hA
  obtain ⟨v1, vs1, d1, ds1, p1, q1, rfl, rfl, rfl, h1, r1⟩ := trodAll_cons r0
  obtain ⟨rfl, rfl, rfl⟩ := trodAll_nil r1
  obtain rfl : args = #[v0, v1] := by cases args; simp_all
  obtain ⟨rfl, rfl⟩ := trodVars_none hV
  have k0 := h0
  have lt0 : ∀ x ∈ p0, x.block < W.heap.size := by obtain ⟨m, hm⟩ := k0; exact DataW.trod_lt m _ _ _ hm
  obtain ⟨a0, c0, b0⟩ := open_flat' 8 [.int .i64, .int .i64, .int .i64] (by kernel_rfl) (by kernel_rfl) (by kernel_rfl) rfl (hval 0 23 v0 rfl rfl) h0
  have k1 := h1
  have lt1 : ∀ x ∈ p1, x.block < W.heap.size := by obtain ⟨m, hm⟩ := k1; exact DataW.trod_lt m _ _ _ hm
  obtain ⟨a1, rfl, rfl, rfl, w1⟩ := open_int Try.underlying5 (hval 1 5 v1 rfl rfl) h1
  clear hA0 hval0 hsz0 hsz
  refine (ran_den (H := HH) (by kernel_rfl) (f := 4) (w := W) (vs := [v0, .int .u8 a1]) (e := encO_law13_SupportNorms) rfl (show den encO_law13_SupportNorms (X_law13_SupportNorms (toI3 a0) a1) = some true from law_law13_SupportNorms (toI3 a0) a1 (toI3_b a0 b0) (wf_u8 w1)) ⟨c0 _ _, VD_dv rfl, trivial⟩).mono fun e W' ⟨he, bel⟩ => ?_
  subst he
  exact ⟨_, rfl, _, _, _, [], _, [], hW', trodAll_mk1 (shut_bool Try.underlying4 _), (trodAll_cons_mk (Below.trod laidOut (by kernel_rfl) (of_decide_eq_true (by kernel_rfl)) k0 bel lt0) (trodAll_cons_mk (shut_int Try.underlying5 w1) trodAll_mk0)), rfl, bel.frame _, fun h => by cases h⟩
theorem k1 : (Rows.supportNormsRow.wf (OpenSpec.ofChange Rows.supportNormsSpec)) = true := by kernel_rfl
theorem k4 : (Try.f4.params.all (Try.prog.readableRec ·)) = true := by kernel_rfl
theorem k5 : (namedTie Try.prog Rows.supportNormsRow.named Rows.supportNormsSpec.vars) = true := by kernel_rfl
theorem k6 : (Rows.supportNormsRow.stops == []) = true := by kernel_rfl
theorem k8 : (Rows.supportNormsRow.knobs == []) = true := by kernel_rfl
theorem k10 : (Rows.supportNormsRow.inPlace == Try.prog.inPlace 4) = true := by kernel_rfl
theorem k11 : (Rows.supportNormsRow.unfollowed == Try.prog.unfollowed 4) = true := by kernel_rfl
theorem k12 : (Rows.supportNormsRow.recurses == Try.prog.recurses 4) = true := by kernel_rfl
theorem k13 : (Rows.supportNormsRow.named == Try.prog.varsNamed 4) = true := by kernel_rfl
theorem k14 : (Rows.supportNormsRow.maps == (Try.f4.params.toList ++ Rows.supportNormsSpec.plain.varTypes Try.prog).any (Try.prog.mapsRec ·)) = true := by kernel_rfl
theorem k15 : (Rows.supportNormsRow.ifaces == (Try.f4.params.toList ++ Rows.supportNormsSpec.plain.varTypes Try.prog).any (Try.prog.ifacesRec ·)) = true := by kernel_rfl
theorem k16 : (Rows.supportNormsRow.mapsOut == Try.prog.mapsAmong Try.f4.resultTypes.toList) = true := by kernel_rfl
theorem k17 : (Rows.supportNormsRow.loops == (Try.f4.params.toList ++ Rows.supportNormsSpec.plain.varTypes Try.prog).any (Try.prog.loopsFrom ·)) = true := by kernel_rfl
theorem k18 : (Rows.supportNormsRow.wideKeys == (Try.f4.params.toList ++ Rows.supportNormsSpec.plain.varTypes Try.prog ++ Try.f4.resultTypes.toList).any (Try.prog.wideKeysFrom ·)) = true := by kernel_rfl
theorem k19 : (Rows.supportNormsSpec.vars.all (Try.prog.varReadable ·)) = true := by kernel_rfl
theorem k20 : (Try.f4.resultTypes.all (fun t => Try.prog.readableRec t && decide (t < Try.prog.types.size))) = true := by kernel_rfl
theorem k21 : (Rows.supportNormsRow.ifacesOut == Try.f4.resultTypes.toList.any (Try.prog.ifacesRec ·)) = true := by kernel_rfl
theorem k22 : (Rows.supportNormsRow.loopsOut == Try.f4.resultTypes.toList.any (Try.prog.loopsFrom ·)) = true := by kernel_rfl
theorem k23 : (Rows.supportNormsRow.plainKeys == Try.prog.plainKeys) = true := by kernel_rfl
theorem k24 : (Rows.supportNormsRow.shortTexts.isNone) = true := by kernel_rfl
theorem k29 : (Rows.supportNormsRow.kinds == []) = true := by kernel_rfl
theorem k33 : (Rows.supportNormsRow.domain.isEmpty) = true := by kernel_rfl
theorem k30 : (Rows.supportNormsRow.pinned == Rows.supportNormsRow.pinnedBy) = true := by kernel_rfl
theorem k31 : (Rows.supportNormsRow.veiled == (Try.f4.params.toList ++ Rows.supportNormsSpec.plain.varTypes Try.prog ++ Try.f4.resultTypes.toList).any (Try.prog.veiledRec ·)) = true := by kernel_rfl
theorem k32 : (Rows.supportNormsRow.veiledFits Try.prog Try.f4.params.toList (Try.f4.params.toList ++ Rows.supportNormsSpec.plain.varTypes Try.prog ++ Try.f4.resultTypes.toList)) = true := by kernel_rfl
theorem k27 : (Rows.supportNormsRow.lifted == Try.prog.liftsFinal) = true := by rw [seat_lifts]; rfl
theorem k28 : (Try.prog.make == some Rows.supportNormsRow.make) = true := by rw [seat_make]; rfl
theorem closed : joinedFacts Try.prog 4 Try.f4 Rows.supportNormsSpec Rows.supportNormsRow = true := joined_of k1 laidOut seat_mapsRowed k4 k5 k6 seat_stops k8 seat_knobs k10 k11 k12 k13 k14 k15 k16 k17 k18 k19 k20 k21 k22 k23 k24 seat_heard seat_enter k27 k28 k29 k33 k30 k31 k32
theorem over : Rows.supportNormsRow.holds Try.pinned (OpenSpec.ofChange Rows.supportNormsSpec) :=
  OpenClaim.holds_of_wide 4 Try.f4 rfl rfl rfl rfl rfl rfl rfl ⟨rfl, rfl, rfl, rfl, rfl⟩ rfl rfl rfl rfl rfl (by kernel_rfl) Try.func4 closed
    (of_decide_eq_true (by kernel_rfl)) (by unfold Func.isWrapper; first | (rw [if_pos (by decide +kernel)]; kernel_rfl) | (rw [if_neg (by decide +kernel)]; exact ⟨rfl, rfl⟩))
    (fun os started H enc _ => lifted os started H enc)
theorem proved : Rows.SupportNormsSaid := over
#print axioms proved
end Go.Proofs.Ytceaambiagobbaa.supportNorms
namespace Go.Proofs.Ytceaambiagobbaa
/-- The row, under a short name, for the claim. -/
theorem supportNorms_holds : Rows.SupportNormsSaid := supportNorms.proved
end Go.Proofs.Ytceaambiagobbaa
