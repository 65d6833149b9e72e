/- The law FixedNegates: it returns true for every input, and its arguments read as before. The row, out of what is proved of the law without levels. -/
import Derived.Test.YtdeajnmheebghaaRows
import Derived.Test.YtdeajnmheebghaaSeat
import Derived.Test.YtdeajnmheebghaaMFixedNegates
import Derived.WalkKit
import Derived.ProofKit
import Derived.OpenShut
import Derived.ShutString
import Derived.ChangeOld
import Derived.Below
import Derived.Carry
import Derived.SizedLaws
namespace Go.Proofs.Ytdeajnmheebghaa.fixedNegates
open Go Go.Proofs Go.ChangeShapes Go.WideShapes Go.ChangeAt Go.RowKit Am
open Go.ChangeMaps (open_string shut_string)
set_option linter.unusedVariables false
theorem own : ownKnob Try.prog.godebug = none := by kernel_rfl
theorem laidOut : laidOutB Try.prog = true := seat_laidOut
set_option maxRecDepth 100000 in
theorem lifted (os : Os) (started : os.Started) (H : Type) (enc : TypeId × Value → H) :
    ReturnsInHanded {} Try.checked os 11 .any (Rows.fixedNegatesSpec.pre6 enc Try.prog Try.f11 Rows.fixedNegatesRow.domain false) (Rows.fixedNegatesSpec.post enc Try.prog Try.f11 false true false false) := by
  refine returnsInHanded_of_change_sized (C := Try.checked) own started (by kernel_rfl) Try.func11
    (ChangeSpec.witness6 (enc := enc) (C := Try.checked) false ⟨#[], #[.int .i64 0, .int .i64 0, .int .u8 0], []⟩ 8 (by kernel_rfl) (by kernel_rfl) (by kernel_rfl) (by kernel_rfl)) ?_
  intro W base args ds gs before hval0 hW hcnd hsz0 _
  have hsz : (DataW.weightsEach Try.prog (Try.f11.params.toList ++ Rows.fixedNegatesSpec.plain.varTypes Try.prog) (ds ++ gs)).all (· ≤ reachBytes) = true := hsz0
  have hval : ∀ (j : Nat) t v, Try.f11.params[j]? = some t → args[j]? = some v → Value.okWide Try.prog W .any base t v := hval0
  have hW' := hW
  obtain ⟨p, q, hA0, hV, rfl, hfz, hnd⟩ := hW
  have hA : DataW.TrodAll enc Try.prog W 0 (fun _ => true) true Try.f11.params.toList args.toList ds p := hA0
  rw [Try.params11] at hA hval hsz
  obtain ⟨v0, vs0, d0, ds0, p0, q0, hargs, rfl, rfl, h0, r0⟩ := trodAll_cons hA
  obtain ⟨v1, vs1, d1, ds1, p1, q1, rfl, rfl, rfl, h1, r1⟩ := trodAll_cons r0
  obtain ⟨v2, vs2, d2, ds2, p2, q2, rfl, rfl, rfl, h2, r2⟩ := trodAll_cons r1
  obtain ⟨rfl, rfl, rfl⟩ := trodAll_nil r2
  obtain rfl : args = #[v0, v1, v2] := by cases args; simp_all
  obtain ⟨rfl, rfl⟩ := trodVars_none hV
  have k0 := h0
  have lt0 : ∀ x ∈ p0, x.block < W.heap.size := by obtain ⟨m, hm⟩ := k0; exact DataW.trod_lt m _ _ _ hm
  obtain ⟨a0, rfl, rfl, rfl, w0⟩ := open_int Try.underlying2 (hval 0 2 v0 rfl rfl) h0
  have k1 := h1
  have lt1 : ∀ x ∈ p1, x.block < W.heap.size := by obtain ⟨m, hm⟩ := k1; exact DataW.trod_lt m _ _ _ hm
  obtain ⟨a1, rfl, rfl, rfl, w1⟩ := open_int Try.underlying2 (hval 1 2 v1 rfl rfl) h1
  have k2 := h2
  have lt2 : ∀ x ∈ p2, x.block < W.heap.size := by obtain ⟨m, hm⟩ := k2; exact DataW.trod_lt m _ _ _ hm
  obtain ⟨a2, rfl, rfl, rfl, w2⟩ := open_int Try.underlying5 (hval 2 5 v2 rfl rfl) h2
  clear hA0 hval0 hsz0 hsz
  refine (ran_den (H := HH) (by kernel_rfl) (f := 11) (w := W) (vs := [.int .i64 a0, .int .i64 a1, .int .u8 a2]) (e := encO_law1_FixedNegates) rfl (show den encO_law1_FixedNegates (X_law1_FixedNegates a0 a1 a2) = some true from law_law1_FixedNegates a0 a1 a2 (wf_i64 w0) (wf_i64 w1) (wf_u8 w2)) ⟨VD_dv rfl, VD_dv rfl, VD_dv rfl, trivial⟩).mono fun e W' ⟨he, bel⟩ => ?_
  subst he
  exact ⟨_, rfl, _, _, _, [], _, [], hW', trodAll_mk1 (shut_bool Try.underlying4 _), (trodAll_cons_mk (shut_int Try.underlying2 w0) (trodAll_cons_mk (shut_int Try.underlying2 w1) (trodAll_cons_mk (shut_int Try.underlying5 w2) trodAll_mk0))), rfl, bel.frame _, fun h => by cases h⟩
theorem k1 : (Rows.fixedNegatesRow.wf (OpenSpec.ofChange Rows.fixedNegatesSpec)) = true := by kernel_rfl
theorem k4 : (Try.f11.params.all (Try.prog.readableRec ·)) = true := by kernel_rfl
theorem k5 : (namedTie Try.prog Rows.fixedNegatesRow.named Rows.fixedNegatesSpec.vars) = true := by kernel_rfl
theorem k6 : (Rows.fixedNegatesRow.stops == []) = true := by kernel_rfl
theorem k8 : (Rows.fixedNegatesRow.knobs == []) = true := by kernel_rfl
theorem k10 : (Rows.fixedNegatesRow.inPlace == Try.prog.inPlace 11) = true := by kernel_rfl
theorem k11 : (Rows.fixedNegatesRow.unfollowed == Try.prog.unfollowed 11) = true := by kernel_rfl
theorem k12 : (Rows.fixedNegatesRow.recurses == Try.prog.recurses 11) = true := by kernel_rfl
theorem k13 : (Rows.fixedNegatesRow.named == Try.prog.varsNamed 11) = true := by kernel_rfl
theorem k14 : (Rows.fixedNegatesRow.maps == (Try.f11.params.toList ++ Rows.fixedNegatesSpec.plain.varTypes Try.prog).any (Try.prog.mapsRec ·)) = true := by kernel_rfl
theorem k15 : (Rows.fixedNegatesRow.ifaces == (Try.f11.params.toList ++ Rows.fixedNegatesSpec.plain.varTypes Try.prog).any (Try.prog.ifacesRec ·)) = true := by kernel_rfl
theorem k16 : (Rows.fixedNegatesRow.mapsOut == Try.prog.mapsAmong Try.f11.resultTypes.toList) = true := by kernel_rfl
theorem k17 : (Rows.fixedNegatesRow.loops == (Try.f11.params.toList ++ Rows.fixedNegatesSpec.plain.varTypes Try.prog).any (Try.prog.loopsFrom ·)) = true := by kernel_rfl
theorem k18 : (Rows.fixedNegatesRow.wideKeys == (Try.f11.params.toList ++ Rows.fixedNegatesSpec.plain.varTypes Try.prog ++ Try.f11.resultTypes.toList).any (Try.prog.wideKeysFrom ·)) = true := by kernel_rfl
theorem k19 : (Rows.fixedNegatesSpec.vars.all (Try.prog.varReadable ·)) = true := by kernel_rfl
theorem k20 : (Try.f11.resultTypes.all (fun t => Try.prog.readableRec t && decide (t < Try.prog.types.size))) = true := by kernel_rfl
theorem k21 : (Rows.fixedNegatesRow.ifacesOut == Try.f11.resultTypes.toList.any (Try.prog.ifacesRec ·)) = true := by kernel_rfl
theorem k22 : (Rows.fixedNegatesRow.loopsOut == Try.f11.resultTypes.toList.any (Try.prog.loopsFrom ·)) = true := by kernel_rfl
theorem k23 : (Rows.fixedNegatesRow.plainKeys == Try.prog.plainKeys) = true := by kernel_rfl
theorem k24 : (Rows.fixedNegatesRow.shortTexts.isNone) = true := by kernel_rfl
theorem k29 : (Rows.fixedNegatesRow.kinds == []) = true := by kernel_rfl
theorem k33 : (Rows.fixedNegatesRow.domain.isEmpty) = true := by kernel_rfl
theorem k30 : (Rows.fixedNegatesRow.pinned == Rows.fixedNegatesRow.pinnedBy) = true := by kernel_rfl
theorem k31 : (Rows.fixedNegatesRow.veiled == (Try.f11.params.toList ++ Rows.fixedNegatesSpec.plain.varTypes Try.prog ++ Try.f11.resultTypes.toList).any (Try.prog.veiledRec ·)) = true := by kernel_rfl
theorem k32 : (Rows.fixedNegatesRow.veiledFits Try.prog Try.f11.params.toList (Try.f11.params.toList ++ Rows.fixedNegatesSpec.plain.varTypes Try.prog ++ Try.f11.resultTypes.toList)) = true := by kernel_rfl
theorem k27 : (Rows.fixedNegatesRow.lifted == Try.prog.liftsFinal) = true := by rw [seat_lifts]; rfl
theorem k28 : (Try.prog.make == some Rows.fixedNegatesRow.make) = true := by rw [seat_make]; rfl
theorem closed : joinedFacts Try.prog 11 Try.f11 Rows.fixedNegatesSpec Rows.fixedNegatesRow = true := joined_of k1 laidOut seat_mapsRowed k4 k5 k6 seat_stops k8 seat_knobs k10 k11 k12 k13 k14 k15 k16 k17 k18 k19 k20 k21 k22 k23 k24 seat_heard seat_enter k27 k28 k29 k33 k30 k31 k32
theorem over : Rows.fixedNegatesRow.holds Try.pinned (OpenSpec.ofChange Rows.fixedNegatesSpec) :=
  OpenClaim.holds_of_wide 11 Try.f11 rfl rfl rfl rfl rfl rfl rfl ⟨rfl, rfl, rfl, rfl, rfl⟩ rfl rfl rfl rfl rfl (by kernel_rfl) Try.func11 closed
    (of_decide_eq_true (by kernel_rfl)) (by unfold Func.isWrapper; first | (rw [if_pos (by decide +kernel)]; kernel_rfl) | (rw [if_neg (by decide +kernel)]; exact ⟨rfl, rfl⟩))
    (fun os started H enc _ => lifted os started H enc)
theorem proved : Rows.FixedNegatesSaid := over
#print axioms proved
end Go.Proofs.Ytdeajnmheebghaa.fixedNegates
namespace Go.Proofs.Ytdeajnmheebghaa
/-- The row, under a short name, for the claim. -/
theorem fixedNegates_holds : Rows.FixedNegatesSaid := fixedNegates.proved
end Go.Proofs.Ytdeajnmheebghaa
