/- The row's side, with the cells' types told. -/
import Derived.Test.YtceaambiagobbaaAmLim
import Derived.SizedLaws
import Derived.ChangeArms
import Derived.OpenShut
namespace Go.Proofs.Ytceaambiagobbaa.Am
open Go

theorem open_rows' {H : Type} {enc : TypeId × Value → H} {P : Program} {w : World} {sp : Nat → Bool} {held : Bool} {r : Reach} {b0 : Nat} {t e : TypeId} {v : Value} {d : DataW H} {ps : List MemPlace} (n z by' : Nat) (ts : List Ct) (ht : P.underlying t = some (.slice e)) (hts : ctsOf P true n e = ts) (hz : P.cellsOf e = z) (hby : P.bytesOf e = by') (hfl : flatT P n e = true) (hp : plainCts ts = true) (hpos : 0 < z)
    {tys : List TypeId} {ds : List (DataW H)} {j : Nat} (hsz : (DataW.weightsEach P tys ds).all (· ≤ reachBytes) = true) (hj : tys[j]? = some t) (hd : ds[j]? = some d)
    (hval : Value.okWide P w r b0 t v) (htr : DataW.Trod enc P w 0 sp held t v d ps) :
    ∃ rows : List (CtsT ts), C1 w (allZ w) (.fr z (rows.map (encCts ts))) v ∧ rows.length * by' ≤ reachBytes ∧ rows.length ≤ maxLen ∧ ∀ x ∈ rows, wfCts ts x := by
  subst hts hz
  obtain ⟨rows, h1, h2, h3⟩ := open_rows n ht hfl hp hpos hval htr
  refine ⟨rows, h1, ?_, h2, h3⟩
  obtain ⟨a0, len0, cap0, rfl⟩ := Go.WideShapes.okWide_slice ht hval
  obtain ⟨fuel, hf⟩ := htr
  have hcells : (Value.slice a0 len0 cap0).cells.toList = [.slice a0 len0 cap0] := rfl
  rw [hcells] at hf
  have hlen : rows.length = len0 := by
    generalize hes : List.map (encCts (ctsOf P true n e)) rows = es at h1
    have hl : rows.length = es.length := by rw [← hes]; simp
    rw [hl]
    cases h1 <;> simp
  rcases DataW.trod_slice ht hf with ⟨h0, _⟩ | ⟨a, len, cap, elems, rest, m, _, h0, hx, hb, hl, hm, hlen', hel, _, _⟩
  · simp only [List.cons.injEq, Value.slice.injEq, and_true] at h0
    obtain ⟨rfl, rfl, rfl⟩ := h0
    rw [hlen]; simp
  · simp only [List.cons.injEq, Value.slice.injEq, and_true] at h0
    obtain ⟨rfl, rfl, rfl⟩ := h0
    cases hx
    have := sized_slice hsz hj hd ht
    rw [hby] at this
    simp only [List.length_map] at this
    rw [hlen, ← hlen']
    refine Nat.le_trans ?_ this
    exact Nat.mul_le_mul_right _ (by omega)

theorem open_flat' {H : Type} {enc : TypeId × Value → H} {P : Program} {w : World} {sp : Nat → Bool} {held : Bool} {r : Reach} {b0 : Nat} {t : TypeId} {v : Value} {d : DataW H} {ps : List MemPlace} (n : Nat) (ts : List Ct) (ht : isAggT P t = true) (hts : ctsOf P true n t = ts) (hfl : flatT P n t = true) (hp : plainCts ts = true)
    (hval : Value.okWide P w r b0 t v) (hd : DataW.Trod enc P w 0 sp held t v d ps) : ∃ x : CtsT ts, (∀ (Z : Nat → Prop) (β : Nat → Option Loc), V0 w Z β (.agg true (encCts ts x)) v) ∧ wfCts ts x := by
  subst hts
  exact open_flat n ht hfl hp hval hd

/-- from the answer without a level to the machine's call -/
theorem ran_den {P : Program} {H : Hints} (hmix : P.follows .mixedOrders = true) {f : Nat} {args : List D} {w : World} {vs : List Value} {e : Bool → R} (he : e true = (.s (.one (.v (.bool true))), [])) (h : den e (fun n => (lvl P H n).2 f args []) = some true)
    (ha : All2 (VD w (allZ w) (fun _ => none)) args vs) : Calls P f vs.toArray w fun e w' => e = .returned (.bool true) ∧ Go.RowKit.Below w.heap.size w w' := by
  obtain ⟨N, hN⟩ := den_spec h
  refine ran (H := H) hmix (n := N) (b := true) (args := args) ?_ ha
  have := hN N (Nat.le_refl N)
  rw [he] at this
  exact this

theorem wf_i64 {n : Int} (h : (Lit.int .i64 n).wf = true) : -9223372036854775808 ≤ n ∧ n ≤ 9223372036854775807 := by
  simp only [Lit.wf, IntKind.min, IntKind.max, IntKind.signed, IntKind.bits, Bool.and_eq_true, decide_eq_true_eq, if_true] at h
  omega
theorem wf_u8 {n : Int} (h : (Lit.int .u8 n).wf = true) : 0 ≤ n ∧ n ≤ 255 := by
  simp [Lit.wf, IntKind.min, IntKind.max, IntKind.signed, IntKind.bits] at h
  omega
theorem vd_c1 {w : World} {Z : Nat → Prop} {β : Nat → Option Loc} {d : D1} {v : Value} (h : C1 w Z d v) : VD w Z β (.s (.one d)) v := .inr (.c h)
end Go.Proofs.Ytceaambiagobbaa.Am
