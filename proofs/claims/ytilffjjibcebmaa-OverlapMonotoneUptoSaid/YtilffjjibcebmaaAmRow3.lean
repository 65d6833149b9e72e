/- The row's side under a bound on the bulk of what comes in. -/
import Derived.Test.YtilffjjibcebmaaAmRow2
import Derived.JoinedCond
namespace Go.Proofs.Ytilffjjibcebmaa.Am
open Go

theorem open_rowsU {H : Type} {enc : TypeId × Value → H} {P : Program} {w : World} {sp : Nat → Bool} {held : Bool} {r : Reach} {b0 : Nat} {t e : TypeId} {v : Value} {d : DataW H} {ps : List MemPlace} (n z : Nat) (ts : List Ct) (ht : P.underlying t = some (.slice e)) (hts : ctsOf P true n e = ts) (hz : P.cellsOf e = z) (hfl : flatT P n e = true) (hp : plainCts ts = true) (hpos : 0 < z)
    (hval : Value.okWide P w r b0 t v) (htr : DataW.Trod enc P w 0 sp held t v d ps) :
    ∃ rows : List (CtsT ts), C1 w (allZ w) (.fr z (rows.map (encCts ts))) v ∧ (rows.length = 0 ∨ ∃ el sp', d = .slice el sp' ∧ el.length = rows.length) ∧ rows.length ≤ maxLen ∧ ∀ x ∈ rows, wfCts ts x := by
  subst hts hz
  obtain ⟨rows, h1, h2, h3⟩ := open_rows n ht hfl hp hpos hval htr
  refine ⟨rows, h1, ?_, h2, h3⟩
  obtain ⟨a0, len0, cap0, rfl⟩ := Go.WideShapes.okWide_slice ht hval
  obtain ⟨fuel, hf⟩ := htr
  have hcells : (Value.slice a0 len0 cap0).cells.toList = [.slice a0 len0 cap0] := rfl
  rw [hcells] at hf
  have hlen : rows.length = len0 := by
    generalize hes : List.map (encCts (ctsOf P true n e)) rows = es at h1
    have hl : rows.length = es.length := by rw [← hes]; simp
    rw [hl]
    cases h1 <;> simp
  rcases DataW.trod_slice ht hf with ⟨h0, _⟩ | ⟨a, len, cap, elems, rest, m, _, h0, hx, hb, hl, hm, hlen', hel, _, _⟩
  · simp only [List.cons.injEq, Value.slice.injEq, and_true] at h0
    obtain ⟨rfl, rfl, rfl⟩ := h0
    exact .inl hlen
  · simp only [List.cons.injEq, Value.slice.injEq, and_true] at h0
    obtain ⟨rfl, rfl, rfl⟩ := h0
    cases hx
    exact .inr ⟨_, _, rfl, by rw [List.length_map, hlen, hlen']⟩
end Go.Proofs.Ytilffjjibcebmaa.Am
