/- PRINTED: rows of cells as types. -/
import Derived.Test.YtdeajnmheebghaaAmRow2
set_option linter.unusedVariables false
set_option linter.unusedSimpArgs false
namespace Go.Proofs.Ytdeajnmheebghaa.Am
open Go

def I64 (n : Int) : Prop := -9223372036854775808 ≤ n ∧ n ≤ 9223372036854775807
def U8 (n : Int) : Prop := 0 ≤ n ∧ n ≤ 255
theorem rows_typed {τ : Type} {ts : List Ct} (to : CtsT ts → τ) (enc : τ → List D1) (h : ∀ x, encCts ts x = enc (to x)) (rows : List (CtsT ts)) : rows.map (encCts ts) = (rows.map to).map enc := by
  rw [List.map_map]; congr 1; funext x; exact h x
theorem rows_b {τ : Type} {ts : List Ct} (to : CtsT ts → τ) (B : τ → Prop) (h : ∀ x, wfCts ts x → B (to x)) {rows : List (CtsT ts)} (hr : ∀ x ∈ rows, wfCts ts x) : ∀ y ∈ rows.map to, B y := by
  intro y hy; obtain ⟨x, hx, rfl⟩ := List.mem_map.1 hy; exact h x (hr x hx)
end Go.Proofs.Ytdeajnmheebghaa.Am
