/- PRINTED: rows of cells as types. -/
import Derived.Test.YtfpdjpleplhcgaaAmRow2
set_option linter.unusedVariables false
namespace Go.Proofs.Ytfpdjpleplhcgaa.Am
open Go

structure I2 where
  c0 : Int
  c1 : Int
def encI2 (x : I2) : List D1 := [.v (.int .i64 x.c0), .v (.int .i64 x.c1)]
theorem encI2_inj : ∀ a b, encI2 a = encI2 b → a = b := by
  rintro ⟨a0, a1⟩ ⟨b0, b1⟩ h
  simp [encI2] at h
  simp [h]
def I64 (n : Int) : Prop := -9223372036854775808 ≤ n ∧ n ≤ 9223372036854775807
def U8 (n : Int) : Prop := 0 ≤ n ∧ n ≤ 255
def BI2 (x : I2) : Prop := I64 x.c0 ∧ I64 x.c1
def toI2 (x : CtsT [.int .i64, .int .i64]) : I2 := ⟨x.1, x.2.1⟩
theorem toI2_enc (x : CtsT [.int .i64, .int .i64]) : encCts [.int .i64, .int .i64] x = encI2 (toI2 x) := rfl
theorem toI2_b (x : CtsT [.int .i64, .int .i64]) (h : wfCts [.int .i64, .int .i64] x) : BI2 (toI2 x) := ⟨wf_i64 h.1, wf_i64 h.2.1⟩
theorem rows_typed {τ : Type} {ts : List Ct} (to : CtsT ts → τ) (enc : τ → List D1) (h : ∀ x, encCts ts x = enc (to x)) (rows : List (CtsT ts)) : rows.map (encCts ts) = (rows.map to).map enc := by
  rw [List.map_map]; congr 1; funext x; exact h x
theorem rows_b {τ : Type} {ts : List Ct} (to : CtsT ts → τ) (B : τ → Prop) (h : ∀ x, wfCts ts x → B (to x)) {rows : List (CtsT ts)} (hr : ∀ x ∈ rows, wfCts ts x) : ∀ y ∈ rows.map to, B y := by
  intro y hy; obtain ⟨x, hx, rfl⟩ := List.mem_map.1 hy; exact h x (hr x hx)
end Go.Proofs.Ytfpdjpleplhcgaa.Am
