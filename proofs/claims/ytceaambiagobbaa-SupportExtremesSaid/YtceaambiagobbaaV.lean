/- PRINTED: rows of cells as types. -/
import Derived.Test.YtceaambiagobbaaAmRow2
set_option linter.unusedVariables false
set_option linter.unusedSimpArgs false
namespace Go.Proofs.Ytceaambiagobbaa.Am
open Go

structure I3 where
  c0 : Int
  c1 : Int
  c2 : Int
def encI3 (x : I3) : List D1 := [.v (.int .i64 x.c0), .v (.int .i64 x.c1), .v (.int .i64 x.c2)]
theorem encI3_inj : ∀ a b, encI3 a = encI3 b → a = b := by
  rintro ⟨a0, a1, a2⟩ ⟨b0, b1, b2⟩ h
  simp [encI3] at h
  simp [h]
def encI (x : Int) : List D1 := [.v (.int .i64 x)]
theorem encI_inj : ∀ a b, encI a = encI b → a = b := by
  intro a b h
  simpa [encI] using h
structure LI_I where
  c0 : List Int
  c1 : Int
def encLI_I (x : LI_I) : List D1 := [.fr 1 (List.map encI x.c0), .v (.int .i64 x.c1)]
theorem encLI_I_inj : ∀ a b, encLI_I a = encLI_I b → a = b := by
  rintro ⟨a0, a1⟩ ⟨b0, b1⟩ h
  simp [encLI_I, map_inj encI_inj] at h
  simp [h]
structure I6 where
  c0 : Int
  c1 : Int
  c2 : Int
  c3 : Int
  c4 : Int
  c5 : Int
def encI6 (x : I6) : List D1 := [.v (.int .i64 x.c0), .v (.int .i64 x.c1), .v (.int .i64 x.c2), .v (.int .i64 x.c3), .v (.int .i64 x.c4), .v (.int .i64 x.c5)]
theorem encI6_inj : ∀ a b, encI6 a = encI6 b → a = b := by
  rintro ⟨a0, a1, a2, a3, a4, a5⟩ ⟨b0, b1, b2, b3, b4, b5⟩ h
  simp [encI6] at h
  simp [h]
structure I2 where
  c0 : Int
  c1 : Int
def encI2 (x : I2) : List D1 := [.v (.int .i64 x.c0), .v (.int .i64 x.c1)]
theorem encI2_inj : ∀ a b, encI2 a = encI2 b → a = b := by
  rintro ⟨a0, a1⟩ ⟨b0, b1⟩ h
  simp [encI2] at h
  simp [h]
def I64 (n : Int) : Prop := -9223372036854775808 ≤ n ∧ n ≤ 9223372036854775807
def U8 (n : Int) : Prop := 0 ≤ n ∧ n ≤ 255
def BI3 (x : I3) : Prop := I64 x.c0 ∧ I64 x.c1 ∧ I64 x.c2
def toI3 (x : CtsT [.int .i64, .int .i64, .int .i64]) : I3 := ⟨x.1, x.2.1, x.2.2.1⟩
theorem toI3_enc (x : CtsT [.int .i64, .int .i64, .int .i64]) : encCts [.int .i64, .int .i64, .int .i64] x = encI3 (toI3 x) := rfl
theorem toI3_b (x : CtsT [.int .i64, .int .i64, .int .i64]) (h : wfCts [.int .i64, .int .i64, .int .i64] x) : BI3 (toI3 x) := ⟨wf_i64 h.1, wf_i64 h.2.1, wf_i64 h.2.2.1⟩
def BI (x : Int) : Prop := I64 x
def toI (x : CtsT [.int .i64]) : Int := x.1
theorem toI_enc (x : CtsT [.int .i64]) : encCts [.int .i64] x = encI (toI x) := rfl
theorem toI_b (x : CtsT [.int .i64]) (h : wfCts [.int .i64] x) : BI (toI x) := wf_i64 h.1
def BI6 (x : I6) : Prop := I64 x.c0 ∧ I64 x.c1 ∧ I64 x.c2 ∧ I64 x.c3 ∧ I64 x.c4 ∧ I64 x.c5
def toI6 (x : CtsT [.int .i64, .int .i64, .int .i64, .int .i64, .int .i64, .int .i64]) : I6 := ⟨x.1, x.2.1, x.2.2.1, x.2.2.2.1, x.2.2.2.2.1, x.2.2.2.2.2.1⟩
theorem toI6_enc (x : CtsT [.int .i64, .int .i64, .int .i64, .int .i64, .int .i64, .int .i64]) : encCts [.int .i64, .int .i64, .int .i64, .int .i64, .int .i64, .int .i64] x = encI6 (toI6 x) := rfl
theorem toI6_b (x : CtsT [.int .i64, .int .i64, .int .i64, .int .i64, .int .i64, .int .i64]) (h : wfCts [.int .i64, .int .i64, .int .i64, .int .i64, .int .i64, .int .i64] x) : BI6 (toI6 x) := ⟨wf_i64 h.1, wf_i64 h.2.1, wf_i64 h.2.2.1, wf_i64 h.2.2.2.1, wf_i64 h.2.2.2.2.1, wf_i64 h.2.2.2.2.2.1⟩
def BI2 (x : I2) : Prop := I64 x.c0 ∧ I64 x.c1
def toI2 (x : CtsT [.int .i64, .int .i64]) : I2 := ⟨x.1, x.2.1⟩
theorem toI2_enc (x : CtsT [.int .i64, .int .i64]) : encCts [.int .i64, .int .i64] x = encI2 (toI2 x) := rfl
theorem toI2_b (x : CtsT [.int .i64, .int .i64]) (h : wfCts [.int .i64, .int .i64] x) : BI2 (toI2 x) := ⟨wf_i64 h.1, wf_i64 h.2.1⟩
theorem rows_typed {τ : Type} {ts : List Ct} (to : CtsT ts → τ) (enc : τ → List D1) (h : ∀ x, encCts ts x = enc (to x)) (rows : List (CtsT ts)) : rows.map (encCts ts) = (rows.map to).map enc := by
  rw [List.map_map]; congr 1; funext x; exact h x
theorem rows_b {τ : Type} {ts : List Ct} (to : CtsT ts → τ) (B : τ → Prop) (h : ∀ x, wfCts ts x → B (to x)) {rows : List (CtsT ts)} (hr : ∀ x ∈ rows, wfCts ts x) : ∀ y ∈ rows.map to, B y := by
  intro y hy; obtain ⟨x, hx, rfl⟩ := List.mem_map.1 hy; exact h x (hr x hx)
end Go.Proofs.Ytceaambiagobbaa.Am
