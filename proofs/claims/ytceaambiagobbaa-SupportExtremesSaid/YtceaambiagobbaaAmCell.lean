/- Cells that were brought to a shape say what they said. -/
import Derived.Test.YtceaambiagobbaaAmRel
namespace Go.Proofs.Ytceaambiagobbaa.Am
open Go

/-- e says of a cell what d says -/
def Le1 (d e : D1) : Prop := d = e ∨ ∃ a cap z, d = .v (.slice a 0 cap) ∧ e = .fr z []
theorem Le1.c {w : World} {Z : Nat → Prop} {d e : D1} (h : Le1 d e) {y : Value} (k : C1 w Z d y) : C1 w Z e y := by
  rcases h with rfl | ⟨a, cap, z, rfl, rfl⟩
  · exact k
  · cases k; exact .fr0 z a cap
theorem Le1.v {w : World} {Z : Nat → Prop} {β : Nat → Option Loc} {d e : D1} (h : Le1 d e) {y : Value} (k : V1 w Z β d y) : V1 w Z β e y := by
  rcases h with rfl | ⟨a, cap, z, rfl, rfl⟩
  · exact k
  · have := k.v_eq; subst this; exact .c (.fr0 z a cap)
theorem Le1.top {d e : D1} (h : Le1 d e) (k : d = .top) : e = .top := by
  rcases h with rfl | ⟨a, cap, z, rfl, rfl⟩
  · exact k
  · cases k

theorem asInt_inv {k : IntKind} {d : D1} {n : Int} (h : asInt? k d = some n) : d = .v (.int k n) := by
  unfold asInt? at h
  split at h
  · split at h
    · rename_i hk; cases h; rw [hk]
    · cases h
  · cases h
theorem asBool_inv {d : D1} {b : Bool} (h : asBool? d = some b) : d = .v (.bool b) := by
  unfold asBool? at h
  split at h
  · cases h; rfl
  · cases h
theorem asStr_inv {d : D1} {b : ByteArray} (h : asStr? d = some b) : d = .v (.string b) := by
  unfold asStr? at h
  split at h
  · cases h; rfl
  · cases h
theorem asFr_inv {z : Nat} {d : D1} {es : List (List D1)} (h : asFr? z d = some es) : Le1 d (.fr z es) := by
  unfold asFr? at h
  split at h
  · rename_i z' es'
    split at h
    · rename_i hz
      rw [Nat.beq_eq] at hz
      cases h; subst hz; exact .inl rfl
    · cases h
  · cases h; exact .inr ⟨_, _, _, rfl, rfl⟩
  · cases h

theorem bif_none {c : Bool} {α : Type} {x : Option α} {r : α} (h : (bif c then x else none) = some r) : c = true ∧ x = some r := by
  cases c with
  | true => exact ⟨rfl, h⟩
  | false => cases h

theorem Ct.dec_ok {Ω : Type} {t : Ct} {d : D1} {K : t.T → Option Ω} {r : Ω} (h : t.dec d K = some r) : ∃ x, K x = some r ∧ Le1 d (t.enc x) := by
  cases t with
  | int k =>
    obtain ⟨x, hx, hk⟩ := Option.bind_eq_some_iff.1 h
    exact ⟨x, hk, .inl (asInt_inv hx)⟩
  | bool =>
    obtain ⟨x, hx, hk⟩ := Option.bind_eq_some_iff.1 h
    exact ⟨x, hk, .inl (asBool_inv hx)⟩
  | str =>
    obtain ⟨x, hx, hk⟩ := Option.bind_eq_some_iff.1 h
    exact ⟨x, hk, .inl (asStr_inv hx)⟩
  | sl z =>
    obtain ⟨x, hx, hk⟩ := Option.bind_eq_some_iff.1 h
    exact ⟨x, hk, asFr_inv hx⟩
  | ptr b e c =>
    simp only [Ct.dec] at h
    split at h
    · obtain ⟨hc, hk⟩ := bif_none h
      simp only [Bool.and_eq_true, Nat.beq_eq] at hc
      obtain ⟨⟨rfl, rfl⟩, rfl⟩ := hc
      exact ⟨(), hk, .inl rfl⟩
    · cases h
  | fs b =>
    simp only [Ct.dec] at h
    split at h
    · obtain ⟨hc, hk⟩ := bif_none h
      rw [Nat.beq_eq] at hc; subst hc
      exact ⟨(), hk, .inl rfl⟩
    · cases h
  | clo f =>
    simp only [Ct.dec] at h
    split at h
    · obtain ⟨hc, hk⟩ := bif_none h
      rw [Nat.beq_eq] at hc; subst hc
      exact ⟨(), hk, .inl rfl⟩
    · cases h
  | raw => exact ⟨d, h, .inl rfl⟩

/-- cells, one by one -/
def LeL : List D1 → List D1 → Prop := All2 Le1
theorem decCts_ok {Ω : Type} {r : Ω} : ∀ {ts : List Ct} {ds : List D1} {K : CtsT ts → Option Ω}, decCts ts ds K = some r → ∃ x, K x = some r ∧ LeL ds (encCts ts x)
  | [], ds, K, h => by
    simp only [decCts] at h
    split at h
    · exact ⟨(), h, trivial⟩
    · cases h
  | t :: ts, ds, K, h => by
    simp only [decCts] at h
    split at h
    · cases h
    · rename_i d ds
      obtain ⟨x, hx, hd⟩ := Ct.dec_ok h
      obtain ⟨y, hy, hds⟩ := decCts_ok hx
      exact ⟨(x, y), hy, hd, hds⟩
theorem LeL.vc {w : World} {Z : Nat → Prop} {β : Nat → Option Loc} {cl : Bool} : ∀ {ds es : List D1} {ys : List Value}, LeL ds es → All2 (VC w Z β cl) ds ys → All2 (VC w Z β cl) es ys
  | [], [], [], _, _ => trivial
  | _ :: _, _ :: _, _ :: _, ⟨a, b⟩, ⟨c, d⟩ => ⟨⟨a.v c.1, fun e => a.c (c.2 e)⟩, LeL.vc b d⟩
  | [], [], _ :: _, _, k => k.elim
  | _ :: _, _ :: _, [], _, k => k.elim
  | [], _ :: _, _, k, _ => k.elim
  | _ :: _, [], _, k, _ => k.elim
theorem LeL.length {ds es : List D1} (h : LeL ds es) : ds.length = es.length := All2.length h
theorem LeL.nth {ds es : List D1} (h : LeL ds es) {i : Nat} {e : D1} (he : nth es i = some e) : ∃ d, Am.nth ds i = some d ∧ Le1 d e := by
  obtain ⟨d, hd⟩ := nth_some (l := ds) (i := i) (by rw [h.length]; exact nth_lt he)
  obtain ⟨e', he', hl⟩ := All2.nth h hd
  rw [he] at he'; obtain rfl := Option.some.inj he'
  exact ⟨d, hd, hl⟩
theorem encCts_length : ∀ (ts : List Ct) (x : CtsT ts), (encCts ts x).length = ts.length
  | [], _ => rfl
  | _ :: r, x => by simp [encCts, encCts_length r]
theorem Ct.closed_enc {t : Ct} {x : t.T} (h : t.closed = true) : closed1 (t.enc x) = true := by
  cases t <;> first | rfl | cases h
theorem closedTs_vc {w : World} {Z : Nat → Prop} {β : Nat → Option Loc} {cl : Bool} : ∀ {ts : List Ct} {x : CtsT ts} {ys : List Value}, All2 (VC w Z β cl) (encCts ts x) ys → All2 (VC w Z β (closedTs ts)) (encCts ts x) ys
  | [], _, [], _ => trivial
  | t :: r, x, y :: ys, ⟨a, b⟩ => by
    refine ⟨⟨a.1, fun h => ?_⟩, All2.mono (fun d y h => h.weak fun k => ?_) (closedTs_vc (ts := r) b)⟩
    · simp only [closedTs, Bool.and_eq_true] at h
      exact a.1.closed (Ct.closed_enc h.1)
    · simp only [closedTs, Bool.and_eq_true] at k; exact k.2
  | [], _, _ :: _, k => k.elim
  | _ :: _, _, [], k => k.elim

/-- e says of a value what d says -/
def Le0 (d e : D0) : Prop := ∀ (w : World) (Z : Nat → Prop) (β : Nat → Option Loc) (y : Value), V0 w Z β d y → V0 w Z β e y
def LeD (d e : D) : Prop := ∀ (w : World) (Z : Nat → Prop) (β : Nat → Option Loc) (y : Value), VD w Z β d y → VD w Z β e y
theorem Vt.dec_ok {Ω : Type} {t : Vt} {d : D0} {K : t.T → Option Ω} {r : Ω} (h : t.dec d K = some r) : ∃ x, K x = some r ∧ Le0 d (t.enc x) := by
  cases t with
  | c t =>
    simp only [Vt.dec] at h
    split at h
    · obtain ⟨x, hx, hl⟩ := Ct.dec_ok h
      refine ⟨x, hx, fun w Z β y hy => ?_⟩
      rcases hy with hy | hy
      · exact .inl (hl.top hy)
      · exact .inr (hl.v hy)
    · cases h
  | agg ts =>
    simp only [Vt.dec] at h
    split at h
    · cases h
    · obtain ⟨x, hx, hl⟩ := decCts_ok h
      refine ⟨x, hx, fun w Z β y hy => ?_⟩
      obtain ⟨ys, rfl, ha⟩ := hy
      exact ⟨ys, rfl, closedTs_vc (hl.vc ha)⟩
theorem shapeK_ok {Ω : Type} {P : Program} {ro : Bool} {t : TypeId} {d : D0} {K : D0 → Option Ω} {r : Ω} (h : shapeK P ro t d K = some r) : ∃ d', K d' = some r ∧ Le0 d d' := by
  unfold shapeK at h
  split at h
  · exact ⟨_, h, fun _ _ _ _ k => k⟩
  · obtain ⟨x, hx, hl⟩ := decCts_ok h
    refine ⟨_, hx, fun w Z β y hy => ?_⟩
    obtain ⟨ys, rfl, ha⟩ := hy
    refine ⟨ys, rfl, ?_⟩
    rename_i cl ds
    cases cl with
    | true => exact hl.vc ha
    | false => exact closedTs_vc (hl.vc ha)
end Go.Proofs.Ytceaambiagobbaa.Am
