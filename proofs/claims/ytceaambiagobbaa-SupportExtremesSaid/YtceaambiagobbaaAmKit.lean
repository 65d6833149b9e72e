/- Short words for the mathematics on the printed equations. -/
import Derived.Test.YtceaambiagobbaaAmRow
namespace Go.Proofs.Ytceaambiagobbaa.Am
open Go

@[simp] theorem nth_map' {α β : Type} (f : α → β) (l : List α) (i : Nat) : nth (l.map f) i = (nth l i).map f := nth_map f l i
@[simp] theorem asInt_v (k : IntKind) (n : Int) : asInt? k (.v (.int k n)) = some n := by simp [asInt?]
@[simp] theorem asBool_v (b : Bool) : asBool? (.v (.bool b)) = some b := rfl
@[simp] theorem asFr_v (z : Nat) (es : List (List D1)) : asFr? z (.fr z es) = some es := by simp [asFr?]
@[simp] theorem nth_cons_zero {α : Type} (x : α) (l : List α) : nth (x :: l) 0 = some x := rfl
@[simp] theorem nth_cons_succ {α : Type} (x : α) (l : List α) (i : Nat) : nth (x :: l) (i + 1) = nth l i := rfl
theorem nth_of_lt {α : Type} {l : List α} {i : Nat} (h : i < l.length) : nth l i = some l[i] := by
  rw [nth_eq]; exact List.getElem?_eq_getElem h
theorem nth_ge {α : Type} {l : List α} {i : Nat} (h : l.length ≤ i) : nth l i = none := by
  rw [nth_eq]; exact List.getElem?_eq_none h

theorem decCts_enc {Ω : Type} : ∀ {ts : List Ct} (x : CtsT ts) (K : CtsT ts → Option Ω), decCts ts (encCts ts x) K = K x
  | [], _, _ => rfl
  | t :: r, x, K => by
    simp only [encCts, decCts]
    have : ∀ (K' : t.T → Option Ω), t.dec (t.enc x.1) K' = K' x.1 := by
      intro K'
      cases t <;> simp [Ct.dec, Ct.enc, asInt?, asBool?, asStr?, asFr?]
    rw [this, decCts_enc]
theorem Vt.dec_enc {Ω : Type} {t : Vt} (x : t.T) (K : t.T → Option Ω) : t.dec (t.enc x) K = K x := by
  cases t with
  | c t => cases t <;> simp [Vt.dec, Vt.enc, Ct.dec, Ct.enc, asInt?, asBool?, asStr?, asFr?]
  | agg ts => exact decCts_enc x K
theorem decVts_enc {Ω : Type} : ∀ {ts : List Vt} (x : VtsT ts) (K : VtsT ts → Option Ω), decVts ts (encVts ts x) K = K x
  | [], _, _ => rfl
  | t :: r, x, K => by
    simp only [encVts, decVts]
    rw [Vt.dec_enc, decVts_enc]
theorem decR_enc {Ω : Type} {ts : List Vt} (x : VtsT ts) (K : VtsT ts → Option Ω) : decR ts (encR ts x) K = K x := by
  match ts, x, K with
  | [], _, _ => rfl
  | [t], x, K => exact Vt.dec_enc x.1 fun y => K (y, ())
  | t :: t' :: r, x, K => exact decVts_enc x K
theorem Mt.dec_enc {Ω : Type} {t : Mt} (x : t.T) (K : t.T → Option Ω) : t.dec (t.enc x) K = K x := by
  cases t with
  | dead => rfl
  | cells fl ts =>
    cases fl <;> simp [Mt.dec, Mt.enc, decCts_enc]
  | arr z fl =>
    cases fl <;> simp [Mt.dec, Mt.enc]
theorem decMts_enc {Ω : Type} : ∀ {ts : List Mt} (x : MtsT ts) (K : MtsT ts → Option Ω), decMts ts (encMts ts x) K = K x
  | [], _, _ => rfl
  | t :: r, x, K => by
    simp only [encMts, decMts]
    rw [Mt.dec_enc, decMts_enc]

/-- a call whose answer is known -/
theorem callT_eq {Ω : Type} {callF : CallF} {f : Nat} {args : List D} {m : List Box} {outs : List Vt} {mouts : List Mt} {y : VtsT outs} {my : MtsT mouts} (h : callF f args m = some (encR outs y, encMts mouts my)) (K : VtsT outs → MtsT mouts → Option Ω) :
    callT callF f args m outs mouts K = K y my := by
  unfold callT
  rw [h, Option.bind_some, decR_enc, decMts_enc]

/-- a state of a shape, brought to it again -/
def okSlots (n : Nat) : List (Nat × Vt) → Bool
  | [] => true
  | (s, _) :: r => Nat.blt s n && !(r.any fun p => Nat.beq p.1 s) && okSlots n r
theorem encSlots_length : ∀ (ts : List (Nat × Vt)) (x : SlotsT ts) (fr : List D), (encSlots ts x fr).length = fr.length
  | [], _, _ => rfl
  | (s, t) :: r, x, fr => by simp [encSlots, encSlots_length r, upd_length]
theorem encSlots_other {s : Nat} : ∀ (ts : List (Nat × Vt)) (x : SlotsT ts) (fr : List D), (ts.any fun p => Nat.beq p.1 s) = false → tmpOf (encSlots ts x fr) s = tmpOf fr s
  | [], _, _, _ => rfl
  | (s', t) :: r, x, fr, h => by
    simp only [List.any_cons, Bool.or_eq_false_iff] at h
    rw [encSlots, encSlots_other r _ _ h.2, tmpOf_upd, if_neg]
    intro e
    have := h.1
    rw [e.1] at this
    have hb : Nat.beq s s = true := by rw [Nat.beq_eq]
    rw [hb] at this; cases this
theorem decSlots_enc {Ω : Type} {n : Nat} : ∀ {ts : List (Nat × Vt)} (x : SlotsT ts) (fr : List D) (K : SlotsT ts → Option Ω), fr.length = n → okSlots n ts = true → decSlots ts (encSlots ts x fr) K = K x
  | [], _, _, _, _, _ => rfl
  | (s, t) :: r, x, fr, K, hl, h => by
    simp only [okSlots, Bool.and_eq_true, Bool.not_eq_true'] at h
    obtain ⟨⟨h1, h2⟩, h3⟩ := h
    rw [Nat.blt_eq] at h1
    simp only [decSlots]
    have hs : tmpOf (encSlots ((s, t) :: r) x fr) s = .s (t.enc x.1) := by
      rw [encSlots, encSlots_other r _ _ h2, tmpOf_upd, if_pos ⟨rfl, by omega⟩]
    rw [hs]
    simp only [Vt.dec_enc]
    rw [encSlots, decSlots_enc (n := n) x.2 _ _ (by rw [upd_length]; exact hl) h3]
theorem decSt_enc {Ω : Type} {t : StTy} (ht : okSlots t.n t.slots = true) (x : t.T) (K : t.T → Option Ω) : decSt t (encSt t x) K = K x := by
  unfold decSt encSt
  have hl : (encSlots t.slots x.1 (List.replicate t.n dtop)).length = t.n := by rw [encSlots_length]; simp
  have hb : Nat.beq (encSlots t.slots x.1 (List.replicate t.n dtop)).length t.n = true := by rw [Nat.beq_eq]; exact hl
  simp only [hb, cond_true]
  rw [decSlots_enc (n := t.n) x.1 _ _ (by simp) ht]
  exact decMts_enc x.2 fun y => K (x.1, y)
end Go.Proofs.Ytceaambiagobbaa.Am
