/- What is known of values, by typed tuples: a value that was brought to a shape says what it said. -/
import Derived.Test.YtceaambiagobbaaAmCall
namespace Go.Proofs.Ytceaambiagobbaa.Am
open Go

theorem decVts_ok {Ω : Type} {r : Ω} : ∀ {ts : List Vt} {ds : List D0} {K : VtsT ts → Option Ω}, decVts ts ds K = some r → ∃ x, K x = some r ∧ ∀ (w : World) (Z : Nat → Prop) (β : Nat → Option Loc) (ys : List Value), All2 (V0 w Z β) ds ys → All2 (V0 w Z β) (encVts ts x) ys
  | [], ds, K, h => by
    simp only [decVts] at h
    split at h
    · exact ⟨(), h, fun _ _ _ ys k => k⟩
    · cases h
  | t :: ts, ds, K, h => by
    simp only [decVts] at h
    split at h
    · cases h
    · rename_i d ds
      obtain ⟨x, hx, hd⟩ := Vt.dec_ok h
      obtain ⟨y, hy, hds⟩ := decVts_ok hx
      refine ⟨(x, y), hy, fun w Z β ys k => ?_⟩
      cases ys with
      | nil => exact k.elim
      | cons v ys => exact ⟨hd w Z β v k.1, hds w Z β ys k.2⟩
theorem resD_mono {ds es : List D0} (hl : ds.length = es.length) (h : ∀ (w : World) (Z : Nat → Prop) (β : Nat → Option Loc) (ys : List Value), All2 (V0 w Z β) ds ys → All2 (V0 w Z β) es ys) : LeD (resD ds) (resD es) := by
  intro w Z β y hy
  match ds, es, hl with
  | [], [], _ => exact hy
  | [d], [e], _ => exact (h w Z β [y] ⟨hy, trivial⟩).1
  | d :: d' :: ds, e :: e' :: es, _ =>
    obtain ⟨ys, rfl, ha⟩ := hy
    exact ⟨ys, rfl, h w Z β ys ha⟩
  | [_], _ :: _ :: _, hl => simp at hl
  | _ :: _ :: _, [_], hl => simp at hl
theorem encVts_length : ∀ (ts : List Vt) (x : VtsT ts), (encVts ts x).length = ts.length
  | [], _ => rfl
  | _ :: r, x => by simp [encVts, encVts_length r]
theorem decVts_length {Ω : Type} {r : Ω} : ∀ {ts : List Vt} {ds : List D0} {K : VtsT ts → Option Ω}, decVts ts ds K = some r → ds.length = ts.length
  | [], ds, K, h => by
    simp only [decVts] at h
    split at h
    · rfl
    · cases h
  | t :: ts, ds, K, h => by
    simp only [decVts] at h
    split at h
    · cases h
    · rename_i d ds
      obtain ⟨x, hx, _⟩ := Vt.dec_ok h
      simp [decVts_length hx]
theorem decR_ok {Ω : Type} {r : Ω} {ts : List Vt} {d : D} {K : VtsT ts → Option Ω} (h : decR ts d K = some r) : ∃ x, K x = some r ∧ LeD d (encR ts x) := by
  have many : ∀ (ts : List Vt) (hts : ∀ t, ts ≠ [t]) (K : VtsT ts → Option Ω), (match (generalizing := false) d with | .s _ => none | .tup ds => decVts ts ds K) = some r → ∃ x, K x = some r ∧ LeD d (encR ts x) := by
    intro ts hts K h
    split at h
    · cases h
    · rename_i ds
      have hl := decVts_length h
      obtain ⟨x, hx, hv⟩ := decVts_ok h
      refine ⟨x, hx, fun w Z β y hy => ?_⟩
      obtain ⟨ys, rfl, ha⟩ := hy
      have := hv w Z β ys ha
      unfold encR
      have hres : resD (encVts ts x) = .tup (encVts ts x) := by
        match ts, hts, x with
        | [], _, _ => rfl
        | [t], hts, _ => exact absurd rfl (hts t)
        | _ :: _ :: _, _, _ => rfl
      rw [hres]
      exact ⟨ys, rfl, this⟩
  match ts, K, h with
  | [], K, h => exact many [] (fun t e => by cases e) K h
  | _ :: _ :: _, K, h => exact many _ (fun t e => by cases e) K h
  | [t], K, h =>
    cases d with
    | s d =>
      obtain ⟨x, hx, hl⟩ := Vt.dec_ok h
      exact ⟨(x, ()), hx, fun w Z β y hy => hl w Z β y hy⟩
    | tup _ => cases h

/-- y says of a box what x says -/
structure LeBox (x y : Box) : Prop where
  ok : ∀ (w : World) (Z : Nat → Prop) (β : Nat → Option Loc) (b : Nat), BoxOK w Z β b x → BoxOK w Z β b y
  live : (∃ z fl es, y = .own z fl es) → ∃ z fl es, x = .own z fl es

theorem Mt.dec_ok {Ω : Type} {t : Mt} {x : Box} {K : t.T → Option Ω} {r : Ω} (h : t.dec x K = some r) : ∃ v, K v = some r ∧ LeBox x (t.enc v) := by
  cases t with
  | dead => exact ⟨(), h, fun _ _ _ _ _ => trivial, fun ⟨_, _, _, e⟩ => by cases e⟩
  | cells fl ts =>
    simp only [Mt.dec] at h
    split at h
    · rename_i z fl' es
      split at h
      · rename_i cs
        obtain ⟨hc, hk⟩ := bif_none h
        simp only [Bool.and_eq_true, Nat.beq_eq, Bool.or_eq_true, Bool.not_eq_true'] at hc
        obtain ⟨hz, hfl⟩ := hc
        obtain ⟨v, hv, hle⟩ := decCts_ok hk
        refine ⟨v, hv, ?_, fun _ => ⟨_, _, _, rfl⟩⟩
        intro w Z β b hb
        obtain ⟨l, hl, h1, h2, hin⟩ := hb
        refine ⟨l, hl, by rw [h1, hz], by simpa using h2, ?_⟩
        unfold InBlk at hin ⊢
        split at hin
        · cases hin
        · obtain ⟨q1, q2, c, t, q3, q4, q5, q6, q7⟩ := hin
          refine ⟨q1, q2, c, t, q3, q4, by simpa using q5, q6, ?_⟩
          intro e cs' hcs'
          cases e with
          | succ e => simp [Am.nth] at hcs'
          | zero =>
            simp [Am.nth] at hcs'; subst hcs'
            obtain ⟨p1, p2⟩ := q7 0 cs rfl
            refine ⟨by rw [← p1, hle.length], fun j d hd => ?_⟩
            obtain ⟨d0, hd0, hle0⟩ := hle.nth hd
            obtain ⟨y, hy, hvc⟩ := p2 j d0 hd0
            refine ⟨y, hy, hle0.v hvc.1, fun e => hle0.c (hvc.2 ?_)⟩
            rcases hfl with q | q
            · exact q
            · rw [e] at q; cases q
      · cases h
    · cases h
  | arr z fl =>
    simp only [Mt.dec] at h
    split at h
    · rename_i z' fl' es
      obtain ⟨hc, hk⟩ := bif_none h
      simp only [Bool.and_eq_true, Nat.beq_eq, Bool.or_eq_true, Bool.not_eq_true'] at hc
      obtain ⟨hz, hfl⟩ := hc
      refine ⟨es, hk, ?_, fun _ => ⟨_, _, _, rfl⟩⟩
      intro w Z β b hb
      obtain ⟨l, hl, h1, h2, hin⟩ := hb
      refine ⟨l, hl, by rw [h1, hz], h2, ?_⟩
      unfold InBlk at hin ⊢
      split at hin
      · exact hin
      · obtain ⟨q1, q2, c, t, q3, q4, q5, q6, q7⟩ := hin
        refine ⟨q1, q2, c, t, q3, q4, q5, q6, fun e cs hcs => ?_⟩
        obtain ⟨p1, p2⟩ := q7 e cs hcs
        refine ⟨p1, fun j d hd => ?_⟩
        obtain ⟨y, hy, hvc⟩ := p2 j d hd
        refine ⟨y, hy, hvc.weak fun e => ?_⟩
        rcases hfl with q | q
        · exact q
        · rw [e] at q; cases q
    · cases h

/-- memories, box by box -/
def LeMem : List Box → List Box → Prop := All2 LeBox
theorem decMts_ok {Ω : Type} {r : Ω} : ∀ {ts : List Mt} {m : List Box} {K : MtsT ts → Option Ω}, decMts ts m K = some r → ∃ x, K x = some r ∧ LeMem m (encMts ts x)
  | [], m, K, h => by
    simp only [decMts] at h
    split at h
    · exact ⟨(), h, trivial⟩
    · cases h
  | t :: ts, m, K, h => by
    simp only [decMts] at h
    split at h
    · cases h
    · rename_i b m
      obtain ⟨x, hx, hd⟩ := Mt.dec_ok h
      obtain ⟨y, hy, hds⟩ := decMts_ok hx
      exact ⟨(x, y), hy, hd, hds⟩
theorem LeMem.length {m m' : List Box} (h : LeMem m m') : m.length = m'.length := All2.length h
theorem LeMem.nth {m m' : List Box} (h : LeMem m m') {b : Nat} {x' : Box} (hx : nth m' b = some x') : ∃ x, Am.nth m b = some x ∧ LeBox x x' := by
  obtain ⟨x, hx0⟩ := nth_some (l := m) (i := b) (by rw [h.length]; exact nth_lt hx)
  obtain ⟨y, hy, hl⟩ := All2.nth h hx0
  rw [hx] at hy; obtain rfl := Option.some.inj hy
  exact ⟨x, hx0, hl⟩
theorem LeMem.live {m m' : List Box} (h : LeMem m m') {b : Nat} (hl : live m' b) : Am.live m b := by
  obtain ⟨z, fl, es, hx⟩ := hl
  obtain ⟨x, hx0, hle⟩ := h.nth hx
  obtain ⟨z', fl', es', e⟩ := hle.live ⟨z, fl, es, rfl⟩
  exact ⟨z', fl', es', by rw [hx0, e]⟩
theorem LeMem.mr {m m' : List Box} (h : LeMem m m') {w : World} {Z : Nat → Prop} {β : Nat → Option Loc} {F : Nat → Prop} (k : MR w Z β m F) : MR w Z β m' F := by
  refine ⟨fun b x hF hx => ?_, fun b b' l l' q h1 h2 l1 l2 => k.inj b b' l l' q h1 h2 (h.live l1) (h.live l2)⟩
  obtain ⟨x0, hx0, hle⟩ := h.nth hx
  exact hle.ok w Z β b (k.box b x0 hF hx0)

theorem FPost.weak {w : World} {Z : Nat → Prop} {β : Nat → Option Loc} {m : List Box} {ro : Bool} {r r2 : D} {m' m2 : List Box} {v : Value} {w' : World} {Z' : Nat → Prop} {β' : Nat → Option Loc} (h : FPost w Z β m ro r m' v w' Z' β') (hr : LeD r r2) (hm : LeMem m' m2) : FPost w Z β m ro r2 m2 v w' Z' β' :=
  ⟨hr w' Z' β' v h.val, h.ext, h.keep, by rw [← hm.length]; exact h.len, fun b hb => h.none' b (by rw [hm.length]; exact hb), h.zsub, h.znew, hm.mr h.mem, fun i hi hl => h.lives i hi (hm.live hl), h.blks⟩
theorem FnOK.weak {P : Program} {ro : Bool} {f : Nat} {args : List D} {m : List Box} {r r2 : D} {m' m2 : List Box} (h : FnOK P ro f args m r m') (hr : LeD r r2) (hm : LeMem m' m2) : FnOK P ro f args m r2 m2 :=
  fun w Z β vs h1 h2 h3 h4 => (h w Z β vs h1 h2 h3 h4).mono fun _ _ ⟨v, Z', β', he, hp⟩ => ⟨v, Z', β', he, hp.weak hr hm⟩

/-- a call, its answer brought to a shape -/
theorem callT_ok {P : Program} {H : Hints} {callF : CallF} (hcall : ∀ f args m r m', callF f args m = some (r, m') → FnOK P (H.ro f) f args m r m') {Ω : Type} {f : Nat} {args : List D} {m : List Box} {outs : List Vt} {mouts : List Mt} {K : VtsT outs → MtsT mouts → Option Ω} {r : Ω}
    (h : callT callF f args m outs mouts K = some r) : ∃ y my, K y my = some r ∧ FnOK P (H.ro f) f args m (encR outs y) (encMts mouts my) := by
  obtain ⟨⟨d, m'⟩, hc, h⟩ := Option.bind_eq_some_iff.1 h
  obtain ⟨y, h, hd⟩ := decR_ok h
  obtain ⟨my, h, hm⟩ := decMts_ok h
  exact ⟨y, my, h, (hcall _ _ _ _ _ hc).weak hd hm⟩
end Go.Proofs.Ytceaambiagobbaa.Am
