/- A region of the abstract machine tells what the machine's region does, in whatever order its edges allow. -/
import Derived.Test.YtceaambiagobbaaAmTrace
namespace Go.Proofs.Ytceaambiagobbaa.Am
open Go

theorem disj_spec {a b : List Nat} (h : disj a b = true) : ∀ x ∈ a, x ∉ b := by
  intro x hx hb
  have := List.all_eq_true.1 h x hx
  rw [has_iff.2 hb] at this
  cases this

/-- two operations that need no order between them -/
structure Free (f g : Foot) : Prop where
  w1 : ∀ x ∈ f.wr, x ∉ g.rd ∧ x ∉ g.wr
  w2 : ∀ x ∈ g.wr, x ∉ f.rd
  t1 : ∀ x, f.tw = some x → x ∉ g.tr ∧ g.tw ≠ some x
  t2 : ∀ x, g.tw = some x → x ∉ f.tr

theorem apart_spec {bits : Nat} {f : Foot} : ∀ {fs : List Foot} {i : Nat}, apartFrom fs bits f i = true → ∀ j g, nth fs j = some g → bits.testBit (i + j) = true ∨ Free f g
  | [], i, _, j, g, hg => by simp [nth] at hg
  | x :: r, i, h, j, g, hg => by
    simp only [apartFrom, Bool.and_eq_true, Bool.or_eq_true] at h
    obtain ⟨h1, h2⟩ := h
    cases j with
    | zero =>
      simp [nth] at hg; subst hg
      rcases h1 with h1 | ⟨⟨⟨d1, d2⟩, d3⟩, d4⟩
      · exact .inl (by simpa using h1)
      · right
        refine ⟨fun y hy => ?_, fun y hy => disj_spec d2 y hy, fun y hy => ?_, fun y hy => disj_spec d4 y (by rw [hy]; simp)⟩
        · have := disj_spec d1 y hy; rw [List.mem_append, not_or] at this; exact this
        · have := disj_spec d3 y (by rw [hy]; simp); rw [List.mem_append, not_or] at this
          exact ⟨this.1, fun e => this.2 (by rw [e]; simp)⟩
    | succ j =>
      simp only [nth] at hg
      rcases apart_spec h2 j g hg with q | q
      · exact .inl (by rw [show i + (j + 1) = i + 1 + j by omega]; exact q)
      · exact .inr q

theorem before_spec {acc : List Nat} {j : Nat} : ∀ {l : List Edge}, (beforeL acc l).testBit j = true → ∃ e ∈ l, always e = true ∧ (e.on = j ∨ ∃ b, nth acc e.on = some b ∧ b.testBit j = true)
  | [], h => by simp [beforeL] at h
  | e :: r, h => by
    have go : ((2 ^ e.on ||| (nth acc e.on).getD 0 ||| beforeL acc r).testBit j = true) → always e = true → ∃ x ∈ e :: r, always x = true ∧ (x.on = j ∨ ∃ b, nth acc x.on = some b ∧ b.testBit j = true) := by
      intro h ha
      rw [Nat.testBit_or, Nat.testBit_or, Bool.or_eq_true, Bool.or_eq_true] at h
      rcases h with (h | h) | h
      · rw [Nat.testBit_two_pow] at h
        exact ⟨e, by simp, ha, .inl (by simpa using h)⟩
      · cases hn : nth acc e.on with
        | none => rw [hn] at h; simp at h
        | some b => rw [hn] at h; exact ⟨e, by simp, ha, .inr ⟨b, hn, h⟩⟩
      · obtain ⟨x, hx, hax⟩ := before_spec h
        exact ⟨x, by simp [hx], hax⟩
    have skip : (beforeL acc r).testBit j = true → ∃ x ∈ e :: r, always x = true ∧ (x.on = j ∨ ∃ b, nth acc x.on = some b ∧ b.testBit j = true) := by
      intro h
      obtain ⟨x, hx, hax⟩ := before_spec h
      exact ⟨x, by simp [hx], hax⟩
    unfold beforeL at h
    split at h
    · exact skip h
    · exact skip h
    · rename_i h1 h2
      refine go h ?_
      unfold always
      split
      · rename_i q; exact absurd q (h1 _)
      · rename_i q; exact absurd q (h2 _)
      · rfl

theorem binds_always {e : Edge} : Region.binds .any e = always e := by
  unfold Region.binds always
  cases e.ground <;> rfl

theorem tmpsOf_mem {t : Nat} : ∀ {l : List Operand}, .tmp t ∈ l → t ∈ tmpsOf l
  | x :: r, h => by
    rcases List.mem_cons.1 h with e | e
    · subst e; simp [tmpsOf]
    · cases x <;> simp [tmpsOf, tmpsOf_mem e]

theorem nth_take {α : Type} (l : List α) (n j : Nat) : nth (l.take n) j = if j < n then nth l j else none := by
  rw [nth_eq, nth_eq, List.getElem?_take]

section
variable {P : Program} {ops : Array Oper} {E : Entry} {st : St} {L : List Rc}

/-- the state ahead of operation i, in the text's order -/
def at_ (st : St) (L : List Rc) (i : Nat) : St := after st (L.take i)

theorem at_zero : at_ st L 0 = st := rfl
theorem at_succ {i : Nat} {x : Rc} (hx : nth L i = some x) : at_ st L (i + 1) = x.after := by
  unfold at_
  rw [List.take_add_one, ← nth_eq, hx]
  exact after_snoc st x _
theorem at_self (hL : AllOK P ops E.ro E.m.length true st L) {i : Nat} {x : Rc} (hx : nth L i = some x) : at_ st L i = ⟨x.fr, x.m⟩ := (hL i x hx).st

/-- does operation i write this temporary? this box (or make it)? -/
def wT (L : List Rc) (i t : Nat) : Prop := ∃ x, nth L i = some x ∧ x.o.dst = some t
def wB (L : List Rc) (i b : Nat) : Prop := ∃ x, nth L i = some x ∧ (b ∈ wrIds x.e ∨ newId x.m x.e b)

theorem mem_other {m : List Box} {e : Eff} {b : Nat} (h1 : b ∉ wrIds e) (h2 : ¬ newId m e b) : nth (e.mem m) b = nth m b := by
  simp only [Eff.mem]
  rw [nth_append, putAll_length]
  split
  · exact nth_putAll_other _ _ _ h1
  · rename_i hge
    have e1 : nth m b = none := by rw [nth_eq]; exact List.getElem?_eq_none (by omega)
    have e2 : nth e.news (b - m.length) = none := by
      rw [nth_eq]; apply List.getElem?_eq_none
      rcases Nat.lt_or_ge b (m.length + e.news.length) with q | q
      · exact absurd ⟨by omega, q⟩ h2
      · omega
    rw [e1, e2]
theorem mem_length (m : List Box) (e : Eff) : (e.mem m).length = m.length + e.news.length := by simp [Eff.mem, putAll_length]

/-- where nobody writes it, a temporary stays; a box, too -/
theorem still_T (hL : AllOK P ops E.ro E.m.length true st L) {t : Nat} : ∀ (d p : Nat), p + d ≤ L.length → (∀ i, p ≤ i → i < p + d → ¬ wT L i t) → tmpOf (at_ st L (p + d)).fr t = tmpOf (at_ st L p).fr t
  | 0, p, _, _ => rfl
  | d + 1, p, hl, hn => by
    obtain ⟨x, hx⟩ := nth_some (l := L) (i := p + d) (by omega)
    rw [show p + (d + 1) = p + d + 1 by omega, at_succ hx, ← still_T hL d p (by omega) fun i h1 h2 => hn i h1 (by omega), at_self hL hx]
    show tmpOf (setD x.fr x.o.dst x.e.val) t = tmpOf x.fr t
    unfold setD
    split
    · rename_i s hs
      rw [tmpOf_upd, if_neg]
      rintro ⟨rfl, _⟩
      exact hn (p + d) (by omega) (by omega) ⟨x, hx, hs⟩
    · rfl
theorem still_B (hL : AllOK P ops E.ro E.m.length true st L) {b : Nat} : ∀ (d p : Nat), p + d ≤ L.length → (∀ i, p ≤ i → i < p + d → ¬ wB L i b) →
    nth (at_ st L (p + d)).m b = nth (at_ st L p).m b ∧ ((at_ st L (p + d)).m.length ≤ b ↔ (at_ st L p).m.length ≤ b)
  | 0, p, _, _ => ⟨rfl, Iff.rfl⟩
  | d + 1, p, hl, hn => by
    obtain ⟨x, hx⟩ := nth_some (l := L) (i := p + d) (by omega)
    have ih := still_B hL d p (by omega) fun i h1 h2 => hn i h1 (by omega)
    rw [at_self hL hx] at ih
    rw [show p + (d + 1) = p + d + 1 by omega, at_succ hx]
    have h0 : ¬ wB L (p + d) b := hn (p + d) (by omega) (by omega)
    have h1 : b ∉ wrIds x.e := fun q => h0 ⟨x, hx, .inl q⟩
    have h2 : ¬ newId x.m x.e b := fun q => h0 ⟨x, hx, .inr q⟩
    refine ⟨by rw [← ih.1]; exact mem_other h1 h2, ?_⟩
    rw [← ih.2]
    show (x.e.mem x.m).length ≤ b ↔ x.m.length ≤ b
    rw [mem_length]
    constructor
    · intro q; omega
    · intro q
      rcases Nat.lt_or_ge b (x.m.length + x.e.news.length) with q2 | q2
      · exact absurd ⟨q, q2⟩ h2
      · exact q2

/-- the lengths of memory only grow -/
theorem len_mono (hL : AllOK P ops E.ro E.m.length true st L) : ∀ (d p : Nat), p + d ≤ L.length → (at_ st L p).m.length ≤ (at_ st L (p + d)).m.length
  | 0, p, _ => Nat.le_refl _
  | d + 1, p, hl => by
    obtain ⟨x, hx⟩ := nth_some (l := L) (i := p + d) (by omega)
    have ih := len_mono hL d p (by omega)
    rw [at_self hL hx] at ih
    rw [show p + (d + 1) = p + d + 1 by omega, at_succ hx]
    show _ ≤ (x.e.mem x.m).length
    rw [mem_length]
    have : (⟨x.fr, x.m⟩ : St).m.length = x.m.length := rfl
    omega

/-- what holds when the operations of 'S' have been done -/
structure DInv (E : Entry) (st : St) (L : List Rc) (S : Nat → Prop) (a : Act) (w : World) (Z : Nat → Prop) (β : Nat → Option Loc) (pt pb : Nat → Nat) : Prop where
  le : E.m.length ≤ st.m.length
  pt_le : ∀ t, pt t ≤ L.length
  pb_le : ∀ b, pb b ≤ L.length
  pt_iff : ∀ t i, wT L i t → (S i ↔ i < pt t)
  pb_iff : ∀ b i, wB L i b → (S i ↔ i < pb b)
  size : a.tmps.size = st.fr.length
  defers : a.defers = []
  val : ∀ t, VD w Z β (tmpOf (at_ st L (pt t)).fr t) (a.tmps.getD t undef)
  zok : Zok w Z
  box : ∀ b x, nth (at_ st L (pb b)).m b = some x → BoxOK w Z β b x
  inj : ∀ b b' l l' k, live (at_ st L (pb b)).m b → live (at_ st L (pb b')).m b' → β b = some l → β b' = some l' → l.blk = some k → l'.blk = some k → b = b'
  none' : ∀ b, (at_ st L (pb b)).m.length ≤ b → β b = none
  keep : ∀ i, i < E.m.length → β i = E.β i
  hsize : E.w.heap.size ≤ w.heap.size
  tape : w.tape = E.w.tape
  os : w.os = E.w.os
  output : w.output = E.w.output
  old : ∀ k, k < E.w.heap.size → ¬ impBlk E.β E.m E.ro k → w.heap[k]? = E.w.heap[k]?
  zsub : ∀ k, E.Z k → Z k
  znew : ∀ k, Z k → E.Z k ∨ E.w.heap.size ≤ k ∨ impBlk E.β E.m E.ro k
  blks : ∀ b l k, E.m.length ≤ b → β b = some l → l.blk = some k → k < w.heap.size ∧ (E.w.heap.size ≤ k ∨ impBlk E.β E.m E.ro k)
  lives : ∀ i, i < E.m.length → live (at_ st L (pb i)).m i → live E.m i

/-- 'S' is closed under what comes ahead in every order -/
def Closed (L : List Rc) (S : Nat → Prop) : Prop := ∀ i x, S i → nth L i = some x → ∀ j, x.bits.testBit j = true → S j

theorem bits_edge (hL : AllOK P ops E.ro E.m.length true st L) {i : Nat} {x : Rc} (hx : nth L i = some x) {j : Nat} (hb : x.bits.testBit j = true) :
    ∃ e ∈ x.o.after, always e = true ∧ (e.on = j ∨ ∃ y, nth L e.on = some y ∧ e.on < i ∧ y.bits.testBit j = true) := by
  have h := hL i x hx
  rw [h.bits, beforeOf] at hb
  obtain ⟨e, he, ha, hj⟩ := before_spec hb
  refine ⟨e, by simpa using he, ha, hj.imp id ?_⟩
  rintro ⟨b, hb, hbj⟩
  unfold befs at hb
  rw [nth_map, nth_take] at hb
  split at hb
  · rename_i hlt
    obtain ⟨y, hy, rfl⟩ := Option.map_eq_some_iff.1 hb
    exact ⟨y, hy, hlt, hbj⟩
  · cases hb

/-- an operation whose edges are all done has all that comes ahead of it done -/
theorem ready_bits (hL : AllOK P ops E.ro E.m.length true st L) {S : Nat → Prop} (hS : Closed L S) {i : Nat} {x : Rc} (hx : nth L i = some x) (hr : ∀ e ∈ x.o.after, always e = true → S e.on) {j : Nat} (hb : x.bits.testBit j = true) : S j := by
  obtain ⟨e, he, ha, hj⟩ := bits_edge hL hx hb
  rcases hj with rfl | ⟨y, hy, _, hbj⟩
  · exact hr e he ha
  · exact hS e.on y (hr e he ha) hy j hbj

theorem pair_free (hL : AllOK P ops E.ro E.m.length true st L) {i j : Nat} {x y : Rc} (hi : nth L i = some x) (hj : nth L j = some y) (hlt : j < i) : x.bits.testBit j = true ∨ Free (footOf ops x.o x.m x.e) (footOf ops y.o y.m y.e) := by
  have h := (hL i x hi).free rfl
  have hy : nth (foots ops (L.take i)) j = some (footOf ops y.o y.m y.e) := by
    unfold foots; rw [nth_map, nth_take, if_pos hlt, hj]; rfl
  have := apart_spec h.2 j _ hy
  simpa using this

theorem newIdsL_mem : ∀ {l : List Box} {n b : Nat}, b ∈ newIdsL n l ↔ n ≤ b ∧ b < n + l.length
  | [], n, b => by simp [newIdsL] <;> omega
  | _ :: r, n, b => by
    simp only [newIdsL, List.mem_cons, newIdsL_mem (l := r), List.length_cons]
    omega
theorem foot_wr {o : Oper} {m : List Box} {e : Eff} {b : Nat} : b ∈ (footOf ops o m e).wr ↔ b ∈ wrIds e ∨ newId m e b := by
  simp only [footOf, List.mem_append, newIdsL_mem, newId]

section
variable {S : Nat → Prop} {j : Nat} {x : Rc}
variable (hL : AllOK P ops E.ro E.m.length true st L) (hS : Closed L S) (hx : nth L j = some x) (hj : ¬ S j) (hr : ∀ e ∈ x.o.after, always e = true → S e.on)
include hL hS hx hj hr

/-- who writes what operation j looks at or writes, and has been done: just those ahead of it in the text -/
theorem ord_T {t i : Nat} (ht : t ∈ (footOf ops x.o x.m x.e).tr ∨ x.o.dst = some t) (hi : wT L i t) (hne : i ≠ j) : S i ↔ i < j := by
  obtain ⟨y, hy, hd⟩ := hi
  constructor
  · intro hs
    rcases Nat.lt_or_ge i j with h | h
    · exact h
    · exfalso
      have hlt : j < i := by omega
      rcases pair_free hL hy hx hlt with q | q
      · exact hj (hS i y hs hy j q)
      · have := q.t1 t hd
        rcases ht with ht | ht
        · exact this.1 ht
        · exact this.2 ht
  · intro hlt
    rcases pair_free hL hx hy hlt with q | q
    · exact ready_bits hL hS hx hr q
    · exfalso
      rcases ht with ht | ht
      · exact q.t2 t hd ht
      · exact (q.t1 t ht).2 hd
theorem ord_B {b i : Nat} (hb : b ∈ x.e.rd ∨ b ∈ wrIds x.e ∨ newId x.m x.e b) (hi : wB L i b) (hne : i ≠ j) : S i ↔ i < j := by
  obtain ⟨y, hy, hd⟩ := hi
  have hd' := (foot_wr (ops := ops) (o := y.o)).2 hd
  constructor
  · intro hs
    rcases Nat.lt_or_ge i j with h | h
    · exact h
    · exfalso
      have hlt : j < i := by omega
      rcases pair_free hL hy hx hlt with q | q
      · exact hj (hS i y hs hy j q)
      · have := q.w1 b hd'
        rcases hb with hb | hb
        · exact this.1 hb
        · exact this.2 (foot_wr.2 hb)
  · intro hlt
    rcases pair_free hL hx hy hlt with q | q
    · exact ready_bits hL hS hx hr q
    · exfalso
      rcases hb with hb | hb
      · exact q.w2 b hd' hb
      · exact (q.w1 b (foot_wr.2 hb)).2 hd'

theorem agree_T {p : Nat} (hp : p ≤ L.length) {t : Nat} (hpi : ∀ i, wT L i t → (S i ↔ i < p)) (ht : t ∈ (footOf ops x.o x.m x.e).tr ∨ x.o.dst = some t) : tmpOf (at_ st L p).fr t = tmpOf (at_ st L j).fr t := by
  have hjl := nth_lt hx
  rcases Nat.le_total p j with h | h
  · have := still_T hL (t := t) (j - p) p (by omega) fun i h1 h2 hw => by
      have a := hpi i hw
      have b := ord_T hL hS hx hj hr ht hw (by omega)
      have : S i := b.2 (by omega)
      have := a.1 this; omega
    rw [show p + (j - p) = j by omega] at this; exact this.symm
  · have := still_T hL (t := t) (p - j) j (by omega) fun i h1 h2 hw => by
      have a := hpi i hw
      have hs : S i := a.2 (by omega)
      by_cases hij : i = j
      · exact hj (hij ▸ hs)
      · have b := (ord_T hL hS hx hj hr ht hw hij).1 hs; omega
    rw [show j + (p - j) = p by omega] at this; exact this
theorem agree_B {p : Nat} (hp : p ≤ L.length) {b : Nat} (hpi : ∀ i, wB L i b → (S i ↔ i < p)) (hb : b ∈ x.e.rd ∨ b ∈ wrIds x.e ∨ newId x.m x.e b) :
    nth (at_ st L p).m b = nth (at_ st L j).m b ∧ ((at_ st L p).m.length ≤ b ↔ (at_ st L j).m.length ≤ b) := by
  have hjl := nth_lt hx
  rcases Nat.le_total p j with h | h
  · have := still_B hL (b := b) (j - p) p (by omega) fun i h1 h2 hw => by
      have a := hpi i hw
      have b := ord_B hL hS hx hj hr hb hw (by omega)
      have : S i := b.2 (by omega)
      have := a.1 this; omega
    rw [show p + (j - p) = j by omega] at this; exact ⟨this.1.symm, this.2.symm⟩
  · have := still_B hL (b := b) (p - j) j (by omega) fun i h1 h2 hw => by
      have a := hpi i hw
      have hs : S i := a.2 (by omega)
      by_cases hij : i = j
      · exact hj (hij ▸ hs)
      · have b := (ord_B hL hS hx hj hr hb hw hij).1 hs; omega
    rw [show j + (p - j) = p by omega] at this; exact this
end
end
end Go.Proofs.Ytceaambiagobbaa.Am
