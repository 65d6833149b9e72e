/- What an abstract value says of a machine's value, and what abstract boxes say of memory. -/
import Derived.Test.YtceaambiagobbaaAm
import Derived.Below
import Derived.Orders
import Derived.Laws.AppendOwn
import Derived.RowKit
namespace Go.Proofs.Ytceaambiagobbaa.Am
open Go

theorem nth_eq {α : Type} : ∀ (l : List α) (i : Nat), nth l i = l[i]?
  | [], _ => by simp [nth]
  | _ :: _, 0 => by simp [nth]
  | _ :: r, n + 1 => by simp [nth, nth_eq r n]
theorem nth_lt {α : Type} {l : List α} {i : Nat} {x : α} (h : nth l i = some x) : i < l.length := by
  rw [nth_eq] at h; exact (List.getElem?_eq_some_iff.1 h).1
theorem nth_some {α : Type} {l : List α} {i : Nat} (h : i < l.length) : ∃ x, nth l i = some x := by
  rw [nth_eq]; exact ⟨l[i], List.getElem?_eq_getElem h⟩
theorem upd_eq {α : Type} : ∀ (l : List α) (i : Nat) (x : α), upd l i x = l.set i x
  | [], _, _ => by simp [upd]
  | _ :: _, 0, _ => by simp [upd]
  | _ :: r, n + 1, x => by simp [upd, upd_eq r n x]
theorem upd_length {α : Type} (l : List α) (i : Nat) (x : α) : (upd l i x).length = l.length := by rw [upd_eq]; simp
theorem nth_upd {α : Type} (l : List α) (i j : Nat) (x : α) : nth (upd l i x) j = if i = j ∧ i < l.length then some x else nth l j := by
  rw [nth_eq, upd_eq, nth_eq, List.getElem?_set]
  by_cases h : i = j
  · subst h
    by_cases hl : i < l.length
    · simp [hl]
    · simp [hl]
  · simp [h]
theorem nth_append {α : Type} (l l' : List α) (j : Nat) : nth (l ++ l') j = if j < l.length then nth l j else nth l' (j - l.length) := by
  rw [nth_eq, nth_eq, nth_eq, List.getElem?_append]
theorem nth_map {α β : Type} (f : α → β) (l : List α) (j : Nat) : nth (l.map f) j = (nth l j).map f := by
  rw [nth_eq, nth_eq, List.getElem?_map]

/-- two lists, element by element -/
def All2 {α β : Type} (p : α → β → Prop) : List α → List β → Prop
  | [], [] => True
  | x :: r, y :: s => p x y ∧ All2 p r s
  | _, _ => False
theorem All2.mono {α β : Type} {p q : α → β → Prop} (h : ∀ x y, p x y → q x y) : ∀ {l : List α} {s : List β}, All2 p l s → All2 q l s
  | [], [], _ => trivial
  | _ :: _, _ :: _, ⟨a, b⟩ => ⟨h _ _ a, All2.mono h b⟩
  | [], _ :: _, k => k.elim
  | _ :: _, [], k => k.elim
theorem All2.length {α β : Type} {p : α → β → Prop} : ∀ {l : List α} {s : List β}, All2 p l s → l.length = s.length
  | [], [], _ => rfl
  | _ :: r, _ :: s, ⟨_, b⟩ => by simp [All2.length b]
  | [], _ :: _, k => k.elim
  | _ :: _, [], k => k.elim
theorem All2.nth {α β : Type} {p : α → β → Prop} : ∀ {l : List α} {s : List β}, All2 p l s → ∀ {i : Nat} {x : α}, nth l i = some x → ∃ y, nth s i = some y ∧ p x y
  | [], [], _, _, _, h => by simp [Am.nth] at h
  | _ :: _, y :: _, ⟨a, _⟩, 0, _, h => ⟨y, rfl, by simp [Am.nth] at h; exact h ▸ a⟩
  | _ :: _, _ :: _, ⟨_, b⟩, n + 1, _, h => by simp only [Am.nth] at h ⊢; exact All2.nth b h
  | [], _ :: _, k, _, _, _ => k.elim
  | _ :: _, [], k, _, _, _ => k.elim
theorem All2.append {α β : Type} {p : α → β → Prop} : ∀ {l : List α} {s : List β} {l' : List α} {s' : List β}, All2 p l s → All2 p l' s' → All2 p (l ++ l') (s ++ s')
  | [], [], _, _, _, h => h
  | _ :: _, _ :: _, _, _, ⟨a, b⟩, h => ⟨a, All2.append b h⟩
  | [], _ :: _, _, _, k, _ => k.elim
  | _ :: _, [], _, _, k, _ => k.elim
theorem All2.of_nth {α β : Type} {p : α → β → Prop} : ∀ {l : List α} {s : List β}, l.length = s.length → (∀ i x y, Am.nth l i = some x → Am.nth s i = some y → p x y) → All2 p l s
  | [], [], _, _ => trivial
  | x :: r, y :: s, hl, h => ⟨h 0 x y rfl rfl, All2.of_nth (by simpa using hl) fun i a b ha hb => h (i + 1) a b (by simpa [Am.nth] using ha) (by simpa [Am.nth] using hb)⟩
  | [], _ :: _, hl, _ => by simp at hl
  | _ :: _, [], hl, _ => by simp at hl
theorem All2.take {α β : Type} {p : α → β → Prop} : ∀ (n : Nat) {l : List α} {s : List β}, All2 p l s → All2 p (l.take n) (s.take n)
  | 0, _, _, _ => by simp [All2]
  | _ + 1, [], [], _ => by simp [All2]
  | n + 1, _ :: _, _ :: _, ⟨a, b⟩ => by simp only [List.take_succ_cons]; exact ⟨a, All2.take n b⟩
  | _ + 1, [], _ :: _, k => k.elim
  | _ + 1, _ :: _, [], k => k.elim
theorem All2.drop {α β : Type} {p : α → β → Prop} : ∀ (n : Nat) {l : List α} {s : List β}, All2 p l s → All2 p (l.drop n) (s.drop n)
  | 0, _, _, h => by simpa using h
  | _ + 1, [], [], _ => by simp [All2]
  | n + 1, _ :: _, _ :: _, ⟨_, b⟩ => by simp only [List.drop_succ_cons]; exact All2.drop n b
  | _ + 1, [], _ :: _, k => k.elim
  | _ + 1, _ :: _, [], k => k.elim
theorem All2.upd {α β : Type} {p : α → β → Prop} : ∀ {l : List α} {s : List β} (i : Nat) {x : α} {y : β}, All2 p l s → p x y → All2 p (Am.upd l i x) (Am.upd s i y)
  | [], [], _, _, _, _, _ => trivial
  | _ :: _, _ :: _, 0, _, _, ⟨_, b⟩, k => ⟨k, b⟩
  | _ :: _, _ :: _, i + 1, _, _, ⟨a, b⟩, k => ⟨a, All2.upd i b k⟩
  | [], _ :: _, _, _, _, k, _ => k.elim
  | _ :: _, [], _, _, _, k, _ => k.elim
theorem All2.map_left {α β γ : Type} {p : α → β → Prop} (f : γ → α) : ∀ {l : List γ} {s : List β}, All2 (fun c y => p (f c) y) l s → All2 p (l.map f) s
  | [], [], _ => trivial
  | _ :: _, _ :: _, ⟨a, b⟩ => ⟨a, All2.map_left f b⟩
  | [], _ :: _, k => k.elim
  | _ :: _, [], k => k.elim
theorem All2.of_map_left {α β γ : Type} {p : α → β → Prop} (f : γ → α) : ∀ {l : List γ} {s : List β}, All2 p (l.map f) s → All2 (fun c y => p (f c) y) l s
  | [], [], _ => trivial
  | _ :: _, _ :: _, ⟨a, b⟩ => ⟨a, All2.of_map_left f b⟩
  | [], _ :: _, k => k.elim
  | _ :: _, [], k => k.elim

/-- Where a box lies: its block (none: an empty slice without one), its elements' cells, its capacity and length. -/
structure Loc where
  blk : Option Nat
  z : Nat
  cap : Nat
  len : Nat

/-- values without an address of one's own; 'Z': the blocks that nobody writes -/
inductive C1 (w : World) (Z : Nat → Prop) : D1 → Value → Prop
  | v (x : Value) (h : x.oneCell' = true) : C1 w Z (.v x) x
  | top (y : Value) (h : y.oneCell' = true) : C1 w Z .top y
  | fr0 (z : Nat) (a : Option Addr) (cap : Nat) : C1 w Z (.fr z []) (.slice a 0 cap)
  | fr (z : Nat) (es : List (List D1)) (k o cap : Nat) (g : Nat → Nat → Value) (hz : Z k) (hcap : es.length ≤ cap)
      (h1 : ∀ i cs, nth es i = some cs → cs.length = z)
      (h2 : ∀ i j, i < es.length → j < z → w.cell? ⟨k, o + i * z + j, none⟩ = some (g i j))
      (h3 : ∀ i cs j d, nth es i = some cs → nth cs j = some d → C1 w Z d (g i j)) :
      C1 w Z (.fr z es) (.slice (some ⟨k, o, none⟩) es.length cap)
  | rp (cs : List D1) (k o : Nat) (g : Nat → Value) (hz : Z k)
      (h2 : ∀ j, j < cs.length → w.cell? ⟨k, o + j, none⟩ = some (g j))
      (h3 : ∀ j d, nth cs j = some d → C1 w Z d (g j)) :
      C1 w Z (.rp cs) (.pointer (some ⟨k, o, none⟩))

inductive V1 (w : World) (Z : Nat → Prop) (β : Nat → Option Loc) : D1 → Value → Prop
  | c {d : D1} {y : Value} (h : C1 w Z d y) : V1 w Z β d y
  | ptr (b e c : Nat) (l : Loc) (k : Nat) (hl : β b = some l) (hk : l.blk = some k) : V1 w Z β (.ptr b e c) (.pointer (some ⟨k, e * l.z + c, none⟩))
  | fs (b : Nat) (l : Loc) (k : Nat) (hl : β b = some l) (hk : l.blk = some k) : V1 w Z β (.fs b) (.slice (some ⟨k, 0, none⟩) l.len l.cap)
  | fs0 (b : Nat) (l : Loc) (hl : β b = some l) (hk : l.blk = none) (h0 : l.len = 0) : V1 w Z β (.fs b) (.slice none 0 0)
  | clo (f : Nat) (cap : List D1) (ys : List Value) (hlen : cap.length = ys.length)
      (h : ∀ i d y, nth cap i = some d → nth ys i = some y → V1 w Z β d y) : V1 w Z β (.clo f cap) (.func (.func f) #[] ys.toArray)

/-- a cell of an aggregate, or of a box -/
def VC (w : World) (Z : Nat → Prop) (β : Nat → Option Loc) (cl : Bool) (d : D1) (y : Value) : Prop := V1 w Z β d y ∧ (cl = true → C1 w Z d y)

def V0 (w : World) (Z : Nat → Prop) (β : Nat → Option Loc) : D0 → Value → Prop
  | .one d, y => d = .top ∨ V1 w Z β d y
  | .agg cl ds, y => ∃ ys : List Value, y = .agg ys.toArray ∧ All2 (VC w Z β cl) ds ys

def VD (w : World) (Z : Nat → Prop) (β : Nat → Option Loc) : D → Value → Prop
  | .s d, y => V0 w Z β d y
  | .tup ds, y => ∃ ys : List Value, y = .tuple ys.toArray ∧ All2 (V0 w Z β) ds ys

section
variable {w : World} {Z : Nat → Prop} {β : Nat → Option Loc}

theorem C1.one {d : D1} {y : Value} (h : C1 w Z d y) : y.oneCell' = true := by
  cases h <;> first | assumption | rfl
theorem V1.one {d : D1} {y : Value} (h : V1 w Z β d y) : y.oneCell' = true := by
  cases h with
  | c h => exact h.one
  | _ => rfl
theorem V1.v_eq {x y : Value} (h : V1 w Z β (.v x) y) : y = x := by
  cases h with
  | c h => cases h; rfl
theorem V1.closed {d : D1} {y : Value} (h : V1 w Z β d y) (hc : closed1 d = true) : C1 w Z d y := by
  cases h with
  | c h => exact h
  | _ => simp [closed1] at hc
theorem V1.vc {d : D1} {y : Value} (h : V1 w Z β d y) : VC w Z β (closed1 d) d y := ⟨h, fun k => h.closed k⟩
theorem VC.weak {d : D1} {y : Value} {cl cl' : Bool} (h : VC w Z β cl d y) (k : cl' = true → cl = true) : VC w Z β cl' d y := ⟨h.1, fun e => h.2 (k e)⟩

theorem vals_eq : ∀ {ds : List D1} {xs ys : List Value} {cl : Bool}, vals? ds = some xs → All2 (VC w Z β cl) ds ys → ys = xs
  | [], xs, ys, _, h, k => by
    simp [vals?] at h
    cases ys with
    | nil => exact h.symm
    | cons _ _ => exact k.elim
  | d :: r, xs, ys, cl, h, k => by
    cases ys with
    | nil => exact k.elim
    | cons y s =>
      cases d with
      | v x =>
        simp only [vals?] at h
        split at h
        · rename_i zs hz
          cases h
          rw [k.1.1.v_eq, vals_eq hz k.2]
        · cases h
      | _ => simp [vals?] at h
theorem VD.val_eq {d : D} {x y : Value} (h : d.val? = some x) (k : VD w Z β d y) : y = x := by
  unfold D.val? at h
  split at h
  · cases h
    rcases k with k | k
    · cases k
    · exact k.v_eq
  · split at h
    · rename_i hv
      cases h
      obtain ⟨ys, rfl, ha⟩ := k
      rw [vals_eq hv ha]
    · cases h
  · cases h
end

/-! ### change of the world -/
/-- the blocks of a world that were there are as they were, but for those of 'X' -/
structure Ext (w w' : World) (X : Nat → Prop) : Prop where
  size : w.heap.size ≤ w'.heap.size
  keep : ∀ k, k < w.heap.size → ¬ X k → w'.heap[k]? = w.heap[k]?
  tape : w'.tape = w.tape
  os : w'.os = w.os
  output : w'.output = w.output
theorem Ext.refl (w : World) (X : Nat → Prop) : Ext w w X := ⟨Nat.le_refl _, fun _ _ _ => rfl, rfl, rfl, rfl⟩
theorem Ext.trans {w w' w'' : World} {X Y : Nat → Prop} (h : Ext w w' X) (k : Ext w' w'' Y) : Ext w w'' (fun b => X b ∨ Y b) :=
  ⟨Nat.le_trans h.size k.size, fun b hb hn => by rw [k.keep b (by have := h.size; omega) (fun c => hn (.inr c)), h.keep b hb (fun c => hn (.inl c))],
   k.tape.trans h.tape, k.os.trans h.os, k.output.trans h.output⟩
theorem Ext.weak {w w' : World} {X Y : Nat → Prop} (h : Ext w w' X) (k : ∀ b, b < w.heap.size → X b → Y b) : Ext w w' Y :=
  ⟨h.size, fun b hb hn => h.keep b hb (fun c => hn (k b hb c)), h.tape, h.os, h.output⟩

theorem C1.mono {w w' : World} {X Z Z' : Nat → Prop} (he : Ext w w' X) (hz : ∀ k, Z k → k < w.heap.size ∧ ¬ X k ∧ Z' k) {d : D1} {y : Value} (h : C1 w Z d y) : C1 w' Z' d y := by
  have hc : ∀ k o v, Z k → w.cell? ⟨k, o, none⟩ = some v → w'.cell? ⟨k, o, none⟩ = some v := by
    intro k o v hk hv
    obtain ⟨h1, h2, _⟩ := hz k hk
    rw [World.cell?_of_block (w := w) (he.keep k h1 h2)]; exact hv
  induction h with
  | v x h => exact .v x h
  | top y h => exact .top y h
  | fr0 z a cap => exact .fr0 z a cap
  | fr z es k o cap g hk hcap h1 h2 _ ih => exact .fr z es k o cap g (hz k hk).2.2 hcap h1 (fun i j hi hj => hc _ _ _ hk (h2 i j hi hj)) ih
  | rp cs k o g hk h2 _ ih => exact .rp cs k o g (hz k hk).2.2 (fun j hj => hc _ _ _ hk (h2 j hj)) ih

/-- all that is mapped stays mapped -/
def Sub (β β' : Nat → Option Loc) : Prop := ∀ b l, β b = some l → β' b = some l
theorem Sub.refl (β : Nat → Option Loc) : Sub β β := fun _ _ h => h
theorem Sub.trans {β β' β'' : Nat → Option Loc} (h : Sub β β') (k : Sub β' β'') : Sub β β'' := fun b l x => k b l (h b l x)

theorem V1.mono {w w' : World} {X Z Z' : Nat → Prop} {β β' : Nat → Option Loc} (he : Ext w w' X) (hz : ∀ k, Z k → k < w.heap.size ∧ ¬ X k ∧ Z' k) (hb : Sub β β') {d : D1} {y : Value} (h : V1 w Z β d y) : V1 w' Z' β' d y := by
  induction h with
  | c h => exact .c (h.mono he hz)
  | ptr b e c l k hl hk => exact .ptr b e c l k (hb _ _ hl) hk
  | fs b l k hl hk => exact .fs b l k (hb _ _ hl) hk
  | fs0 b l hl hk h0 => exact .fs0 b l (hb _ _ hl) hk h0
  | clo f cap ys hlen _ ih => exact .clo f cap ys hlen ih
theorem VC.mono {w w' : World} {X Z Z' : Nat → Prop} {β β' : Nat → Option Loc} (he : Ext w w' X) (hz : ∀ k, Z k → k < w.heap.size ∧ ¬ X k ∧ Z' k) (hb : Sub β β') {cl : Bool} {d : D1} {y : Value} (h : VC w Z β cl d y) : VC w' Z' β' cl d y :=
  ⟨h.1.mono he hz hb, fun k => (h.2 k).mono he hz⟩
theorem V0.mono {w w' : World} {X Z Z' : Nat → Prop} {β β' : Nat → Option Loc} (he : Ext w w' X) (hz : ∀ k, Z k → k < w.heap.size ∧ ¬ X k ∧ Z' k) (hb : Sub β β') : ∀ {d : D0} {y : Value}, V0 w Z β d y → V0 w' Z' β' d y
  | .one _, _, .inl h => .inl h
  | .one _, _, .inr h => .inr (h.mono he hz hb)
  | .agg _ _, _, ⟨ys, e, h⟩ => ⟨ys, e, h.mono fun _ _ k => k.mono he hz hb⟩
theorem VD.mono {w w' : World} {X Z Z' : Nat → Prop} {β β' : Nat → Option Loc} (he : Ext w w' X) (hz : ∀ k, Z k → k < w.heap.size ∧ ¬ X k ∧ Z' k) (hb : Sub β β') : ∀ {d : D} {y : Value}, VD w Z β d y → VD w' Z' β' d y
  | .s _, _, h => V0.mono he hz hb h
  | .tup _, _, ⟨ys, e, h⟩ => ⟨ys, e, h.mono fun _ _ k => V0.mono he hz hb k⟩

/-! ### memory -/
/-- a box's elements, in its block -/
def InBlk (w : World) (Z : Nat → Prop) (β : Nat → Option Loc) (l : Loc) (fl : Bool) (es : List (List D1)) : Prop :=
  match l.blk with
  | none => es = []
  | some k => ¬ Z k ∧ k < w.heap.size ∧ ∃ c t, w.heap[k]? = some (.cells c t (0, 0)) ∧ c.size = l.cap * l.z ∧ es.length ≤ l.cap ∧ l.cap ≤ maxLen ∧
      ∀ e cs, nth es e = some cs → cs.length = l.z ∧ ∀ j d, nth cs j = some d → ∃ y, c[e * l.z + j]? = some y ∧ VC w Z β fl d y

/-- the slice over a box -/
def Loc.val (l : Loc) : Value := match l.blk with
  | none => .slice none 0 0
  | some k => .slice (some ⟨k, 0, none⟩) l.len l.cap
def BoxOK (w : World) (Z : Nat → Prop) (β : Nat → Option Loc) (b : Nat) : Box → Prop
  | .dead => True
  | .own z fl es => ∃ l, β b = some l ∧ l.z = z ∧ l.len = es.length ∧ InBlk w Z β l fl es
  | .fz z es => ∃ l, β b = some l ∧ C1 w Z (.fr z es) l.val

def live (m : List Box) (b : Nat) : Prop := ∃ z fl es, nth m b = some (.own z fl es)

/-- the boxes of 'F' lie in memory as they say, apart from one another -/
structure MR (w : World) (Z : Nat → Prop) (β : Nat → Option Loc) (m : List Box) (F : Nat → Prop) : Prop where
  box : ∀ b x, F b → nth m b = some x → BoxOK w Z β b x
  inj : ∀ b b' l l' k, F b → F b' → live m b → live m b' → β b = some l → β b' = some l' → l.blk = some k → l'.blk = some k → b = b'

theorem InBlk.mono {w w' : World} {X Z Z' : Nat → Prop} {β β' : Nat → Option Loc} {l : Loc} {fl : Bool} {es : List (List D1)} (he : Ext w w' X) (hz : ∀ k, Z k → k < w.heap.size ∧ ¬ X k ∧ Z' k) (hb : Sub β β')
    (hx : ∀ k, l.blk = some k → ¬ X k ∧ ¬ Z' k) (h : InBlk w Z β l fl es) : InBlk w' Z' β' l fl es := by
  unfold InBlk at *
  split at h
  · exact h
  · rename_i k hk
    obtain ⟨_, h2, c, t, h3, h4, h5, h6, h7⟩ := h
    have hxk := hx k hk
    refine ⟨hxk.2, by have := he.size; omega, c, t, by rw [he.keep k h2 hxk.1]; exact h3, h4, h5, h6, ?_⟩
    intro e cs hcs
    obtain ⟨a, b⟩ := h7 e cs hcs
    refine ⟨a, fun j d hd => ?_⟩
    obtain ⟨y, hy, hv⟩ := b j d hd
    exact ⟨y, hy, hv.mono he hz hb⟩
end Go.Proofs.Ytceaambiagobbaa.Am
