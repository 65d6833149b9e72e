/- From the answers at every level to answers without a level: 'den', and the rules by which a printed tree passes to its limit. -/
import Derived.Test.YtceaambiagobbaaAmKit
namespace Go.Proofs.Ytceaambiagobbaa.Am
open Go

/-- from some level on, x answers what y says, encoded -/
def Lim {α β : Type} (e : β → α) (x : Nat → Option α) (y : Option β) : Prop := ∀ r, y = some r → ∃ N, ∀ n, N ≤ n → x n = some (e r)

/-- what a row of answers comes to -/
noncomputable def den {α β : Type} (e : β → α) (x : Nat → Option α) : Option β :=
  open Classical in if h : ∃ r, ∃ N, ∀ n, N ≤ n → x n = some (e r) then some h.choose else none

/-- a name for a number that stands in several places -/
def letIn {α β : Type} (x : α) (K : α → β) : β := K x

theorem den_spec {α β : Type} {e : β → α} {x : Nat → Option α} {r : β} (h : den e x = some r) : ∃ N, ∀ n, N ≤ n → x n = some (e r) := by
  unfold den at h
  split at h
  · rename_i hh
    cases h
    exact hh.choose_spec
  · cases h
theorem den_of {α β : Type} {e : β → α} (inj : ∀ a b, e a = e b → a = b) {x : Nat → Option α} (k : Nat) {y : Option β} (h : Lim e (fun n => x (n + k)) y) {r : β} (hy : y = some r) : den e x = some r := by
  obtain ⟨N, hN⟩ := h r hy
  have hex : ∃ r, ∃ N, ∀ n, N ≤ n → x n = some (e r) := ⟨r, N + k, fun n hn => by
    have := hN (n - k) (by omega)
    dsimp only at this
    rwa [show n - k + k = n by omega] at this⟩
  unfold den
  rw [dif_pos hex]
  obtain ⟨M, hM⟩ := hex.choose_spec
  have h1 := hN (N + M) (by omega)
  have h2 := hM (N + M + k) (by omega)
  dsimp only at h1
  rw [h1] at h2
  injection h2 with h2
  rw [inj _ _ h2]

theorem map_inj {α β : Type} {f : α → β} (h : ∀ a b, f a = f b → a = b) {l l' : List α} : l.map f = l'.map f ↔ l = l' := by
  constructor
  · intro e
    induction l generalizing l' with
    | nil => cases l' with
      | nil => rfl
      | cons _ _ => cases e
    | cons a l ih => cases l' with
      | nil => cases e
      | cons b l' =>
        simp only [List.map_cons, List.cons.injEq] at e
        rw [h _ _ e.1, ih e.2]
  · rintro rfl; rfl
theorem encR_inj {ts : List Vt} {x y : VtsT ts} (h : encR ts x = encR ts y) : x = y := by
  have hx := decR_enc x (fun z => some z)
  rw [h, decR_enc] at hx
  exact (Option.some.inj hx).symm
theorem encMts_inj {ts : List Mt} {x y : MtsT ts} (h : encMts ts x = encMts ts y) : x = y := by
  have hx := decMts_enc x (fun z => some z)
  rw [h, decMts_enc] at hx
  exact (Option.some.inj hx).symm
theorem encSt_inj {t : StTy} (ht : okSlots t.n t.slots = true) {x y : t.T} (h : encSt t x = encSt t y) : x = y := by
  have hx := decSt_enc ht x (fun z => some z)
  rw [h, decSt_enc ht] at hx
  exact (Option.some.inj hx).symm

theorem map_upd {α β : Type} (f : α → β) : ∀ (l : List α) (i : Nat) (x : α), (upd l i x).map f = upd (l.map f) i (f x)
  | [], _, _ => rfl
  | _ :: _, 0, _ => rfl
  | a :: l, i + 1, x => by simp [upd, map_upd f l i x]

section rules
variable {α β γ δ τ : Type}
theorem Lim.none_ {g : δ → γ} {x : Nat → Option γ} : Lim g x none := fun r h => by cases h
theorem Lim.leaf {g : δ → γ} {a : γ} {v : δ} (h : a = g v) : Lim g (fun _ => some a) (some v) := fun r hr => by
  cases hr; exact ⟨0, fun n _ => by rw [h]⟩
theorem Lim.bind {e : β → α} {g : δ → γ} {x : Nat → Option α} {y : Option β} {K : Nat → α → Option γ} {K' : β → Option δ} (h : Lim e x y) (hk : ∀ v, Lim g (fun n => K n (e v)) (K' v)) : Lim g (fun n => (x n).bind (K n)) (y.bind K') := by
  intro r hr
  obtain ⟨v, hv, hr⟩ := Option.bind_eq_some_iff.1 hr
  obtain ⟨N, hN⟩ := h v hv
  obtain ⟨M, hM⟩ := hk v r hr
  exact ⟨N + M, fun n hn => by
    show (x n).bind (K n) = _
    rw [hN n (by omega)]; exact hM n (by omega)⟩
theorem Lim.bif {g : δ → γ} {c c' : Bool} {A B : Nat → Option γ} {A' B' : Option δ} (hc : c = c') (h1 : Lim g A A') (h2 : Lim g B B') : Lim g (fun n => bif c then A n else B n) (bif c' then A' else B') := by
  subst hc; cases c <;> assumption
theorem Lim.bifT {g : δ → γ} {c : Bool} {A B : Nat → Option γ} {y : Option δ} (hc : c = true) (h : Lim g A y) : Lim g (fun n => bif c then A n else B n) y := by
  subst hc; exact h
theorem Lim.bifF {g : δ → γ} {c : Bool} {A B : Nat → Option γ} {y : Option δ} (hc : c = false) (h : Lim g B y) : Lim g (fun n => bif c then A n else B n) y := by
  subst hc; exact h
theorem Lim.step {g : δ → γ} {a : Option α} {v : α} {K : Nat → α → Option γ} {y : Option δ} (h : a = some v) (hk : Lim g (fun n => K n v) y) : Lim g (fun n => a.bind (K n)) y := by
  subst h; exact hk
theorem Lim.nth {g : δ → γ} {es : List α} {rows : List τ} {i j : Nat} {K : Nat → α → Option γ} {K' : τ → Option δ} (enc : τ → α) (he : es = rows.map enc) (hij : i = j) (hk : ∀ x, Lim g (fun n => K n (enc x)) (K' x)) : Lim g (fun n => (nth es i).bind (K n)) ((nth rows j).bind K') := by
  subst he hij
  intro r hr
  obtain ⟨v, hv, hr⟩ := Option.bind_eq_some_iff.1 hr
  obtain ⟨N, hN⟩ := hk v r hr
  exact ⟨N, fun n hn => by rw [nth_map, hv]; exact hN n hn⟩
theorem Lim.raw {g : δ → γ} {a b : Option α} {K : Nat → α → Option γ} {K' : α → Option δ} (h : a = b) (hk : ∀ x, Lim g (fun n => K n x) (K' x)) : Lim g (fun n => a.bind (K n)) (b.bind K') := by
  subst h
  intro r hr
  obtain ⟨v, hv, hr⟩ := Option.bind_eq_some_iff.1 hr
  obtain ⟨N, hN⟩ := hk v r hr
  exact ⟨N, fun n hn => by rw [hv]; exact hN n hn⟩
theorem Lim.letIn {g : δ → γ} {x x' : α} {K : Nat → α → Option γ} {K' : α → Option δ} (h : x = x') (hk : ∀ v, Lim g (fun n => K n v) (K' v)) : Lim g (fun n => letIn x (K n)) (letIn x' K') := by
  subst h; exact hk x
theorem Lim.decC {g : δ → γ} {ts : List Ct} {cs : List D1} (x : CtsT ts) {K : Nat → CtsT ts → Option γ} {y : Option δ} (h : cs = encCts ts x) (hk : Lim g (fun n => K n x) y) : Lim g (fun n => decCts ts cs (K n)) y := by
  subst h
  simp only [decCts_enc]; exact hk
theorem Ct.dec_bind {β γ : Type} (t : Ct) (d : D1) (K : t.T → Option β) (J : β → Option γ) : (t.dec d K).bind J = t.dec d fun x => (K x).bind J := by
  have hb : ∀ (c : Bool) (x : Option β), (bif c then x else none).bind J = bif c then x.bind J else none := fun c x => by cases c <;> rfl
  cases t <;> simp only [Ct.dec, Option.bind_assoc]
  all_goals (split <;> first | rfl | exact hb _ _)
theorem decCts_bind {β γ : Type} : ∀ (ts : List Ct) (ds : List D1) (K : CtsT ts → Option β) (J : β → Option γ), (decCts ts ds K).bind J = decCts ts ds fun x => (K x).bind J
  | [], ds, K, J => by cases ds <;> rfl
  | t :: r, ds, K, J => by
    cases ds with
    | nil => rfl
    | cons d ds =>
      simp only [decCts, Ct.dec_bind]
      congr 1; funext x
      exact decCts_bind r ds _ J
theorem Lim.decRaw {g : δ → γ} {ts : List Ct} {cs cs' : List D1} {K : Nat → CtsT ts → Option γ} {K' : CtsT ts → Option δ} (h : cs = cs') (hk : ∀ x, Lim g (fun n => K n x) (K' x)) : Lim g (fun n => decCts ts cs (K n)) ((decCts ts cs' some).bind K') := by
  subst h
  have : (fun n => decCts ts cs (K n)) = fun n => (decCts ts cs some).bind (K n) := by
    funext n; rw [decCts_bind]; rfl
  rw [this]
  exact Lim.raw rfl hk
/-- a loop's or an unrolled loop's way out -/
theorem Lim.exit {g : δ → γ} (ex : Ex) (S : StTy) (x : S.T) {p : Ex × St} {K : Nat → S.T → Option γ} {B : Nat → Option γ} {y : Option δ} (hok : okSlots S.n S.slots = true) (hs : sameEx ex ex = true) (hp : p = (ex, encSt S x)) (hk : Lim g (fun n => K n x) y) :
    Lim g (fun n => bif sameEx ex p.1 then decSt S p.2 (K n) else B n) y := by
  subst hp
  simp only [hs, cond_true, decSt_enc hok]; exact hk
theorem Lim.call {g : δ → γ} {outs : List Vt} {mouts : List Mt} (o : β → VtsT outs × MtsT mouts) {callF : Nat → CallF} {f : Nat} {args args' : List D} {m m' : List Box} {y : Option β} {K : Nat → VtsT outs → MtsT mouts → Option γ} {K' : β → Option δ}
    (h : Lim (fun v => (encR outs (o v).1, encMts mouts (o v).2)) (fun n => callF n f args' m') y) (ha : args = args') (hm : m = m') (hk : ∀ v, Lim g (fun n => K n (o v).1 (o v).2) (K' v)) :
    Lim g (fun n => callT (callF n) f args m outs mouts (K n)) (y.bind K') := by
  subst ha hm
  intro r hr
  obtain ⟨v, hv, hr⟩ := Option.bind_eq_some_iff.1 hr
  obtain ⟨N, hN⟩ := h v hv
  obtain ⟨M, hM⟩ := hk v r hr
  exact ⟨N + M, fun n hn => by
    show callT (callF n) f args m outs mouts (K n) = _
    rw [callT_eq (hN n (by omega))]; exact hM n (by omega)⟩
theorem Lim.den {e : β → α} {x : Nat → Option α} (k : Nat) : Lim e (fun n => x (n + k)) (den e x) := fun r hr => by
  obtain ⟨N, hN⟩ := den_spec hr
  exact ⟨N, fun n hn => hN (n + k) (by omega)⟩
theorem Lim.loop {P : Program} {H : Hints} {e : β → Ex × St} {env : Env} {b : Nat} {c : Code} {st st' : St} (k : Nat) (h : st = st') : Lim e (fun n => (lvl P H (n + k)).1 env b c st) (Am.den e fun n => (lvl P H n).1 env b c st') := by
  subst h; exact Lim.den (x := fun n => (lvl P H n).1 env b c st) k
theorem Lim.cong {g : δ → γ} {x x' : Nat → Option γ} {y : Option δ} (h : ∀ n, x n = x' n) (hl : Lim g x' y) : Lim g x y := by
  rw [show x = x' from funext h]; exact hl
end rules

section tot
variable {α β : Type}
theorem Tot.letIn {x : α} {K : α → Option β} {K' : α → β} (h : ∀ v, K v = some (K' v)) : Am.letIn x K = some (Am.letIn x K') := h x
theorem Tot.bif {c : Bool} {A B : Option β} {a b : β} (h1 : A = some a) (h2 : B = some b) : (bif c then A else B) = some (bif c then a else b) := by
  cases c <;> assumption
theorem Tot.bind {x : Option α} {a : α} {K : α → Option β} {K' : α → β} (h : x = some a) (hk : ∀ v, K v = some (K' v)) : x.bind K = some (Am.letIn a K') := by
  rw [h]; exact hk a
end tot

/-- it answers, and what it answers is as said -/
def Ans {α : Type} (x : Option α) (Q : α → Prop) : Prop := ∃ a, x = some a ∧ Q a
theorem Ans.bind {α β : Type} {x : Option α} {Q : α → Prop} {K : α → Option β} {R : β → Prop} (h : Ans x Q) (hk : ∀ a, Q a → Ans (K a) R) : Ans (x.bind K) R := by
  obtain ⟨a, rfl, ha⟩ := h; exact hk a ha
theorem Ans.mono {α : Type} {x : Option α} {Q R : α → Prop} (h : Ans x Q) (hk : ∀ a, Q a → R a) : Ans x R := by
  obtain ⟨a, rfl, ha⟩ := h; exact ⟨a, rfl, hk a ha⟩
theorem Ans.ret {α : Type} {a : α} {Q : α → Prop} (h : Q a) : Ans (some a) Q := ⟨a, rfl, h⟩
theorem Ans.bif {α : Type} {c : Bool} {x y : Option α} {Q : α → Prop} (h1 : c = true → Ans x Q) (h2 : c = false → Ans y Q) : Ans (bif c then x else y) Q := by
  cases c
  · exact h2 rfl
  · exact h1 rfl
theorem Ans.eq {α : Type} {x : Option α} {a : α} : Ans x (fun b => b = a) ↔ x = some a := by
  constructor
  · rintro ⟨b, h, rfl⟩; exact h
  · intro h; exact ⟨a, h, rfl⟩
theorem Ans.of {α : Type} {x y : Option α} {Q : α → Prop} (h : ∀ r, x = some r → y = some r) (hx : Ans x Q) : Ans y Q := by
  obtain ⟨a, ha, hq⟩ := hx; exact ⟨a, h a ha, hq⟩
end Go.Proofs.Ytceaambiagobbaa.Am
