/- The row's side: what an argument that reads as data holds, as the abstract machine's typed cells. -/
import Derived.Test.YtceaambiagobbaaAmFn
import Derived.ChangeArms
import Derived.OpenShut
namespace Go.Proofs.Ytceaambiagobbaa.Am
open Go

/-- the machine's cells of a typed tuple of plain cells -/
def valCt : (t : Ct) → t.T → Value
  | .int k, n => .int k n
  | .bool, b => .bool b
  | .str, s => .string s
  | _, _ => undef
def valCts : (ts : List Ct) → CtsT ts → List Value
  | [], _ => []
  | t :: r, x => valCt t x.1 :: valCts r x.2
def wfCt : (t : Ct) → t.T → Prop
  | .int k, n => (Lit.int k n).wf = true
  | .str, s => s.size ≤ maxLen
  | _, _ => True
def wfCts : (ts : List Ct) → CtsT ts → Prop
  | [], _ => True
  | t :: r, x => wfCt t x.1 ∧ wfCts r x.2
/-- plain cells: numbers, truth values, strings -/
def plainCt : Ct → Bool
  | .int _ => true
  | .bool => true
  | .str => true
  | _ => false
def plainCts : List Ct → Bool
  | [] => true
  | t :: r => plainCt t && plainCts r

/-- it is a list of such cells -/
def IsCts (ts : List Ct) (cs : List Value) : Prop := ∃ x : CtsT ts, cs = valCts ts x ∧ wfCts ts x
theorem IsCts.append : ∀ {a b : List Ct} {xs ys : List Value}, IsCts a xs → IsCts b ys → IsCts (a ++ b) (xs ++ ys)
  | [], b, xs, ys, ⟨x, hx, _⟩, h => by subst hx; exact h
  | t :: a, b, xs, ys, ⟨x, hx, hw⟩, h => by
    obtain ⟨z, hz, hzw⟩ := IsCts.append (a := a) ⟨x.2, rfl, hw.2⟩ h
    exact ⟨(x.1, z), by subst hx; simp [valCts, hz], hw.1, hzw⟩
theorem valCts_length : ∀ (ts : List Ct) (x : CtsT ts), (valCts ts x).length = ts.length
  | [], _ => rfl
  | _ :: r, x => by simp [valCts, valCts_length r]
theorem IsCts.length {ts : List Ct} {cs : List Value} (h : IsCts ts cs) : cs.length = ts.length := by
  obtain ⟨x, rfl, _⟩ := h; exact valCts_length ts x
theorem IsCts.rep {ts : List Ct} : ∀ (n : Nat) {cs : List Value}, cs.length = n * ts.length → (∀ i, i < n → IsCts ts ((cs.drop (i * ts.length)).take ts.length)) → IsCts (repCts n ts) cs
  | 0, cs, hl, _ => by
    have : cs = [] := List.eq_nil_of_length_eq_zero (by simpa using hl)
    subst this; exact ⟨(), rfl, trivial⟩
  | n + 1, cs, hl, h => by
    have h0 := h 0 (by omega)
    simp only [Nat.zero_mul, List.drop_zero] at h0
    have hr := IsCts.rep (ts := ts) n (cs := cs.drop ts.length) (by rw [List.length_drop, hl, Nat.succ_mul]; omega) fun i hi => by
      have := h (i + 1) (by omega)
      rw [List.drop_drop]
      rwa [Nat.succ_mul, Nat.add_comm] at this
    have := h0.append hr
    rwa [List.take_append_drop] at this

/-- a type of plain cells, laid side by side -/
def seqT (f : TypeId → Bool) (len : TypeId → Nat) : Nat → List Field → Option Nat
  | acc, [] => some acc
  | acc, fd :: r => if Nat.beq fd.offset acc && f fd.type then seqT f len (acc + len fd.type) r else none
def flatT (P : Program) : Nat → TypeId → Bool
  | 0, _ => false
  | n + 1, t => Nat.beq (ctsOf P true (n + 1) t).length (P.cellsOf t) && match desc P t with
    | some (.int _) => true
    | some .bool => true
    | some .string => true
    | some (.array len e) => flatT P n e && Nat.beq (P.cellsOf t) (len * P.cellsOf e)
    | some (.struct fs) => match seqT (flatT P n) P.cellsOf 0 fs.toList with
      | some k => Nat.beq k (P.cellsOf t)
      | none => false
    | _ => false

theorem flat_cts {P : Program} {n : Nat} {t : TypeId} (h : flatT P n t = true) : (ctsOf P true n t).length = P.cellsOf t := by
  cases n with
  | zero => cases h
  | succ n =>
    unfold flatT at h
    simp only [Bool.and_eq_true, Nat.beq_eq] at h
    exact h.1

theorem trod_flat {H : Type} {enc : TypeId × Value → H} {P : Program} {w : World} {base : Nat} {sp : Nat → Bool} {held : Bool} : ∀ (n : Nat) {t : TypeId}, flatT P n t = true → ∀ {fuel : Nat} {cs : List Value} {y : DataW H × List MemPlace}, DataW.trod enc P w base sp held fuel t cs = some y → IsCts (ctsOf P true n t) cs
  | 0, t, h, _, _, _, _ => by cases h
  | n + 1, t, h, fuel, cs, y, hy => by
    unfold flatT at h
    rw [Bool.and_eq_true] at h
    obtain ⟨hlen, h⟩ := h
    split at h
    · rename_i k hd
      have hd' : P.underlying t = some (.int k) := hd
      obtain ⟨z, rfl, _, hw⟩ := DataW.trod_int hd' hy
      simp only [ctsOf, hd]
      exact ⟨(z, ()), rfl, hw, trivial⟩
    · rename_i hd
      have hd' : P.underlying t = some .bool := hd
      simp only [ctsOf, hd]
      cases fuel with
      | zero => simp [DataW.trod] at hy
      | succ m =>
        unfold DataW.trod at hy
        rw [hd'] at hy
        split at hy <;> simp_all
        exact ⟨(_, ()), rfl, trivial, trivial⟩
    · rename_i hd
      have hd' : P.underlying t = some .string := hd
      simp only [ctsOf, hd]
      cases fuel with
      | zero => simp [DataW.trod] at hy
      | succ m =>
        unfold DataW.trod at hy
        rw [hd'] at hy
        split at hy <;> simp_all
        exact ⟨(_, ()), rfl, hy.1, trivial⟩
    · rename_i len e hd
      have hd' : P.underlying t = some (.array len e) := hd
      simp only [Bool.and_eq_true, Nat.beq_eq] at h
      obtain ⟨xs, m, rfl, _, hl, hxl, hel⟩ := DataW.trod_array hd' hy
      simp only [ctsOf, hd]
      have hc := flat_cts h.1
      refine IsCts.rep len (by rw [hl, h.2, hc]) fun i hi => ?_
      rw [hc]
      obtain ⟨z, hz⟩ : ∃ z, xs[i]? = some z := ⟨_, List.getElem?_eq_getElem (by omega)⟩
      have := hel i hi
      rw [hz] at this
      exact trod_flat n h.1 this
    · rename_i fs hd
      have hd' : P.underlying t = some (.struct fs) := hd
      split at h
      · rename_i k hk
        rw [Nat.beq_eq] at h
        subst h
        have hst := DataW.trod_struct hd' hy
        simp only [ctsOf, hd]
        obtain ⟨xs, m, rfl, _, hl, hxl, hel⟩ := hst
        have key : ∀ (l : List Field) (acc : Nat), seqT (flatT P n) P.cellsOf acc l = some (P.cellsOf t) → acc ≤ P.cellsOf t → (∀ f ∈ l, ∃ z, DataW.trod enc P w base sp held m f.type ((cs.drop f.offset).take (P.cellsOf f.type)) = some z) →
            acc ≤ cs.length ∧ IsCts (ctsFields (ctsOf P true n) l) (cs.drop acc) := by
          intro l
          induction l with
          | nil =>
            intro acc ha hle _
            simp only [seqT, Option.some.injEq] at ha
            refine ⟨by omega, ?_⟩
            have : cs.drop acc = [] := by rw [List.drop_eq_nil_iff]; omega
            rw [this]; exact ⟨(), rfl, trivial⟩
          | cons f l ih =>
            intro acc ha hle hz
            simp only [seqT] at ha
            split at ha
            · rename_i hc
              simp only [Bool.and_eq_true, Nat.beq_eq] at hc
              obtain ⟨z, hz0⟩ := hz f (by simp)
              have hf := trod_flat n hc.2 hz0
              have hflen := hf.length
              rw [flat_cts hc.2, List.length_take, List.length_drop, hc.1] at hflen
              have hle2 : acc + P.cellsOf f.type ≤ P.cellsOf t := by
                rcases Nat.eq_zero_or_pos (P.cellsOf f.type) with h0 | h0
                · omega
                · omega
              obtain ⟨h1, h2⟩ := ih _ ha hle2 fun g hg => hz g (by simp [hg])
              refine ⟨by omega, ?_⟩
              rw [hc.1] at hf
              have := hf.append h2
              rw [← List.drop_drop, List.take_append_drop] at this
              exact this
            · cases ha
        have := (key fs.toList 0 hk (Nat.zero_le _) ?_).2
        · simpa using this
        · intro f hf
          obtain ⟨i, hi, hfi⟩ := List.mem_iff_getElem.1 hf
          have hii : i < xs.length := by rw [hxl]; simpa using hi
          have := hel i f (by rw [← Array.getElem?_toList, List.getElem?_eq_getElem hi, hfi])
          rw [List.getElem?_eq_getElem hii] at this
          exact ⟨_, this⟩
      · cases h
    · cases h

theorem plain_c1 {w : World} {Z : Nat → Prop} {t : Ct} (h : plainCt t = true) (x : t.T) : C1 w Z (t.enc x) (valCt t x) := by
  cases t <;> first | exact .v _ rfl | cases h
theorem plain_nth {w : World} {Z : Nat → Prop} : ∀ {ts : List Ct} (x : CtsT ts), plainCts ts = true → ∀ {j : Nat} {d : D1}, nth (encCts ts x) j = some d → ∃ v, (valCts ts x)[j]? = some v ∧ C1 w Z d v
  | [], _, _, j, d, h => by simp [encCts, nth] at h
  | t :: r, x, hp, 0, d, h => by
    simp only [plainCts, Bool.and_eq_true] at hp
    simp only [encCts, nth, Option.some.injEq] at h
    subst h
    exact ⟨_, rfl, plain_c1 hp.1 x.1⟩
  | t :: r, x, hp, j + 1, d, h => by
    simp only [plainCts, Bool.and_eq_true] at hp
    simp only [encCts, nth] at h
    exact plain_nth x.2 hp.2 h
theorem plain_vc {w : World} {Z : Nat → Prop} {β : Nat → Option Loc} {cl : Bool} : ∀ {ts : List Ct} (x : CtsT ts), plainCts ts = true → All2 (VC w Z β cl) (encCts ts x) (valCts ts x)
  | [], _, _ => trivial
  | t :: r, x, hp => by
    simp only [plainCts, Bool.and_eq_true] at hp
    exact ⟨⟨.c (plain_c1 hp.1 x.1), fun _ => plain_c1 hp.1 x.1⟩, plain_vc x.2 hp.2⟩

theorem exists_list {α : Type} {Q : Nat → α → Prop} : ∀ (n : Nat), (∀ i, i < n → ∃ x, Q i x) → ∃ l : List α, l.length = n ∧ ∀ i x, l[i]? = some x → Q i x
  | 0, _ => ⟨[], rfl, fun i x h => by simp at h⟩
  | n + 1, h => by
    obtain ⟨l, hl, hq⟩ := exists_list n fun i hi => h i (by omega)
    obtain ⟨x, hx⟩ := h n (by omega)
    refine ⟨l ++ [x], by simp [hl], fun i y hy => ?_⟩
    rw [List.getElem?_append] at hy
    split at hy
    · exact hq i y hy
    · rename_i hi
      have hlt := (List.getElem?_eq_some_iff.1 hy).1
      simp at hlt
      obtain rfl : i = n := by omega
      rw [hl] at hy; simp at hy; subst hy; exact hx

/-- all that is in the heap -/
def allZ (w : World) (k : Nat) : Prop := k < w.heap.size

/-- a slice of plain cells, opened -/
theorem open_rows {H : Type} {enc : TypeId × Value → H} {P : Program} {w : World} {sp : Nat → Bool} {held : Bool} {r : Reach} {b0 : Nat} {t e : TypeId} {v : Value} {d : DataW H} {ps : List MemPlace} (n : Nat) (ht : P.underlying t = some (.slice e)) (hfl : flatT P n e = true) (hp : plainCts (ctsOf P true n e) = true) (hpos : 0 < P.cellsOf e)
    (hval : Value.okWide P w r b0 t v) (hd : DataW.Trod enc P w 0 sp held t v d ps) :
    ∃ rows : List (CtsT (ctsOf P true n e)), C1 w (allZ w) (.fr (P.cellsOf e) (rows.map (encCts _))) v ∧ rows.length ≤ maxLen ∧ ∀ x ∈ rows, wfCts _ x := by
  obtain ⟨a0, len0, cap0, rfl⟩ := Go.WideShapes.okWide_slice ht hval
  obtain ⟨fuel, hf⟩ := hd
  have hcells : (Value.slice a0 len0 cap0).cells.toList = [.slice a0 len0 cap0] := rfl
  rw [hcells] at hf
  rcases DataW.trod_slice ht hf with ⟨h0, _⟩ | ⟨a, len, cap, elems, rest, m, _, h0, _, hb, hl, hm, hlen, hel, _, _⟩
  · simp only [List.cons.injEq, Value.slice.injEq, and_true] at h0
    obtain ⟨rfl, rfl, rfl⟩ := h0
    exact ⟨[], .fr0 _ _ _, Nat.zero_le _, fun x hx => by cases hx⟩
  · simp only [List.cons.injEq, Value.slice.injEq, and_true] at h0
    obtain ⟨rfl, rfl, rfl⟩ := h0
    have hc := flat_cts hfl
    have each : ∀ i, i < len0 → ∃ x : CtsT (ctsOf P true n e), wfCts _ x ∧ ∀ j, j < P.cellsOf e → w.cell? ((a.add (i * P.cellsOf e)).add j) = (valCts _ x)[j]? := by
      intro i hi
      have h1 := hel i hi
      rw [List.getElem?_eq_getElem (by omega)] at h1
      obtain ⟨cs, hcs, htr⟩ := Option.bind_eq_some_iff.1 h1
      obtain ⟨x, hx, hw⟩ := trod_flat n hfl htr
      refine ⟨x, hw, fun j hj => ?_⟩
      simp only [World.cells?, Nat.zero_le, if_true] at hcs
      have := mapM_some_get hcs j j (by simp [hj])
      rw [this, hx]
    obtain ⟨rows, hrl, hrows⟩ := exists_list (Q := fun i (x : CtsT (ctsOf P true n e)) => wfCts _ x ∧ ∀ j, j < P.cellsOf e → w.cell? ((a.add (i * P.cellsOf e)).add j) = (valCts _ x)[j]?) len0 each
    refine ⟨rows, ?_, by omega, fun x hx => ?_⟩
    · rcases Nat.eq_zero_or_pos len0 with h0 | h0
      · subst h0
        have : rows = [] := List.eq_nil_of_length_eq_zero hrl
        subst this
        exact .fr0 _ _ _
      · -- the block is there
        obtain ⟨x0, hx0⟩ : ∃ x, rows[0]? = some x := ⟨_, List.getElem?_eq_getElem (by omega)⟩
        have hq0 := (hrows 0 x0 hx0).2 0 hpos
        have hv0 : (valCts _ x0)[0]? ≠ none := by
          rw [List.getElem?_eq_getElem (by rw [valCts_length, hc]; exact hpos)]; simp
        simp only [Nat.zero_mul, Addr.add, if_true] at hq0
        have hblk : a.block < w.heap.size ∧ a.spot = none := by
          unfold World.cell? at hq0
          cases hh : w.heap[a.block]? with
          | none => rw [hh] at hq0; exact absurd hq0.symm hv0
          | some o =>
            refine ⟨(Array.getElem?_eq_some_iff.1 hh).1, ?_⟩
            rw [hh] at hq0
            cases o <;> first
              | (dsimp only at hq0; split at hq0
                 · exact absurd hq0.symm hv0
                 · rename_i hs; simpa using hs)
              | exact absurd hq0.symm hv0
        obtain ⟨k, o, spot⟩ := a
        obtain ⟨hk, hspot⟩ := hblk
        simp only at hk hspot
        subst hspot
        have haddr : ∀ i j, ((⟨k, o, none⟩ : Addr).add i).add j = ⟨k, o + i + j, none⟩ := by
          intro i j
          unfold Addr.add
          split <;> split <;> simp_all
        have hlen' : (rows.map (encCts (ctsOf P true n e))).length = len0 := by simp [hrl]
        rw [← hlen']
        refine .fr (P.cellsOf e) _ k o cap0 (fun i j => ((rows[i]?).bind fun x => (valCts _ x)[j]?).getD undef) hk (by rw [hlen']; exact hl) ?_ ?_ ?_
        · intro i cs hi
          rw [nth_map] at hi
          obtain ⟨x, _, rfl⟩ := Option.map_eq_some_iff.1 hi
          rw [encCts_length, hc]
        · intro i j hi hj
          rw [hlen'] at hi
          obtain ⟨x, hx⟩ : ∃ x, rows[i]? = some x := ⟨_, List.getElem?_eq_getElem (by omega)⟩
          have := (hrows i x hx).2 j hj
          rw [haddr] at this
          rw [this, hx]
          have hjl : j < (valCts _ x).length := by rw [valCts_length, hc]; exact hj
          simp [List.getElem?_eq_getElem hjl]
        · intro i cs j d hi hj
          rw [nth_map] at hi
          obtain ⟨x, hx, rfl⟩ := Option.map_eq_some_iff.1 hi
          rw [nth_eq] at hx
          obtain ⟨v, hv, hc1⟩ := plain_nth (w := w) (Z := allZ w) x hp hj
          simp only [hx, Option.bind_some, hv, Option.getD_some]
          exact hc1
    · obtain ⟨i, hi⟩ := List.mem_iff_getElem?.1 hx
      exact (hrows i x hi).1

/-- an aggregate of plain cells, opened -/
theorem open_flat {H : Type} {enc : TypeId × Value → H} {P : Program} {w : World} {sp : Nat → Bool} {held : Bool} {r : Reach} {b0 : Nat} {t : TypeId} {v : Value} {d : DataW H} {ps : List MemPlace} (n : Nat) (ht : isAggT P t = true) (hfl : flatT P n t = true) (hp : plainCts (ctsOf P true n t) = true)
    (hval : Value.okWide P w r b0 t v) (hd : DataW.Trod enc P w 0 sp held t v d ps) : ∃ x : CtsT (ctsOf P true n t), (∀ (Z : Nat → Prop) (β : Nat → Option Loc), V0 w Z β (.agg true (encCts _ x)) v) ∧ wfCts _ x := by
  have hagg : ∃ cs, v = .agg cs := by
    unfold isAggT at ht
    cases hdsc : desc P t with
    | none => rw [hdsc] at ht; cases ht
    | some dt =>
      rw [hdsc] at ht
      have hd' : P.underlying t = some dt := hdsc
      unfold Value.okWide at hval
      rw [hd'] at hval
      cases dt <;> first
        | (obtain ⟨cs, rfl, _⟩ := hval; exact ⟨cs, rfl⟩)
        | cases ht
  obtain ⟨cs, rfl⟩ := hagg
  obtain ⟨fuel, hf⟩ := hd
  obtain ⟨x, hx, hw⟩ := trod_flat n hfl hf
  refine ⟨x, fun Z β => ⟨cs.toList, by simp, ?_⟩, hw⟩
  have : cs.toList = valCts _ x := hx
  rw [this]
  exact plain_vc x hp

/-- a law's answer: what the abstract machine answers, the machine's call returns, and nothing that was there has turned -/
theorem ran {P : Program} {H : Hints} (hmix : P.follows .mixedOrders = true) {n f : Nat} {args : List D} {w : World} {vs : List Value} {b : Bool} (h : evalF P H n f args [] = some (.s (.one (.v (.bool b))), []))
    (ha : All2 (VD w (allZ w) (fun _ => none)) args vs) : Calls P f vs.toArray w fun e w' => e = .returned (.bool b) ∧ Go.RowKit.Below w.heap.size w w' := by
  have hm : MR w (allZ w) (fun _ => none) [] (fun _ => True) := ⟨fun b x _ hx => by simp [nth] at hx, fun b b' l l' k _ _ hl => by obtain ⟨_, _, _, hx⟩ := hl; simp [nth] at hx⟩
  refine (evalF_ok hmix h w (allZ w) (fun _ => none) vs (fun k hk => hk) ha hm (fun _ _ => rfl)).mono fun e w' ⟨v, Z', β', he, hp⟩ => ?_
  have hv : v = .bool b := VD.val_eq (d := dv (.bool b)) rfl hp.val
  subst hv
  exact ⟨he, hp.ext.os, hp.ext.tape, hp.ext.output, hp.ext.size, fun k hk => hp.ext.keep k hk fun hi => by
    obtain ⟨_, i, l, hl, _⟩ := hi
    obtain ⟨_, _, _, hx⟩ := hl
    simp [nth] at hx⟩
end Go.Proofs.Ytceaambiagobbaa.Am
