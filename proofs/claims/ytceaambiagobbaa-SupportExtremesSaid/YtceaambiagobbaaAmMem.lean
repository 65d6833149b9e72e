/- Each operation of the abstract machine tells what the machine's operation does: addresses, loads, stores, new boxes. -/
import Derived.Test.YtceaambiagobbaaAmOps
import Derived.Laws.Entries
import Derived.Laws.CopyRow
import Derived.Laws.Cells
namespace Go.Proofs.Ytceaambiagobbaa.Am
open Go

theorem run_und {P : Program} {t : TypeId} {d : TypeDesc} (h : desc P t = some d) (w : World) : (underlying t).run P w = .ok d w := run_underlying h w
theorem run_size {P : Program} {t : TypeId} {i : TypeInfo} (h : P.info? t = some i) (w : World) : (sizeOf t).run P w = .ok i.size w := by
  simp [sizeOf, typeInfo, h]

theorem All2.nth' {α β : Type} {p : α → β → Prop} {l : List α} {s : List β} (h : All2 p l s) {i : Nat} {y : β} (hy : Am.nth s i = some y) : ∃ x, Am.nth l i = some x ∧ p x y := by
  have hi := nth_lt hy
  rw [← h.length] at hi
  obtain ⟨x, hx⟩ := nth_some hi
  obtain ⟨y', hy', hp⟩ := h.nth hx
  rw [hy] at hy'; cases hy'
  exact ⟨x, hx, hp⟩

/-! ### a part of cells, as a value -/
/-- cells that lie in memory from an address on -/
def Lie (w : World) (k o : Nat) (ys : List Value) : Prop := ∀ j y, nth ys j = some y → w.cell? ⟨k, o + j, none⟩ = some y

theorem add_none (k o j : Nat) : (⟨k, o, none⟩ : Addr).add j = ⟨k, o + j, none⟩ := by
  unfold Addr.add; split
  · rename_i h; subst h; rfl
  · rfl

theorem asInt_eq {w : World} {Z : Nat → Prop} {β : Nat → Option Loc} {d : D1} {k : IntKind} {n : Int} {y : Value} (h : asInt? k d = some n) (hv : V1 w Z β d y) : y = .int k n := by
  unfold asInt? at h
  split at h
  · split at h
    · rename_i hk; cases h; subst hk; exact hv.v_eq
    · cases h
  · cases h
theorem asBool_eq {w : World} {Z : Nat → Prop} {β : Nat → Option Loc} {d : D1} {n : Bool} {y : Value} (h : asBool? d = some n) (hv : V1 w Z β d y) : y = .bool n := by
  unfold asBool? at h
  split at h
  · cases h; exact hv.v_eq
  · cases h
theorem asStr_eq {w : World} {Z : Nat → Prop} {β : Nat → Option Loc} {d : D1} {n : ByteArray} {y : Value} (h : asStr? d = some n) (hv : V1 w Z β d y) : y = .string n := by
  unfold asStr? at h
  split at h
  · cases h; exact hv.v_eq
  · cases h
theorem asFr_ok {w : World} {Z : Nat → Prop} {β : Nat → Option Loc} {z : Nat} {d : D1} {es : List (List D1)} {y : Value} (h : asFr? z d = some es) (hv : V1 w Z β d y) : V1 w Z β (.fr z es) y := by
  unfold asFr? at h
  split at h
  · split at h
    · rename_i hz
      rw [Nat.beq_eq] at hz
      cases h; subst hz; exact hv
    · cases h
  · cases h
    rw [hv.v_eq]; exact .c (.fr0 _ _ _)
  · cases h

/-- a cell whose kind has been looked at -/
theorem cellK_ok {β' : Type} {P : Program} {ro : Bool} {dt : TypeDesc} {d : D1} {K : D1 → Option β'} {r : β'} (h : cellK P ro dt d K = some r) :
    ∃ d', K d' = some r ∧ ∀ (w : World) (Z : Nat → Prop) (β : Nat → Option Loc) (y : Value), V1 w Z β d y → V1 w Z β d' y := by
  unfold cellK at h
  split at h
  · obtain ⟨n, hn, hk⟩ := Option.bind_eq_some_iff.1 h
    exact ⟨_, hk, fun w Z β y hv => by rw [asInt_eq hn hv]; exact .c (.v _ rfl)⟩
  · obtain ⟨n, hn, hk⟩ := Option.bind_eq_some_iff.1 h
    exact ⟨_, hk, fun w Z β y hv => by rw [asBool_eq hn hv]; exact .c (.v _ rfl)⟩
  · obtain ⟨n, hn, hk⟩ := Option.bind_eq_some_iff.1 h
    exact ⟨_, hk, fun w Z β y hv => by rw [asStr_eq hn hv]; exact .c (.v _ rfl)⟩
  · split at h
    · obtain ⟨n, hn, hk⟩ := Option.bind_eq_some_iff.1 h
      exact ⟨_, hk, fun w Z β y hv => asFr_ok hn hv⟩
    · exact ⟨_, h, fun w Z β y hv => hv⟩
  · exact ⟨_, h, fun w Z β y hv => hv⟩

theorem isAgg_run {P : Program} {t : TypeId} {d : TypeDesc} (h : desc P t = some d) (w : World) : (isAgg t).run P w = .ok (isAggD d) w := by
  simp only [isAgg, Sem.run_bind, run_und h, Result.andThen_ok]
  cases d <;> rfl

theorem loadCellsFrom_run {P : Program} (w : World) (k o : Nat) : ∀ (n i : Nat) (acc : Array Value) (ys : List Value), ys.length = n → (∀ j y, nth ys j = some y → w.cell? ⟨k, o + (i + j), none⟩ = some y) →
    (loadCellsFrom ⟨k, o, none⟩ i n acc).run P w = .ok (acc ++ ys.toArray) w
  | 0, i, acc, ys, hl, _ => by
    have : ys = [] := List.eq_nil_of_length_eq_zero hl
    subst this; simp [loadCellsFrom]
  | n + 1, i, acc, [], hl, _ => by simp at hl
  | n + 1, i, acc, y :: ys, hl, h => by
    have h0 := h 0 y rfl
    have hr := loadCellsFrom_run (P := P) w k o n (i + 1) (acc.push y) ys (by simpa using hl) fun j u hj => by
      have := h (j + 1) u (by simpa [nth] using hj)
      rwa [show i + 1 + j = i + (j + 1) by omega]
    simp only [loadCellsFrom, Sem.run_bind, run_load, add_none]
    simp only [Nat.add_zero] at h0
    rw [h0]
    simp only [Result.andThen_ok, hr]
    simp

/-- a variable of type t loaded out of cells that lie in memory -/
theorem loadVar_run {P : Program} {t : TypeId} {dt : TypeDesc} {i : TypeInfo} (hd : desc P t = some dt) (hi : P.info? t = some i) (w : World) (k o : Nat) (ys : List Value) (hl : Lie w k o ys) :
    (isAggD dt = true → ys.length = i.size → (loadVar t ⟨k, o, none⟩).run P w = .ok (.agg ys.toArray) w) ∧
    (isAggD dt = false → ∀ y r, ys = y :: r → (loadVar t ⟨k, o, none⟩).run P w = .ok y w) := by
  constructor
  · intro ha hn
    have := loadCellsFrom_run (P := P) w k o i.size 0 #[] ys hn fun j y hj => by simpa using hl j y hj
    simp [loadVar, isAgg_run hd, ha, run_size hi, loadCells, this]
  · intro ha y r hy
    subst hy
    have := hl 0 y rfl
    simp only [Nat.add_zero] at this
    simp [loadVar, isAgg_run hd, ha, this]

theorem nth_drop {α : Type} (l : List α) (n j : Nat) : nth (l.drop n) j = nth l (n + j) := by rw [nth_eq, nth_eq, List.getElem?_drop]
theorem nth_take_lt {α : Type} {l : List α} {n j : Nat} {x : α} (h : nth (l.take n) j = some x) : nth l j = some x := by
  rw [nth_eq] at *; rw [List.getElem?_take] at h; split at h
  · exact h
  · cases h

/-- 'partK' over cells that lie in memory: the load tells the value -/
theorem partK_ok {β' : Type} {P : Program} {ro cl : Bool} {t : TypeId} {cs : List D1} {off : Nat} {K : D0 → Option β'} {r : β'} (h : partK P ro cl t cs off K = some r) :
    ∃ d, K d = some r ∧ ∀ (w : World) (Z : Nat → Prop) (β : Nat → Option Loc) (k o : Nat) (ys : List Value), All2 (VC w Z β cl) cs ys → Lie w k o ys →
      ∃ v, (loadVar t ⟨k, o + off, none⟩).run P w = .ok v w ∧ V0 w Z β d v := by
  unfold partK at h
  split at h
  · rename_i dt i hd hi
    split at h
    · rename_i ha
      cases hb : Nat.beq ((cs.drop off).take i.size).length i.size with
      | false => rw [hb] at h; cases h
      | true =>
        rw [hb] at h
        rw [Nat.beq_eq] at hb
        refine ⟨_, h, fun w Z β k o ys hv hl => ?_⟩
        have hv' := (hv.drop off).take i.size
        have hl' : Lie w k (o + off) ((ys.drop off).take i.size) := by
          intro j y hj
          have := nth_take_lt hj
          rw [nth_drop] at this
          rw [Nat.add_assoc]; exact hl _ _ this
        exact ⟨_, (loadVar_run hd hi w k (o + off) _ hl').1 ha (by rw [← hv'.length, hb]), _, rfl, hv'⟩
    · rename_i ha
      obtain ⟨d, hn, hk⟩ := Option.bind_eq_some_iff.1 h
      obtain ⟨d', hk', hv'⟩ := cellK_ok hk
      refine ⟨_, hk', fun w Z β k o ys hv hl => ?_⟩
      obtain ⟨y, hy, hvy⟩ := hv.nth hn
      have hl' : Lie w k (o + off) [y] := by
        intro j u hj
        cases j with
        | zero => simp [nth] at hj; subst hj; exact hl _ _ hy
        | succ j => simp [nth] at hj
      exact ⟨y, (loadVar_run hd hi w k (o + off) [y] hl').2 (by simpa using ha) y [] rfl, .inr (hv' w Z β y hvy.1)⟩
  · cases h

/-! ### loads -/
theorem cells_of_block {w : World} {k : Nat} {c : Array Value} {t : TypeId} {f : Nat × Nat} (h : w.heap[k]? = some (.cells c t f)) (j : Nat) : w.cell? ⟨k, j, none⟩ = c[j]? := by
  simp [World.cell?, h]

/-- the values of an element of a box -/
theorem inBlk_elem {w : World} {Z : Nat → Prop} {β : Nat → Option Loc} {l : Loc} {k : Nat} {fl : Bool} {es : List (List D1)} (hk : l.blk = some k) (h : InBlk w Z β l fl es) {e : Nat} {cs : List D1} (he : nth es e = some cs) :
    ∃ ys, All2 (VC w Z β fl) cs ys ∧ Lie w k (e * l.z) ys := by
  simp only [InBlk, hk] at h
  obtain ⟨_, _, c, t, hc, _, _, _, h7⟩ := h
  obtain ⟨_, h8⟩ := h7 e cs he
  refine ⟨(List.range cs.length).map fun j => (c[e * l.z + j]?).getD undef, ?_, ?_⟩
  · refine All2.of_nth (by simp) fun j d y hd hy => ?_
    obtain ⟨u, hu, hv⟩ := h8 j d hd
    have hj := nth_lt hd
    rw [nth_eq, List.getElem?_map, List.getElem?_range hj] at hy
    simp [hu] at hy
    subst hy; exact hv
  · intro j y hy
    have hj := nth_lt hy
    simp at hj
    rw [nth_eq, List.getElem?_map, List.getElem?_range hj] at hy
    obtain ⟨d, hd⟩ := nth_some hj
    obtain ⟨u, hu, _⟩ := h8 j d hd
    rw [cells_of_block hc, hu]
    simp [hu] at hy
    rw [hy]

theorem rp_elem {w : World} {Z : Nat → Prop} {β : Nat → Option Loc} {cs : List D1} {y : Value} (h : V1 w Z β (.rp cs) y) :
    ∃ k o ys, y = .pointer (some ⟨k, o, none⟩) ∧ Z k ∧ All2 (VC w Z β true) cs ys ∧ Lie w k o ys := by
  cases h with
  | c h =>
    cases h with
    | rp cs k o g hz h2 h3 =>
      refine ⟨k, o, (List.range cs.length).map g, rfl, hz, ?_, ?_⟩
      · refine All2.of_nth (by simp) fun j d y hd hy => ?_
        have hj := nth_lt hd
        rw [nth_eq, List.getElem?_map, List.getElem?_range hj] at hy
        simp at hy; subst hy
        exact ⟨.c (h3 j d hd), fun _ => h3 j d hd⟩
      · intro j y hy
        have hj := nth_lt hy
        simp at hj
        rw [nth_eq, List.getElem?_map, List.getElem?_range hj] at hy
        simp at hy; subst hy
        exact h2 j hj

/-- what an address loads -/
theorem loadK_ok {P : Program} {t : TypeId} {m : List Box} {a : D} {Ω : Type} {K : Eff → Option Ω} {r : Ω} (h : loadK P t m a K = some r) :
    ∃ d rd, K { val := .s d, rd := rd } = some r ∧ ∀ (w : World) (Z : Nat → Prop) (β : Nat → Option Loc) (av : Value), VD w Z β a av → MR w Z β m (fun b => b ∈ rd) →
      ∃ k o v, av = .pointer (some ⟨k, o, none⟩) ∧ (loadVar t ⟨k, o, none⟩).run P w = .ok v w ∧ V0 w Z β d v := by
  unfold loadK at h
  split at h
  · rename_i b e c
    split at h
    · rename_i z fl es hb
      obtain ⟨cs, hcs, hk⟩ := Option.bind_eq_some_iff.1 h
      obtain ⟨d, hd, hp⟩ := partK_ok hk
      obtain ⟨d', hd, hle⟩ := shapeK_ok hd
      refine ⟨d', [b], hd, fun w Z β av hav hm => ?_⟩
      rcases hav with hav | hav
      · cases hav
      · cases hav with
        | c h => cases h
        | ptr _ _ _ l k hl hk =>
          obtain ⟨l', hl', hz, _, hin⟩ := hm.box b _ (by simp) hb
          rw [hl] at hl'; cases hl'
          obtain ⟨ys, hys, hlie⟩ := inBlk_elem hk hin hcs
          obtain ⟨v, hv, hv0⟩ := hp w Z β k (e * l.z) ys hys hlie
          exact ⟨k, e * l.z + c, v, rfl, hv, hle w Z β v hv0⟩
    · cases h
  · rename_i cs
    obtain ⟨d, hd, hp⟩ := partK_ok h
    obtain ⟨d', hd, hle⟩ := shapeK_ok hd
    refine ⟨d', [], hd, fun w Z β av hav _ => ?_⟩
    rcases hav with hav | hav
    · cases hav
    · obtain ⟨k, o, ys, rfl, _, hys, hlie⟩ := rp_elem hav
      obtain ⟨v, hv, hv0⟩ := hp w Z β k o ys hys hlie
      exact ⟨k, o, v, rfl, by simpa using hv, hle w Z β v hv0⟩
  · cases h

theorem ok_load {P : Program} {fr : List D} {m : List Box} {o : Oper} {t : TypeId} {x : Operand} {Ω : Type} {K : Eff → Option Ω} {r : Ω} (h : o.op = .load t x) (hk : loadK P t m (evalD fr x) K = some r) :
    ∃ e, K e = some r ∧ OpOK P o fr m e := by
  obtain ⟨d, rd, hd, hp⟩ := loadK_ok hk
  refine ⟨_, hd, ok_val fun a w Z β ho hm => ?_⟩
  obtain ⟨k, o', v, ha, hr, hv⟩ := hp w Z β _ (ho x (by simp [h, Op.operands])) hm
  exact ⟨v, by simp [execOp, h, ha, Instr.loadAt, Instr.sureAddr, hr], hv⟩

/-! ### addresses -/
theorem ok_field {P : Program} {fr : List D} {m : List Box} {o : Oper} {t : TypeId} {x : Operand} {f : Nat} {Ω : Type} {K : Eff → Option Ω} {r : Ω} (h : o.op = .fieldAddr t x f) (hk : fieldK P t (evalD fr x) f K = some r) :
    ∃ e, K e = some r ∧ OpOK P o fr m e := by
  unfold fieldK at hk
  split at hk
  · rename_i fields hd
    split at hk
    · rename_i fd hf
      split at hk
      · cases hk
      · rename_i ti hi
        split at hk
        · cases hk
        · rename_i hsz
          have hsz' : ti.size ≠ 0 := fun h0 => hsz (by rw [Nat.beq_eq]; exact h0)
          have hf' : fields[f]? = some fd := by rw [← hf, Array.getElem?_toList]
          have run : ∀ (a : Act) (w : World) k o', a.eval x = .pointer (some ⟨k, o', none⟩) → (execOp a.eval o).run P w = .ok (.value (.pointer (some ⟨k, o' + fd.offset, none⟩))) w := by
            intro a w k o' ha
            simp [execOp, h, Instr.fieldAt, run_und hd, hf', ha, Instr.sureAddr, fieldPlace, run_size hi, hsz', add_none]
          split at hk
          · rename_i b e c hx
            refine ⟨_, hk, ok_val fun a w Z β ho _ => ?_⟩
            have hv := ho x (by simp [h, Op.operands])
            rw [hx] at hv
            rcases hv with hv | hv
            · cases hv
            · generalize hy : a.eval x = y at hv
              cases hv with
              | c h => cases h
              | ptr _ _ _ l k hl hk =>
                exact ⟨_, run a w _ _ hy, .inr (by rw [Nat.add_assoc]; exact .ptr b e (c + fd.offset) l k hl hk)⟩
          · rename_i cs hx
            refine ⟨_, hk, ok_val fun a w Z β ho _ => ?_⟩
            have hv := ho x (by simp [h, Op.operands])
            rw [hx] at hv
            rcases hv with hv | hv
            · cases hv
            · generalize hy : a.eval x = y at hv
              cases hv with
              | c h =>
                cases h with
                | rp cs k o g hz h2 h3 =>
                  refine ⟨_, run a w _ _ hy, .inr (.c (.rp _ k (o + fd.offset) (fun j => g (fd.offset + j)) hz ?_ ?_))⟩
                  · intro j hj; rw [Nat.add_assoc]; exact h2 _ (by simp at hj; omega)
                  · intro j d hj; rw [nth_drop] at hj; exact h3 _ _ hj
          · cases hk
    · cases hk
  · cases hk

theorem fr_elem {w : World} {Z : Nat → Prop} {β : Nat → Option Loc} {z : Nat} {es : List (List D1)} {y : Value} (h : V1 w Z β (.fr z es) y) {i : Nat} {cs : List D1} (hi : nth es i = some cs) :
    ∃ k o cap, y = .slice (some ⟨k, o, none⟩) es.length cap ∧ cs.length = z ∧ C1 w Z (.rp cs) (.pointer (some ⟨k, o + i * z, none⟩)) := by
  cases h with
  | c h =>
    cases h with
    | fr0 z a cap => simp [nth] at hi
    | fr z es k o cap g hz hcap h1 h2 h3 =>
      refine ⟨k, o, cap, rfl, h1 i cs hi, .rp cs k _ (g i) hz (fun j hj => ?_) fun j d hd => h3 i cs j d hi hd⟩
      exact h2 i j (nth_lt hi) (by rw [← h1 i cs hi]; exact hj)

theorem ok_index {P : Program} {fr : List D} {m : List Box} {o : Oper} {t : TypeId} {x ix : Operand} {Ω : Type} {K : Eff → Option Ω} {r : Ω} (h : o.op = .indexAddr t x ix) (hk : indexK P m t (evalD fr x) (evalD fr ix) K = some r) :
    ∃ e, K e = some r ∧ OpOK P o fr m e := by
  unfold indexK at hk
  split at hk
  · cases hk
  · rename_i k i hix
    have hi : ∀ (a : Act) (w : World) (Z : Nat → Prop) (β : Nat → Option Loc), (∀ x ∈ o.op.operands, VD w Z β (evalD fr x) (a.eval x)) → a.eval ix = .int k i :=
      fun a w Z β ho => anyInt_eq hix (ho ix (by simp [h, Op.operands]))
    split at hk
    · rename_i len elem b e c hd hx
      split at hk
      · rename_i ti hti
        cases hc : decide (0 ≤ i) && decide (i < (len : Int)) with
        | false => rw [hc] at hk; cases hk
        | true =>
          rw [hc] at hk
          simp only [Bool.and_eq_true, decide_eq_true_eq] at hc
          refine ⟨_, hk, ok_val fun a w Z β ho _ => ?_⟩
          have hv := ho x (by simp [h, Op.operands])
          rw [hx] at hv
          rcases hv with hv | hv
          · cases hv
          · generalize hy : a.eval x = y at hv
            cases hv with
            | c h => cases h
            | ptr _ _ _ l kb hl hkb =>
              refine ⟨_, ?_, .inr (.ptr b e (c + i.toNat * ti.size) l kb hl hkb)⟩
              simp [execOp, h, Instr.indexAt, hy, hi a w Z β ho, asIntOf, run_und hd, Instr.sureAddr, hc, run_size hti, add_none, Nat.add_assoc]
      · cases hk
    · rename_i len elem cs hd hx
      split at hk
      · rename_i ti hti
        cases hc : decide (0 ≤ i) && decide (i < (len : Int)) with
        | false => rw [hc] at hk; cases hk
        | true =>
          rw [hc] at hk
          simp only [Bool.and_eq_true, decide_eq_true_eq] at hc
          refine ⟨_, hk, ok_val fun a w Z β ho _ => ?_⟩
          have hv := ho x (by simp [h, Op.operands])
          rw [hx] at hv
          rcases hv with hv | hv
          · cases hv
          · generalize hy : a.eval x = y at hv
            cases hv with
            | c h' =>
              cases h' with
              | rp cs kb ob g hz h2 h3 =>
                refine ⟨.pointer (some ⟨kb, ob + i.toNat * ti.size, none⟩), ?_, .inr (.c (.rp _ kb _ (fun j => g (i.toNat * ti.size + j)) hz ?_ ?_))⟩
                · simp [execOp, h, Instr.indexAt, hy, hi a w Z β ho, asIntOf, run_und hd, Instr.sureAddr, hc, run_size hti, add_none]
                · intro j hj; rw [Nat.add_assoc]; exact h2 _ (by simp at hj; omega)
                · intro j d hj; rw [nth_drop] at hj; exact h3 _ _ hj
      · cases hk
    · rename_i elem z es hd hx
      split at hk
      · rename_i ti hti
        split at hk
        · rename_i hz
          rw [Nat.beq_eq] at hz
          cases hc : decide (0 ≤ i) with
          | false => rw [hc] at hk; cases hk
          | true =>
            rw [hc] at hk
            simp only [decide_eq_true_eq] at hc
            obtain ⟨cs, hcs, hk⟩ := Option.bind_eq_some_iff.1 hk
            refine ⟨_, hk, ok_val fun a w Z β ho _ => ?_⟩
            have hv := ho x (by simp [h, Op.operands])
            rw [hx] at hv
            rcases hv with hv | hv
            · cases hv
            · obtain ⟨kb, ob, cap, hy, _, hrp⟩ := fr_elem hv hcs
              have hlt : i < (es.length : Int) := by have := nth_lt hcs; omega
              refine ⟨_, ?_, .inr (.c hrp)⟩
              simp [execOp, h, Instr.indexAt, hy, hi a w Z β ho, asIntOf, run_und hd, hc, hlt, run_size hti, add_none, hz]
        · cases hk
      · cases hk
    · rename_i elem b hd hx
      split at hk
      · rename_i z fl es ti hb hti
        split at hk
        · rename_i hz
          rw [Nat.beq_eq] at hz
          cases hc : decide (0 ≤ i) with
          | false => rw [hc] at hk; cases hk
          | true =>
            rw [hc] at hk
            simp only [decide_eq_true_eq] at hc
            obtain ⟨cs, hcs, hk⟩ := Option.bind_eq_some_iff.1 hk
            refine ⟨_, hk, ok_val fun a w Z β ho hm => ?_⟩
            have hv := ho x (by simp [h, Op.operands])
            rw [hx] at hv
            rcases hv with hv | hv
            · cases hv
            · obtain ⟨l', hl', hz', hlen, hin⟩ := hm.box b _ (by simp) hb
              have hlt := nth_lt hcs
              generalize hy : a.eval x = y at hv
              cases hv with
              | c h => cases h
              | fs _ l kb hl hkb =>
                rw [hl] at hl'; obtain rfl := Option.some.inj hl'
                have hlt' : i < (l.len : Int) := by omega
                refine ⟨.pointer (some ⟨kb, i.toNat * l.z + 0, none⟩), ?_, .inr (.ptr b i.toNat 0 l kb hl hkb)⟩
                simp [execOp, h, Instr.indexAt, hy, hi a w Z β ho, asIntOf, run_und hd, hc, hlt', run_size hti, add_none, hz', hz]
              | fs0 _ l hl hkb h0 =>
                rw [hl] at hl'; cases hl'
                omega
        · cases hk
      · cases hk
    · cases hk

theorem ok_nilCheck {P : Program} {fr : List D} {m : List Box} {o : Oper} {x : Operand} {d : D1} (h : o.op = .nilCheck x) (hx : evalD fr x = .s (.one d))
    (hd : (∃ b e c, d = .ptr b e c) ∨ (∃ cs, d = .rp cs) ∨ (∃ f cap, d = .clo f cap) ∨ ∃ f a b, d = .v (.func (.func f) a b)) :
    OpOK P o fr m { val := .s (.one d) } := by
  refine ok_val fun a w Z β ho _ => ?_
  have hv := ho x (by simp [h, Op.operands])
  rw [hx] at hv
  refine ⟨a.eval x, ?_, hv⟩
  rcases hv with hv | hv
  · subst hv; rcases hd with ⟨_, _, _, h⟩ | ⟨_, h⟩ | ⟨_, _, h⟩ | ⟨_, _, _, h⟩ <;> cases h
  · generalize hy : a.eval x = y at hv
    rcases hd with ⟨b, e, c, rfl⟩ | ⟨cs, rfl⟩ | ⟨f, cap, rfl⟩ | ⟨f, fa, fb, rfl⟩
    · cases hv with
      | c h => cases h
      | ptr _ _ _ l k hl hk => simp [execOp, h, hy]
    · cases hv with
      | c h' => cases h' with | rp => simp [execOp, h, hy]
    · cases hv with
      | c h => cases h
      | clo => simp [execOp, h, hy]
    · obtain rfl := hv.v_eq; simp [execOp, h, hy]
end Go.Proofs.Ytceaambiagobbaa.Am
