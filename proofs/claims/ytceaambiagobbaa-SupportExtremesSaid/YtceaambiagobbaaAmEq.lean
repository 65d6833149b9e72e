/- Equality of aggregates, cell by cell. -/
import Derived.Test.YtceaambiagobbaaAmLit
import Derived.Laws.StructEq
import Derived.ChangeKeysEq
namespace Go.Proofs.Ytceaambiagobbaa.Am
open Go

def mkV (agg : Bool) (us : List Value) : Value := if agg then .agg us.toArray else us.headD undef

theorem part_mk {P : Program} {t : TypeId} {dt : TypeDesc} {i : TypeInfo} (hd : desc P t = some dt) (hi : P.info? t = some i) (us : List Value) (off : Nat) (h : isAggD dt = false → ∃ u, (us.drop off).take i.size = [u]) (w : World) :
    (part t us.toArray off).run P w = .ok (mkV (isAggT P t) ((us.drop off).take i.size)) w := by
  have ht : isAggT P t = isAggD dt := by simp [isAggT, hd]
  rw [ht]
  cases ha : isAggD dt with
  | true =>
    simp only [part, Sem.run_bind, isAgg_run hd, Result.andThen_ok, ha, if_true, run_size hi, Sem.run_pure, mkV]
    congr 2
    apply Array.ext'
    simp [List.take_drop]
  | false =>
    obtain ⟨u, hu⟩ := h ha
    have hg : us[off]? = some u := by
      have h0 : ((us.drop off).take i.size)[0]? = some u := by rw [hu]; rfl
      rw [List.getElem?_take] at h0
      split at h0
      · rw [List.getElem?_drop, Nat.add_zero] at h0; exact h0
      · cases h0
    simp [part, isAgg_run hd, ha, hg, mkV, hu]

theorem eqAll_cons {x : Option Bool} {r : List (Option Bool)} {b : Bool} (h : eqAll (x :: r) = some b) : ∃ p q, x = some p ∧ eqAll r = some q ∧ b = (p && q) := by
  simp only [eqAll] at h
  split at h
  · rename_i p q hq
    cases h; exact ⟨p, q, rfl, hq, rfl⟩
  · cases h
theorem upTo_range : ∀ n, upTo n = List.range n
  | 0 => rfl
  | n + 1 => by rw [upTo, upTo_range n, List.range_succ]

theorem single_of {w : World} {Z : Nat → Prop} {β : Nat → Option Loc} {cl : Bool} {x : Value} {us : List Value} (h : All2 (VC w Z β cl) [.v x] us) : us = [x] := by
  match us, h with
  | [u], h => rw [h.1.1.v_eq]
  | [], h => exact h.elim
  | _ :: _ :: _, h => exact h.2.elim

/-- where a cell's type is plain, its part is one cell -/
theorem eqT_single {P : Program} {n : Nat} {t : TypeId} {dt : TypeDesc} (hd : desc P t = some dt) (ha : isAggD dt = false) {xs ys : List D1} {b : Bool} (h : eqT P n t xs ys = some b) : (∃ x, xs = [.v x]) ∧ ∃ y, ys = [.v y] := by
  cases n with
  | zero => cases h
  | succ n =>
    unfold eqT at h
    rw [hd] at h
    cases dt
    all_goals first
      | exact absurd (show true = false from ha) (by decide)
      | (dsimp only at h; split at h <;> first | exact ⟨⟨_, rfl⟩, _, rfl⟩ | cases h)
      | (dsimp only at h; cases h; done)

theorem eqT_info {P : Program} {t : TypeId} {dt : TypeDesc} (hd : desc P t = some dt) : ∃ i, P.info? t = some i := by
  unfold desc Program.underlying at hd
  cases h : P.info? t with
  | none => rw [h] at hd; cases hd
  | some i => exact ⟨i, rfl⟩

theorem eqT_desc {P : Program} {n : Nat} {t : TypeId} {xs ys : List D1} {b : Bool} (h : eqT P n t xs ys = some b) : ∃ dt, desc P t = some dt := by
  cases n with
  | zero => cases h
  | succ n =>
    cases hd : desc P t with
    | some dt => exact ⟨dt, rfl⟩
    | none => unfold eqT at h; rw [hd] at h; cases h

theorem eqT_ok {P : Program} {w : World} {Z : Nat → Prop} {β : Nat → Option Loc} {cl cl' : Bool} (d : Nat) : ∀ (n : Nat) {t : TypeId} {xs ys : List D1} {b : Bool}, eqT P n t xs ys = some b →
    ∀ {us vs : List Value}, All2 (VC w Z β cl) xs us → All2 (VC w Z β cl') ys vs → (Op.equalIn (d + n) t (mkV (isAggT P t) us) (mkV (isAggT P t) vs)).run P w = .ok b w
  | 0, t, xs, ys, b, h, us, vs, hu, hv => by cases h
  | n + 1, t, xs, ys, b, h, us, vs, hu, hv => by
    have step : ∀ {e : TypeId} {off size : Nat} {p : Bool}, (∀ i, P.info? e = some i → i.size = size) → eqT P n e ((xs.drop off).take size) ((ys.drop off).take size) = some p →
        ∃ u v, (part e us.toArray off).run P w = .ok u w ∧ (part e vs.toArray off).run P w = .ok v w ∧ (Op.equalIn (d + n) e u v).run P w = .ok p w := by
      intro e off size p hs he
      obtain ⟨dt, hd⟩ := eqT_desc he
      obtain ⟨i, hi⟩ := eqT_info hd
      have hsz := hs i hi
      have hu' := (hu.drop off).take size
      have hv' := (hv.drop off).take size
      refine ⟨_, _, part_mk hd hi us off (fun ha => ?_) w, part_mk hd hi vs off (fun ha => ?_) w, ?_⟩
      · obtain ⟨⟨x, hx⟩, _⟩ := eqT_single hd ha he
        rw [hsz]; rw [hx] at hu'
        exact ⟨x, single_of hu'⟩
      · obtain ⟨_, ⟨y, hy⟩⟩ := eqT_single hd ha he
        rw [hsz]; rw [hy] at hv'
        exact ⟨y, single_of hv'⟩
      · rw [hsz]; exact eqT_ok d n he hu' hv'
    unfold eqT at h
    split at h
    · rename_i k hd
      split at h
      · rename_i a x c y
        split at h
        · rename_i hac
          cases h; subst hac
          rw [single_of hu, single_of hv]
          simp only [isAggT, hd, isAggD, mkV, Bool.false_eq_true, if_false, List.headD_cons]
          exact run_equalIn_int w (d + n) t a k x y hd
        · cases h
      · cases h
    · rename_i hd
      split at h
      · rename_i x y
        cases h
        rw [single_of hu, single_of hv]
        simp only [isAggT, hd, isAggD, mkV, Bool.false_eq_true, if_false, List.headD_cons]
        exact run_equalIn_bool w (d + n) t x y hd
      · cases h
    · rename_i hd
      split at h
      · rename_i x y
        cases h
        rw [single_of hu, single_of hv]
        simp only [isAggT, hd, isAggD, mkV, Bool.false_eq_true, if_false, List.headD_cons]
        rw [beq_toListBytes]
        exact run_equalIn_string w (d + n) t x y hd
      · cases h
    · rename_i len e hd
      split at h
      · rename_i te hte
        have hA : isAggT P t = true := by simp [isAggT, hd, isAggD]
        rw [hA]
        simp only [mkV, if_true]
        show (Op.equalIn (d + n + 1) t (.agg us.toArray) (.agg vs.toArray)).run P w = .ok b w
        rw [run_equalIn_array w (d + n) _ _ hd hte, ← upTo_range]
        have hc : P.cellsOf e = te.size := by simp [Program.cellsOf, hte]
        rw [hc]
        clear hA
        generalize upTo len = is at h
        induction is generalizing b with
        | nil => simp [eqAll] at h; subst h; simp [Op.eqItems]
        | cons j is ih =>
          obtain ⟨p, q, hp, hq, rfl⟩ := eqAll_cons h
          obtain ⟨u, v, h1, h2, h3⟩ := step (fun i hi => by rw [hte] at hi; cases hi; rfl) hp
          simp only [Op.eqItems, Sem.run_bind, h1, h2, h3, Result.andThen_ok]
          cases p with
          | false => simp
          | true => simpa using ih _ hq
      · cases h
    · rename_i fs hd
      split at h
      · cases h
      · rename_i hno
        simp only [Bool.or_eq_true, not_or, Bool.not_eq_true] at hno
        have hA : isAggT P t = true := by simp [isAggT, hd, isAggD]
        rw [hA]
        simp only [mkV, if_true]
        show (Op.equalIn (d + n + 1) t (.agg us.toArray) (.agg vs.toArray)).run P w = .ok b w
        have hfs : P.fieldsOf t = fs := by
          have : P.underlying t = some (.struct fs) := hd
          simp [Program.fieldsOf, this]
        have hd' : P.underlying t = some (.struct (P.fieldsOf t)) := by rw [hfs]; exact hd
        rw [run_equalIn_struct w (d + n) t _ _ hd' hno.1, hfs]
        have hnames := hno.2
        clear hA hfs hd'
        generalize fs.toList = l at h hnames
        induction l generalizing b with
        | nil => simp [eqAll] at h; subst h; simp [Op.eqFields]
        | cons f l ih =>
          rw [List.map_cons] at h
          obtain ⟨p, q, hp, hq, rfl⟩ := eqAll_cons h
          obtain ⟨u, v, h1, h2, h3⟩ := step (fun i hi => by simp [sizeT, hi]) hp
          simp only [List.any_cons, Bool.or_eq_false_iff] at hnames
          have hn : f.name ≠ "_" := by simpa using hnames.1
          simp only [Op.eqFields, hn, ne_eq, not_false_eq_true, if_true, Sem.run_bind, h1, h2, h3, Result.andThen_ok]
          cases p with
          | false => simp
          | true => simpa using ih _ hq hnames.2
    · cases h

theorem ok_eql {P : Program} {fr : List D} {m : List Box} {o : Oper} {op : BinOp} {t t' : TypeId} {x y : Operand} {cl cl' : Bool} {xs ys : List D1} {b : Bool} (h : o.op = .binOp op t x y t') (ho : op = .eql ∨ op = .neq)
    (hx : evalD fr x = .s (.agg cl xs)) (hy : evalD fr y = .s (.agg cl' ys)) (hg : ¬ P.eqGuardType P.depth t = true) (hb : eqT P 20 t xs ys = some b) (hA : isAggT P t = true) :
    OpOK P o fr m { val := dv (.bool (if op = .eql then b else !b)) } := by
  refine ok_val fun a w Z β hoo _ => ⟨_, ?_, VD_dv rfl⟩
  have vx := hoo x (by simp [h, Op.operands])
  have vy := hoo y (by simp [h, Op.operands])
  rw [hx] at vx; rw [hy] at vy
  obtain ⟨us, ex, hu⟩ := vx
  obtain ⟨vs, ey, hv⟩ := vy
  have hr := eqT_ok 9980 20 hb hu hv
  rw [hA] at hr
  simp only [mkV, if_true] at hr
  have hg' : P.eqGuardType P.depth t = false := by simpa using hg
  rcases ho with rfl | rfl
  · simp [execOp, h, ex, ey, run_eqGuard_agg w _ _ _ _ _ _ hg', run_eql_struct, hr]
  · simp [execOp, h, ex, ey, run_eqGuard_agg w _ _ _ _ _ _ hg', run_neq_struct, hr]
end Go.Proofs.Ytceaambiagobbaa.Am
