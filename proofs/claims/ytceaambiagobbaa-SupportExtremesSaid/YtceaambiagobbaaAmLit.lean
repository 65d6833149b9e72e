/- Each operation of the abstract machine tells what the machine's operation does: make, literals, slicing, parts of values, closures. -/
import Derived.Test.YtceaambiagobbaaAmApp
namespace Go.Proofs.Ytceaambiagobbaa.Am
open Go

theorem madeCells_get (z : Array Value) (n size : Nat) (hz : z.size = size) (i j : Nat) (hj : j < size) (hi : i < n) : (madeCells z (n * size))[i * size + j]? = z[j]? := by
  have hlt : i * size + j < n * size := by
    have : (i + 1) * size ≤ n * size := Nat.mul_le_mul_right _ hi
    rw [Nat.succ_mul] at this; omega
  have e : (i * size + j) % z.size = j := by rw [hz, Nat.mul_comm, Nat.mul_add_mod, Nat.mod_eq_of_lt hj]
  unfold madeCells
  rw [Array.getElem?_map, Array.getElem?_range, if_pos hlt]
  simp only [Option.map_some, e]
  rw [Array.getElem?_eq_getElem (by omega), getElem!_pos z j (by omega)]

theorem nth_replicate {α : Type} (n i : Nat) (x : α) : nth (List.replicate n x) i = if i < n then some x else none := by
  rw [nth_eq, List.getElem?_replicate]

theorem ok_make {P : Program} {fr : List D} {m : List Box} {o : Oper} {t : TypeId} {x y : Operand} {Ω : Type} {K : Eff → Option Ω} {r : Ω} (h : o.op = .makeSlice t x y) (hk : makeK P t (evalD fr x) (evalD fr y) m.length K = some r) :
    ∃ e, K e = some r ∧ OpOK P o fr m e := by
  unfold makeK at hk
  split at hk
  · rename_i elem kn n kc c hd hx hy
    split at hk
    · cases hk
    rename_i ti hti
    split at hk
    · rename_i z hz
      split at hk
      rotate_left
      · cases hk
      rename_i hcond
      simp only [Bool.and_eq_true, Nat.blt_eq, Nat.beq_eq] at hcond
      obtain ⟨⟨⟨hsz, hpos⟩, hbpos⟩, h1⟩ := hcond
      cases hc : decide (0 ≤ n) && decide (n ≤ c) && decide (c ≤ n) && decide (n.toNat * ti.bytes ≤ 140737488355328) with
      | false => rw [hc] at hk; cases hk
      | true =>
      rw [hc] at hk
      simp only [Bool.and_eq_true, decide_eq_true_eq] at hc
      obtain ⟨⟨⟨c1, c2⟩, c3⟩, c4⟩ := hc
      obtain rfl : c = n := by omega
      refine ⟨_, hk, ?_⟩
      intro a w Z β next Q hZ ho _ hnone hn
      have hops : o.op.operands = #[x, y] := by simp [h, Op.operands]
      have ex := anyInt_eq hx (ho x (by simp [hops]))
      have ey := anyInt_eq hy (ho y (by simp [hops]))
      have hle : c.toNat ≤ c.toNat * ti.bytes := Nat.le_mul_of_pos_right _ hbpos
      have hb : (ti.bytes : Int) * c ≤ 281474976710656 := by
        have : ((c.toNat * ti.bytes : Nat) : Int) = c * ti.bytes := by rw [Int.natCast_mul, Int.toNat_of_nonneg c1]
        rw [Int.mul_comm, ← this]; omega
      have hr := run_make (P := P) w t elem ti z hd hti hz kn kc c c c1 (Int.le_refl _) hb (by omega)
      have hexec : (execOp a.eval o).run P w = .ok (.value (.slice (some ⟨w.heap.size, 0, none⟩) c.toNat c.toNat)) (w.alloc (.cells (madeCells z.cells (c.toNat * ti.size)) elem)) := by
        simp [execOp, h, ex, ey, hr]
      obtain ⟨Z', β', hp⟩ := post_block (w := w) (w' := w.alloc (.cells (madeCells z.cells (c.toNat * ti.size)) elem)) (Z := Z) (β := β) (m := m) (d := .fs m.length) (rd := []) (ks := []) (v := .slice (some ⟨w.heap.size, 0, none⟩) c.toNat c.toNat)
        (c := madeCells z.cells (c.toNat * ti.size)) (t := elem) (z := ti.size) (cap := c.toNat) (fl := true) (es := List.replicate c.toNat (z.cells.toList.map .v))
        hZ rfl rfl rfl rfl (by simp) (fun k hk => hZ k (killZ_nil hk)) (hnone _ (by simp [newId])) (size_madeCells _ _) (by simp) (by simp only [maxLen]; omega)
        (by
          intro e cs he
          rw [nth_replicate] at he
          split at he
          · rename_i hlt
            cases he
            refine ⟨by simp [hsz], fun j d hj => ?_⟩
            have hjl := nth_lt hj
            simp at hjl
            rw [madeCells_get z.cells c.toNat ti.size hsz.symm e j (by omega) hlt]
            have := (all2_consts (w := w) (Z := killZ Z β []) (β := β) (l := z.cells.toList) h1).nth hj
            obtain ⟨u, hu, hv⟩ := this
            rw [nth_eq] at hu
            exact ⟨u, by simpa using hu, hv⟩
          · cases he)
        (fun l hl => by
          have := V1.fs (w := w.alloc (.cells (madeCells z.cells (c.toNat * ti.size)) elem)) (Z := killZ Z β []) (β := withLoc β m.length l) m.length l w.heap.size (by simp [withLoc]) (by rw [hl])
          rw [hl] at this ⊢
          simpa using this)
      exact wp_value hexec (hn _ _ Z' β' hp)
    · cases hk
  · cases hk

/-! ### literals -/
theorem mapM_run {α β : Type} {P : Program} (f : α → Sem β) (g : α → β) (w : World) : ∀ (l : List α), (∀ x ∈ l, (f x).run P w = .ok (g x) w) → (l.mapM f).run P w = .ok (l.map g) w
  | [], _ => by simp
  | x :: r, h => by
    have ih := mapM_run f g w r fun y hy => h y (by simp [hy])
    simp [h x (by simp), ih]

theorem closed_weak {ps : List (Nat × D0)} : (ps.all fun p => p.2.closed) = true → (ps.all fun p => p.2.closed) = true := id

theorem fill_congr (p q : Nat → Option (Nat × Nat)) (h : ∀ i, p i = q i) (cs : Array Value) (l : List (Nat × Value)) : Instr.fill p cs l = Instr.fill q cs l := by
  have : p = q := funext h
  rw [this]

theorem run_map' {α β : Type} {P : Program} (f : α → β) (s : Sem α) (w : World) : (f <$> s).run P w = (s.run P w).andThen fun a w' => .ok (f a) w' := by
  simp
theorem places_run {P : Program} {fields : Array Field} (hinf : ∀ f ∈ fields.toList, (P.info? f.type).isSome = true) (w : World) :
    (fields.mapM (fun f => do pure (f.offset, ← sizeOf f.type) : Field → Sem (Nat × Nat))).run P w = .ok (fields.map fun f => (f.offset, ((P.info? f.type).map (·.size)).getD 0)) w := by
  have := mapM_run (P := P) (fun f => do pure (f.offset, ← sizeOf f.type) : Field → Sem (Nat × Nat)) (fun f => (f.offset, ((P.info? f.type).map (·.size)).getD 0)) w fields.toList (fun f hf => by
    obtain ⟨i, hi⟩ := Option.isSome_iff_exists.1 (hinf f hf)
    simp [run_size hi, hi])
  obtain ⟨l⟩ := fields
  rw [List.mapM_toArray, run_map', this]
  simp only [Result.andThen_ok]
  congr 1
  simp

theorem ok_build {P : Program} {fr : List D} {m : List Box} {o : Oper} {t : TypeId} {parts : Array (Nat × Operand)} {Ω : Type} {K : Eff → Option Ω} {r : Ω} (h : o.op = .build t parts) (hk : buildK P fr t parts.toList K = some r) :
    ∃ e, K e = some r ∧ OpOK P o fr m e := by
  unfold buildK at hk
  split at hk
  · rename_i ti ps hti hps
    split at hk
    · cases hk
    rename_i z hz
    split at hk
    · cases hk
    rename_i h1
    have h1' : z.cells.toList.all (·.oneCell') = true := by simpa using h1
    have hpa : ∀ (a : Act) (w : World) (Z : Nat → Prop) (β : Nat → Option Loc), (∀ x ∈ o.op.operands, VD w Z β (evalD fr x) (a.eval x)) →
        All2 (fun p q => p.1 = q.1 ∧ V0 w Z β p.2 q.2) ps (parts.map fun p => (p.1, a.eval p.2)).toList := by
      intro a w Z β ho
      have := parts_ok hps w Z β a fun x hx => ho x (by simp only [h, Op.operands]; simpa using hx)
      simpa using this
    split at hk
    · rename_i fields hd
      split at hk
      · rename_i hinf
        obtain ⟨cells, hc, hk⟩ := Option.bind_eq_some_iff.1 hk
        refine ⟨_, hk, ok_val fun a w Z β ho _ => ?_⟩
        have hinf' : ∀ f ∈ fields.toList, (P.info? f.type).isSome = true := fun f hf => by simpa using List.all_eq_true.1 hinf f hf
        obtain ⟨cs', hf, _, hv⟩ := fillD_ok hc (cs := z.cells) (cl := ps.all fun p => p.2.closed) (hpa a w Z β ho) ((all2_consts h1').mono fun _ _ k => k.weak (by simp)) id
        refine ⟨.agg cs', ?_, cs'.toList, by simp, hv⟩
        have hplaces : (fields.mapM (fun f => do pure (f.offset, ← sizeOf f.type) : Field → Sem (Nat × Nat))).run P w = .ok (fields.map fun f => (f.offset, ((P.info? f.type).map (·.size)).getD 0)) w := places_run hinf' w
        have hplace : ∀ i, ((fields.map fun f => (f.offset, ((P.info? f.type).map (·.size)).getD 0))[i]? : Option (Nat × Nat)) = placeS P fields.toList i := by
          intro i
          unfold placeS
          rw [Array.getElem?_map, nth_eq, Array.getElem?_toList]
          cases hfi : fields[i]? with
          | none => rfl
          | some f =>
            obtain ⟨i', hi'⟩ := Option.isSome_iff_exists.1 (hinf' f (by
              have := Array.mem_of_getElem? hfi
              simpa using this))
            simp [hi']
        rw [← fill_congr _ _ hplace] at hf
        have hzr : (zeroValue t).run P w = .ok z w := by simp [zeroValue, typeInfo, hti, hz]
        simp only [execOp, h, Instr.build, Sem.run_bind, hzr, Sem.run_pure, Result.andThen_ok, run_und hd, hplaces]
        rw [hf]
        rfl
      · cases hk
    · rename_i n elem hd
      split at hk
      · rename_i te hte
        obtain ⟨cells, hc, hk⟩ := Option.bind_eq_some_iff.1 hk
        refine ⟨_, hk, ok_val fun a w Z β ho _ => ?_⟩
        obtain ⟨cs', hf, _, hv⟩ := fillD_ok hc (cs := z.cells) (cl := ps.all fun p => p.2.closed) (hpa a w Z β ho) ((all2_consts h1').mono fun _ _ k => k.weak (by simp)) id
        refine ⟨.agg cs', ?_, cs'.toList, by simp, hv⟩
        have hzr : (zeroValue t).run P w = .ok z w := by simp [zeroValue, typeInfo, hti, hz]
        simp only [execOp, h, Instr.build, Sem.run_bind, hzr, Sem.run_pure, Result.andThen_ok, run_und hd, run_size hte]
        rw [hf]
        rfl
      · cases hk
    · cases hk
  · cases hk

theorem flatten_replicate_get {α : Type} (l : List α) (size : Nat) (hl : l.length = size) : ∀ (n i j : Nat), i < n → j < size → ((List.replicate n l).flatten)[i * size + j]? = l[j]?
  | 0, i, j, hi, _ => by omega
  | n + 1, 0, j, _, hj => by
    simp only [List.replicate_succ, List.flatten_cons, Nat.zero_mul, Nat.zero_add]
    rw [List.getElem?_append_left (by omega)]
  | n + 1, i + 1, j, hi, hj => by
    simp only [List.replicate_succ, List.flatten_cons]
    rw [List.getElem?_append_right (by rw [hl, Nat.succ_mul]; omega), hl, show (i + 1) * size + j - size = i * size + j by rw [Nat.succ_mul]; omega]
    exact flatten_replicate_get l size hl n i j (by omega) hj
theorem flatten_replicate_length {α : Type} (l : List α) (n : Nat) : ((List.replicate n l).flatten).length = n * l.length := by
  induction n with
  | zero => simp
  | succ n ih => simp [List.replicate_succ, Nat.succ_mul]; omega

theorem made_all2 {w : World} {Z : Nat → Prop} {β : Nat → Option Loc} {cl : Bool} {z : Array Value} {size n : Nat} (hz : z.size = size) (hpos : 0 < size) (h1 : z.toList.all (·.oneCell') = true) :
    All2 (VC w Z β cl) (List.replicate n (z.toList.map D1.v)).flatten (madeCells z (n * size)).toList := by
  have hlen : (List.replicate n (z.toList.map D1.v)).flatten.length = n * size := by rw [flatten_replicate_length]; simp [hz]
  refine All2.of_nth (by rw [hlen]; simp [size_madeCells]) fun i d y hd hy => ?_
  have hi := nth_lt hd
  rw [hlen] at hi
  have hq : i / size < n := Nat.div_lt_of_lt_mul (by rw [Nat.mul_comm]; exact hi)
  have hm : i % size < size := Nat.mod_lt _ hpos
  have e : i = i / size * size + i % size := by rw [Nat.mul_comm, Nat.div_add_mod]
  rw [nth_eq, e, flatten_replicate_get _ size (by simp [hz]) n _ _ hq hm] at hd
  rw [nth_eq, Array.getElem?_toList, e, madeCells_get z n size hz _ _ hm hq] at hy
  have := (all2_consts (w := w) (Z := Z) (β := β) h1).nth (i := i % size) (x := d) (by rw [nth_eq]; exact hd)
  obtain ⟨u, hu, hv⟩ := this
  rw [nth_eq, Array.getElem?_toList, hy] at hu
  cases hu
  exact hv.weak (by simp)

theorem range_elems {len size : Nat} {cells : List D1} {e : Nat} {cs : List D1} (he : nth ((List.range len).map fun i => (cells.drop (i * size)).take size) e = some cs) :
    e < len ∧ cs = (cells.drop (e * size)).take size := by
  have hl := nth_lt he
  simp at hl
  rw [nth_eq, List.getElem?_map, List.getElem?_range hl] at he
  simp at he
  exact ⟨hl, he.symm⟩

theorem ok_buildSlice {P : Program} {fr : List D} {m : List Box} {o : Oper} {t : TypeId} {len : Nat} {parts : Array (Nat × Operand)} {Ω : Type} {K : Eff → Option Ω} {r : Ω} (h : o.op = .buildSlice t len parts)
    (hk : buildSliceK P fr m m.length t len parts.toList K = some r) : ∃ e, K e = some r ∧ OpOK P o fr m e := by
  unfold buildSliceK at hk
  split at hk
  · rename_i elem hd
    split at hk
    · rename_i ti ps hti hps
      split at hk
      · cases hk
      rename_i z hz
      obtain ⟨⟨ps', ks⟩, hfz, hk⟩ := Option.bind_eq_some_iff.1 hk
      dsimp only at hk
      split at hk
      · rename_i hcond
        simp only [Bool.and_eq_true, Nat.beq_eq, Nat.blt_eq, Nat.ble_eq] at hcond
        obtain ⟨⟨⟨hsz, hpos⟩, hsmall⟩, h1⟩ := hcond
        obtain ⟨cells, hc, hk⟩ := Option.bind_eq_some_iff.1 hk
        obtain ⟨hflat, hfv⟩ := frzParts_ok hfz
        refine ⟨_, hk, ?_⟩
        intro a w Z β next Q hZ ho hm hnone hn
        have hpa : All2 (fun p q => p.1 = q.1 ∧ V0 w Z β p.2 q.2) ps (parts.map fun p => (p.1, a.eval p.2)).toList := by
          have := parts_ok hps w Z β a fun x hx => ho x (by simp only [h, Op.operands]; simpa using hx)
          simpa using this
        have hbx : Boxes w Z β m ks := fun b hb x hx => hm.box b x (.inl hb) hx
        have hkill : ∀ i ∈ ks, ∃ z fl es, nth m i = some (.own z fl es) := fun i hi => by obtain ⟨z, es, he⟩ := hflat i hi; exact ⟨z, true, es, he⟩
        have hkz := killZ_lt hZ hbx hkill
        have hpa' := hfv w Z (killZ Z β ks) β _ (Wide.kill hZ β ks) hbx InZ.kill hpa
        obtain ⟨cs', hf, hcs, hv⟩ := fillD_ok hc (cs := madeCells z.cells (len * ti.size)) (cl := ps'.all fun p => p.2.closed) hpa' (made_all2 hsz.symm hpos h1) id
        have hclen := hv.length
        simp only [Array.length_toList, hcs, size_madeCells] at hclen
        have hexec : (execOp a.eval o).run P w = .ok (.value (.slice (some ⟨w.heap.size, 0, none⟩) len len)) { w with heap := w.heap.push (.cells cs' elem) } := by
          have hbig : ¬ (len * ti.size > 2 ^ 24) := by omega
          have hzr : (zeroValue elem).run P w = .ok z w := by simp [zeroValue, typeInfo, hti, hz]
          simp only [execOp, h, Instr.buildSlice, Sem.run_bind, run_und hd, Result.andThen_ok, run_size hti, if_neg hbig, Sem.run_pure]
          split
          · rename_i h0
            have e0 : ((Array.range (len * ti.size)).map ((#[] : Array Value)[· % (#[] : Array Value).size]!)) = madeCells z.cells (len * ti.size) := by simp [h0, madeCells]
            simp only [Sem.run_bind, Sem.run_pure, Result.andThen_ok]
            rw [e0, hf]
            simp [newRow]
          · have e0 : ((Array.range (len * ti.size)).map (z.cells[· % z.cells.size]!)) = madeCells z.cells (len * ti.size) := rfl
            simp only [Sem.run_bind, Sem.run_pure, hzr, Result.andThen_ok]
            rw [e0, hf]
            simp [newRow]
        obtain ⟨Z', β', hp⟩ := post_block (w := w) (w' := { w with heap := w.heap.push (.cells cs' elem) }) (Z := Z) (β := β) (m := m) (d := .fs m.length) (rd := ks) (ks := ks) (v := .slice (some ⟨w.heap.size, 0, none⟩) len len)
          (c := cs') (t := elem) (z := ti.size) (cap := len) (fl := ps'.all fun p => p.2.closed) (es := (List.range len).map fun i => (cells.drop (i * ti.size)).take ti.size)
          hZ rfl rfl rfl rfl hflat.live hkz (hnone _ (by simp [newId])) (by rw [hcs, size_madeCells]) (by simp) (by
            simp only [maxLen]
            have : len ≤ len * ti.size := Nat.le_mul_of_pos_right _ hpos
            omega)
          (by
            intro e cs he
            obtain ⟨hlt, rfl⟩ := range_elems he
            have hroom : e * ti.size + ti.size ≤ len * ti.size := by rw [← Nat.succ_mul]; exact Nat.mul_le_mul_right _ hlt
            refine ⟨by simp; omega, fun j d hj => ?_⟩
            have := nth_take_lt hj
            rw [nth_drop] at this
            obtain ⟨u, hu, hvu⟩ := hv.nth this
            rw [nth_eq] at hu
            exact ⟨u, by simpa using hu, hvu⟩)
          (fun l hl => by
            have := V1.fs (w := { w with heap := w.heap.push (.cells cs' elem) }) (Z := killZ Z β ks) (β := withLoc β m.length l) m.length l w.heap.size (by simp [withLoc]) (by rw [hl])
            rw [hl] at this ⊢
            simpa using this)
        exact wp_value hexec (hn _ _ Z' β' hp)
      · cases hk
    · cases hk
  · cases hk

/-! ### parts of values -/
theorem part_ok {β' : Type} {P : Program} {ro cl : Bool} {t : TypeId} {cs : List D1} {off : Nat} {K : D0 → Option β'} {r : β'} (h : partK P ro cl t cs off K = some r) :
    ∃ d, K d = some r ∧ ∀ (w : World) (Z : Nat → Prop) (β : Nat → Option Loc) (ys : List Value), All2 (VC w Z β cl) cs ys → ∃ v, (part t ys.toArray off).run P w = .ok v w ∧ V0 w Z β d v := by
  unfold partK at h
  split at h
  · rename_i dt i hd hi
    split at h
    · rename_i ha
      cases hb : Nat.beq ((cs.drop off).take i.size).length i.size with
      | false => rw [hb] at h; cases h
      | true =>
        rw [hb] at h
        rw [Nat.beq_eq] at hb
        refine ⟨_, h, fun w Z β ys hv => ?_⟩
        have hv' := (hv.drop off).take i.size
        refine ⟨.agg ((ys.drop off).take i.size).toArray, ?_, _, rfl, hv'⟩
        simp only [part, Sem.run_bind, isAgg_run hd, Result.andThen_ok, ha, if_true, run_size hi, Sem.run_pure]
        congr 2
        apply Array.ext'
        simp [List.take_drop]
    · rename_i ha
      obtain ⟨d, hn, hk⟩ := Option.bind_eq_some_iff.1 h
      obtain ⟨d', hk', hv'⟩ := cellK_ok hk
      refine ⟨_, hk', fun w Z β ys hv => ?_⟩
      obtain ⟨y, hy, hvy⟩ := hv.nth hn
      refine ⟨y, ?_, .inr (hv' w Z β y hvy.1)⟩
      have ha' : isAggD dt = false := by simpa using ha
      rw [nth_eq] at hy
      simp [part, isAgg_run hd, ha', hy]
  · cases h

theorem ok_fieldV {P : Program} {fr : List D} {m : List Box} {o : Oper} {t : TypeId} {x : Operand} {f : Nat} {fields : Array Field} {cl : Bool} {cs : List D1} {fd : Field} {Ω : Type} {K : Eff → Option Ω} {r : Ω} (h : o.op = .field t x f)
    (hd : desc P t = some (.struct fields)) (hx : evalD fr x = .s (.agg cl cs)) (hf : fields.toList[f]? = some fd) (hk : partK P cl cl fd.type cs fd.offset (fun d => shapeK P cl fd.type d fun d => K { val := .s d }) = some r) :
    ∃ e, K e = some r ∧ OpOK P o fr m e := by
  obtain ⟨d, hk', hp⟩ := part_ok hk
  obtain ⟨d', hk', hle⟩ := shapeK_ok hk'
  refine ⟨_, hk', ok_val fun a w Z β ho _ => ?_⟩
  have hv := ho x (by simp [h, Op.operands])
  rw [hx] at hv
  obtain ⟨ys, he, ha⟩ := hv
  obtain ⟨v, hr, hv⟩ := hp w Z β ys ha
  refine ⟨v, ?_, hle w Z β v hv⟩
  rw [Array.getElem?_toList] at hf
  simp [execOp, h, Instr.field, run_und hd, hf, he, asAgg, hr]

theorem ok_indexV {P : Program} {fr : List D} {m : List Box} {o : Oper} {t : TypeId} {x ix : Operand} {len : Nat} {elem : TypeId} {cl : Bool} {cs : List D1} {k : IntKind} {i : Int} {te : TypeInfo} {Ω : Type} {K : Eff → Option Ω} {r : Ω} (h : o.op = .index t x ix)
    (hd : desc P t = some (.array len elem)) (hx : evalD fr x = .s (.agg cl cs)) (hix : anyInt? (evalD fr ix) = some (k, i)) (hin : (decide (0 ≤ i) && decide (i < (len : Int))) = true) (hte : P.info? elem = some te)
    (hk : partK P cl cl elem cs (i.toNat * te.size) (fun d => shapeK P cl elem d fun d => K { val := .s d }) = some r) : ∃ e, K e = some r ∧ OpOK P o fr m e := by
  obtain ⟨d, hk', hp⟩ := part_ok hk
  obtain ⟨d', hk', hle⟩ := shapeK_ok hk'
  simp only [Bool.and_eq_true, decide_eq_true_eq] at hin
  refine ⟨_, hk', ok_val fun a w Z β ho _ => ?_⟩
  have hv := ho x (by simp [h, Op.operands])
  have hi := anyInt_eq hix (ho ix (by simp [h, Op.operands]))
  rw [hx] at hv
  obtain ⟨ys, he, ha⟩ := hv
  obtain ⟨v, hr, hv⟩ := hp w Z β ys ha
  refine ⟨v, ?_, hle w Z β v hv⟩
  simp [execOp, h, Instr.index, run_und hd, hi, asIntOf, he, hin, run_size hte, hr]

theorem ok_indexS {P : Program} {fr : List D} {m : List Box} {o : Oper} {t : TypeId} {x ix : Operand} {s : ByteArray} {k : IntKind} {i : Int} {c : UInt8} (h : o.op = .index t x ix)
    (hd : desc P t = some .string) (hx : evalD fr x = .s (.one (.v (.string s)))) (hix : anyInt? (evalD fr ix) = some (k, i)) (h0 : 0 ≤ i) (hc : s.data.toList[i.toNat]? = some c) :
    OpOK P o fr m { val := dv (.int .u8 c.toNat) } := by
  refine ok_val fun a w Z β ho _ => ⟨_, ?_, VD_dv rfl⟩
  have hv : a.eval x = .string s := VD.val_eq (d := evalD fr x) (by rw [hx]; rfl) (ho x (by simp [h, Op.operands]))
  have hi := anyInt_eq hix (ho ix (by simp [h, Op.operands]))
  have hs : s[i.toNat]? = some c := by
    rw [Array.getElem?_toList] at hc
    exact hc
  simp [execOp, h, Instr.index, run_und hd, hi, asIntOf, hv, h0, hs]

theorem mapOne {fr : List D} : ∀ {xs : List Operand} {cs : List D1}, (xs.map (evalD fr)).mapM (fun d => match d with | .s (.one d) => some d | _ => none) = some cs → cs.length = xs.length ∧ ∀ i x d, nth xs i = some x → nth cs i = some d → evalD fr x = .s (.one d)
  | [], cs, h => by simp at h; subst h; exact ⟨rfl, fun i x d hx => by simp [nth] at hx⟩
  | x :: r, cs, h => by
    simp only [List.map_cons, List.mapM_cons] at h
    obtain ⟨d, h1, h⟩ := Option.bind_eq_some_iff.1 h
    obtain ⟨ds, h2, h⟩ := Option.bind_eq_some_iff.1 h
    cases h
    obtain ⟨hl, hv⟩ := mapOne h2
    refine ⟨by simp [hl], fun i y e hy he => ?_⟩
    cases i with
    | zero =>
      simp [nth] at hy he
      subst hy; subst he
      split at h1
      · rename_i d' hx; cases h1; exact hx
      · cases h1
    | succ i => simp only [nth] at hy he; exact hv i y e hy he

theorem ok_makeFunc {P : Program} {fr : List D} {m : List Box} {o : Oper} {f : FuncId} {first captured : Array Operand} {cs : List D1} (h : o.op = .makeFunc (.func f) first captured) (hf : first.isEmpty = true)
    (hc : (captured.toList.map (evalD fr)).mapM (fun d => match d with | .s (.one d) => some d | _ => none) = some cs) (ht : cs.all (fun d => match d with | .top => false | _ => true) = true) :
    OpOK P o fr m { val := .s (.one (.clo f cs)) } := by
  refine ok_val fun a w Z β ho _ => ?_
  obtain ⟨hl, hv⟩ := mapOne hc
  have hf' : first = #[] := by simpa using hf
  subst hf'
  refine ⟨.func (.func f) #[] (captured.map a.eval), by simp [execOp, h, Instr.makeFunc], .inr ?_⟩
  have : captured.map a.eval = (captured.toList.map a.eval).toArray := by apply Array.ext'; simp
  rw [this]
  refine .clo f cs _ (by simp [hl]) fun i d y hd hy => ?_
  rw [nth_map] at hy
  cases hx : nth captured.toList i with
  | none => rw [hx] at hy; cases hy
  | some x =>
    rw [hx] at hy
    simp at hy; subst hy
    have hmem : x ∈ captured := by
      rw [nth_eq] at hx
      have := List.mem_of_getElem? hx
      simpa using this
    have hvx := ho x (by simp [h, Op.operands, hmem])
    rw [hv i x d hx hd] at hvx
    rcases hvx with e | e
    · subst e
      have := List.all_eq_true.1 ht _ (List.mem_of_getElem? (by rw [← nth_eq]; exact hd))
      cases this
    · exact e
end Go.Proofs.Ytceaambiagobbaa.Am
