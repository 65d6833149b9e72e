/- Each operation of the abstract machine tells what the machine's operation does: stores, new blocks, slices. -/
import Derived.Test.YtceaambiagobbaaAmMem
import Derived.Laws.Append
import Derived.Laws.MakeOwn
namespace Go.Proofs.Ytceaambiagobbaa.Am
open Go

/-! ### lists -/
theorem putAll_length : ∀ (wr : List (Nat × Box)) (m : List Box), (putAll m wr).length = m.length
  | [], m => rfl
  | (i, b) :: r, m => by simp [putAll, putAll_length r, upd_length]
theorem nth_putAll_other : ∀ (wr : List (Nat × Box)) (m : List Box) (j : Nat), j ∉ wr.map (·.1) → nth (putAll m wr) j = nth m j
  | [], m, j, _ => rfl
  | (i, b) :: r, m, j, h => by
    simp only [List.map_cons, List.mem_cons, not_or] at h
    simp only [putAll]
    rw [nth_putAll_other r _ j h.2, nth_upd, if_neg (by omega)]
theorem nth_putAll_killed : ∀ (ks : List Nat) (m : List Box) (j : Nat), j < m.length → (j ∈ ks ∨ nth m j = some .dead) → nth (putAll m (killed ks)) j = some .dead
  | [], m, j, _, h => by
    rcases h with h | h
    · cases h
    · exact h
  | i :: r, m, j, hj, h => by
    show nth (putAll (upd m i .dead) (killed r)) j = some .dead
    refine nth_putAll_killed r _ j (by rw [upd_length]; exact hj) ?_
    rw [nth_upd]
    by_cases hij : i = j
    · right; rw [if_pos ⟨hij, by omega⟩]
    · rcases h with h | h
      · left
        rcases List.mem_cons.1 h with h | h
        · exact absurd h.symm hij
        · exact h
      · right; rw [if_neg (by omega)]; exact h
theorem wrIds_killed (d : D) (rd : List Nat) (ks : List Nat) (news : List Box) : wrIds { val := d, rd := rd, wr := killed ks, news := news } = ks := by
  simp [wrIds, killed, List.map_map, Function.comp_def]

theorem setCells_spec : ∀ (ds cs : List D1) (c : Nat) {cs' : List D1}, setCells cs c ds = some cs' →
    cs'.length = cs.length ∧ (ds = [] ∨ c + ds.length ≤ cs.length) ∧ ∀ j, nth cs' j = if c ≤ j ∧ j < c + ds.length then nth ds (j - c) else nth cs j
  | [], cs, c, cs', h => by
    simp [setCells] at h; subst h
    exact ⟨rfl, .inl rfl, fun j => by rw [if_neg (by simp <;> omega)]⟩
  | d :: r, cs, c, cs', h => by
    simp only [setCells] at h
    obtain ⟨x, hx, h⟩ := Option.bind_eq_some_iff.1 h
    have hc := nth_lt hx
    obtain ⟨h1, h2, h3⟩ := setCells_spec r _ (c + 1) h
    rw [upd_length] at h1 h2
    refine ⟨h1, .inr ?_, fun j => ?_⟩
    · rcases h2 with h2 | h2
      · subst h2; simp; omega
      · simp; omega
    · rw [h3 j, nth_upd]
      by_cases hj : c + 1 ≤ j ∧ j < c + 1 + r.length
      · rw [if_pos hj, if_pos ⟨by omega, by simp; omega⟩, show j - c = (j - (c + 1)) + 1 by omega]; rfl
      · rw [if_neg hj]
        by_cases he : c = j
        · subst he; rw [if_pos ⟨rfl, hc⟩, if_pos ⟨Nat.le_refl _, by simp⟩]; simp [nth]
        · rw [if_neg (by omega), if_neg (by simp; omega)]

theorem splice_get {α : Type} (l vs : List α) (o j : Nat) (h : o + vs.length ≤ l.length) : (l.take o ++ vs ++ l.drop (o + vs.length))[j]? = if o ≤ j ∧ j < o + vs.length then vs[j - o]? else l[j]? := by
  rw [List.getElem?_append, List.getElem?_append]
  simp only [List.length_append, List.length_take, List.getElem?_take, List.getElem?_drop]
  have hm : min o l.length = o := by omega
  rw [hm]
  by_cases h1 : j < o
  · rw [if_pos (by omega), if_pos h1, if_pos h1, if_neg (by omega)]
  · by_cases h2 : j < o + vs.length
    · rw [if_pos h2, if_neg h1, if_pos ⟨by omega, h2⟩]
    · rw [if_neg h2, if_neg (by omega), show o + vs.length + (j - (o + vs.length)) = j by omega]

/-! ### a value's cells -/
theorem cells_V0 {w : World} {Z : Nat → Prop} {β : Nat → Option Loc} : ∀ {d : D0} {v : Value}, V0 w Z β d v → isTop d = false → All2 (VC w Z β d.closed) d.cells v.cells.toList
  | .one d, v, h, ht => by
    rcases h with h | h
    · subst h; simp [isTop] at ht
    · have h1 := h.one
      have : v.cells = #[v] := by cases v <;> first | rfl | simp [Value.oneCell'] at h1
      rw [this]
      exact ⟨h.vc, trivial⟩
  | .agg cl ds, v, ⟨ys, e, h⟩, _ => by
    subst e
    simpa [Value.cells, D0.cells, D0.closed] using h
theorem All2.one {w : World} {Z : Nat → Prop} {β : Nat → Option Loc} {cl : Bool} {ds : List D1} {ys : List Value} (h : All2 (VC w Z β cl) ds ys) : ∀ y ∈ ys, y.oneCell' = true := by
  intro y hy
  obtain ⟨i, hi⟩ := List.mem_iff_getElem?.1 hy
  rw [← nth_eq] at hi
  obtain ⟨d, _, hd⟩ := h.nth' hi
  exact hd.1.one

/-! ### a store -/
theorem ok_store {P : Program} {fr : List D} {m : List Box} {o : Oper} {t : TypeId} {x y : Operand} {Ω : Type} {K : Eff → Option Ω} {r : Ω} (h : o.op = .store t x y) (hk : storeK P t m (evalD fr x) (evalD fr y) K = some r) :
    ∃ e, K e = some r ∧ OpOK P o fr m e := by
  unfold storeK at hk
  split at hk
  · rename_i b e c d hx hy
    split at hk
    · rename_i ti z fl es hti hb
      split at hk
      · rename_i hsz
        simp only [Bool.and_eq_true, Bool.not_eq_true', Nat.beq_eq] at hsz
        obtain ⟨hsz, htop⟩ := hsz
        obtain ⟨cs, hcs, hk⟩ := Option.bind_eq_some_iff.1 hk
        obtain ⟨cs', hcs', hk⟩ := Option.bind_eq_some_iff.1 hk
        obtain ⟨hl1, hl2, hget⟩ := setCells_spec _ _ _ hcs'
        refine ⟨_, hk, ?_⟩
        intro a w Z β next Q hZ ho hm hnew hn
        have hvx := ho x (by simp [h, Op.operands])
        have hvy := ho y (by simp [h, Op.operands])
        rw [hx] at hvx
        rw [hy] at hvy
        rcases hvx with hvx | hvx
        · cases hvx
        generalize hax : a.eval x = ax at hvx
        cases hvx with
        | c h => cases h
        | ptr _ _ _ l k hl hkb =>
        obtain ⟨l', hl', hz, hlen, hin⟩ := hm.box b _ (.inl (by simp)) hb
        rw [hl] at hl'; obtain rfl := Option.some.inj hl'
        have hin' := hin
        simp only [InBlk, hkb] at hin
        obtain ⟨hnz, hkw, cur, tt, hcur, hcsz, hcap, hmax, hel⟩ := hin
        have hcells := cells_V0 hvy htop
        generalize hys : (a.eval y).cells.toList = ys at hcells
        have hyl := hcells.length
        obtain ⟨hcl, hcd⟩ := hel e cs hcs
        have helt := nth_lt hcs
        have hroom : e * l.z + cs.length ≤ cur.size := by
          rw [hcl, hcsz, ← Nat.succ_mul]; exact Nat.mul_le_mul_right _ (by omega)
        -- the world behind
        have hrun : ∃ cur', cur'.size = cur.size ∧ (∀ j, cur'[j]? = if e * l.z + c ≤ j ∧ j < e * l.z + c + ys.length then ys[j - (e * l.z + c)]? else cur[j]?) ∧
            (storeCells ⟨k, e * l.z + c, none⟩ ys 0).run P w = .ok () (w.setRow k cur') := by
          rcases hl2 with hl2 | hl2
          · have hy0 : ys = [] := List.eq_nil_of_length_eq_zero (by rw [← hyl, hl2]; rfl)
            subst hy0
            exact ⟨cur, rfl, fun j => by rw [if_neg (by simp <;> omega)], by rw [setRow_self w k cur tt (0, 0) hcur]; rfl⟩
          · have hfit : e * l.z + c + 0 + ys.length ≤ cur.size := by omega
            refine ⟨_, ?_, ?_, run_storeCells_at P k (e * l.z + c) tt ys 0 cur w hcur hfit hcells.one⟩
            · simp; omega
            · intro j
              simp only [Nat.add_zero, List.getElem?_toArray]
              rw [splice_get _ _ _ _ (by simp; omega)]
              simp
        obtain ⟨cur', hcsz', hcget, hrun⟩ := hrun
        have hw : (execOp a.eval o).run P w = .ok .skip (w.setRow k cur') := by
          have hsize : (a.eval y).cells.size = ti.size := by rw [← hsz, hyl, ← hys]; simp
          simp [execOp, h, Instr.storeAt, hax, Instr.sureAddr, storeVar, run_size hti, hsize, hys, hrun]
        refine wp_skip_op hw (hn undef _ Z β ?_)
        have hext : Ext w (w.setRow k cur') (fun k' => k' = k) :=
          ⟨by simp [World.setRow], fun k' _ hne => setRow_other w k k' cur' hne, rfl, rfl, rfl⟩
        have hzz : ∀ k', Z k' → k' < w.heap.size ∧ ¬ k' = k ∧ Z k' := fun k' hz' => ⟨hZ k' hz', fun e => hnz (e ▸ hz'), hz'⟩
        have hkb' : wrBlk β m { val := dtop, rd := [b], wr := [(b, .own z (fl && d.closed) (upd es e cs'))] } k := ⟨b, l, by simp [wrIds], ⟨_, _, _, hb⟩, hl, hkb⟩
        have hids : ∀ b', (b' ∈ wrIds { val := dtop, rd := [b], wr := [(b, .own z (fl && d.closed) (upd es e cs'))] } ∨ newId m { val := dtop, rd := [b], wr := [(b, .own z (fl && d.closed) (upd es e cs'))] } b') → b' = b := by
          intro b' hb'
          rcases hb' with hb' | hb'
          · simpa [wrIds] using hb'
          · simp [newId] at hb'; omega
        refine ⟨VD_top _, hext.weak fun k' _ e => e ▸ hkb', Sub.refl _, fun _ hb' _ => hb', ?_, fun _ h => h, fun _ h => .inl h, ⟨?_, ?_⟩, fun b' hb' _ _ => by rw [hids b' (.inl hb')]; exact ⟨_, _, _, hb⟩⟩
        · intro b' _ _ hb'; simp [newId] at hb'; omega
        · intro b' x' hb' hx'
          obtain rfl := hids b' hb'
          have hblt := nth_lt hb
          have : nth (Eff.mem { val := dtop, rd := [b'], wr := [(b', .own z (fl && d.closed) (upd es e cs'))] } m) b' = some (.own z (fl && d.closed) (upd es e cs')) := by
            simp only [Eff.mem, putAll, List.append_nil]
            rw [nth_upd, if_pos ⟨rfl, hblt⟩]
          rw [this] at hx'; cases hx'
          refine ⟨l, hl, hz, by rw [upd_length]; exact hlen, ?_⟩
          simp only [InBlk, hkb]
          refine ⟨hnz, by simpa [World.setRow] using hkw, cur', tt, setRow_heap w k cur cur' tt _ hcur, by rw [hcsz', hcsz], by rw [upd_length]; exact hcap, hmax, ?_⟩
          intro e' cs'' he'
          rw [nth_upd] at he'
          by_cases hee : e = e'
          · subst hee
            rw [if_pos ⟨rfl, helt⟩] at he'; cases he'
            refine ⟨by rw [hl1, hcl], fun j dj hj => ?_⟩
            have hjlt := nth_lt hj
            rw [hl1] at hjlt
            rw [hget j] at hj
            rw [hcget]
            by_cases hin2 : c ≤ j ∧ j < c + d.cells.length
            · rw [if_pos hin2] at hj
              obtain ⟨u, hu, hvu⟩ := hcells.nth hj
              rw [if_pos ⟨by omega, by omega⟩]
              rw [nth_eq] at hu
              refine ⟨u, by rw [← hu]; congr 1; omega, ?_⟩
              exact (hvu.weak (by simp)).mono hext hzz (Sub.refl _)
            · rw [if_neg hin2] at hj
              obtain ⟨u, hu, hvu⟩ := hcd j dj hj
              rw [if_neg (by omega)]
              exact ⟨u, hu, (hvu.weak (by simp; exact fun h _ => h)).mono hext hzz (Sub.refl _)⟩
          · rw [if_neg (by omega)] at he'
            obtain ⟨h1, h2⟩ := hel e' cs'' he'
            refine ⟨h1, fun j dj hj => ?_⟩
            obtain ⟨u, hu, hvu⟩ := h2 j dj hj
            have hjlt := nth_lt hj
            have he'lt := nth_lt he'
            have hne : ¬ (e * l.z + c ≤ e' * l.z + j ∧ e' * l.z + j < e * l.z + c + ys.length) := by
              rintro ⟨q1, q2⟩
              have hcz : c + ys.length ≤ l.z := by
                rcases hl2 with hl2 | hl2
                · have : ys.length = 0 := by rw [← hyl, hl2]; rfl
                  omega
                · omega
              rcases Nat.lt_or_gt_of_ne hee with hlt | hlt
              · have : (e + 1) * l.z ≤ e' * l.z := Nat.mul_le_mul_right _ hlt
                rw [Nat.succ_mul] at this; omega
              · have : (e' + 1) * l.z ≤ e * l.z := Nat.mul_le_mul_right _ hlt
                rw [Nat.succ_mul] at this; omega
            rw [hcget, if_neg hne]
            exact ⟨u, hu, (hvu.weak (by simp; exact fun h _ => h)).mono hext hzz (Sub.refl _)⟩
        · intro b1 b2 _ _ _ h1 h2 _ _ _ _ _ _
          rw [hids b1 h1, hids b2 h2]
      · cases hk
    · cases hk
  · cases hk

/-! ### a new block -/
def killZ (Z : Nat → Prop) (β : Nat → Option Loc) (ks : List Nat) (k : Nat) : Prop := Z k ∨ ∃ b l, b ∈ ks ∧ β b = some l ∧ l.blk = some k
def withLoc (β : Nat → Option Loc) (n : Nat) (l : Loc) (b : Nat) : Option Loc := if b = n then some l else β b

theorem Sub.withLoc {β : Nat → Option Loc} {n : Nat} {l : Loc} (h : β n = none) : Sub β (withLoc β n l) := by
  intro b l' hb
  unfold Am.withLoc
  split
  · rename_i e; subst e; rw [h] at hb; cases hb
  · exact hb

/-- a new box in a new block; boxes of 'ks' die, and nobody writes their blocks any more -/
theorem post_block {w w' : World} {Z : Nat → Prop} {β : Nat → Option Loc} {m : List Box} {d : D1} {rd ks : List Nat} {v : Value} {c : Array Value} {t : TypeId} {z cap : Nat} {fl : Bool} {es : List (List D1)}
    (_hZ : Zok w Z) (hheap : w'.heap = w.heap.push (.cells c t (0, 0))) (htape : w'.tape = w.tape) (hos : w'.os = w.os) (hout : w'.output = w.output)
    (hks : ∀ b ∈ ks, live m b) (hkz : ∀ k, killZ Z β ks k → k < w.heap.size) (hnone : β m.length = none)
    (hc : c.size = cap * z) (hcap : es.length ≤ cap) (hmax : cap ≤ maxLen)
    (hel : ∀ e cs, nth es e = some cs → cs.length = z ∧ ∀ j dj, nth cs j = some dj → ∃ y, c[e * z + j]? = some y ∧ VC w (killZ Z β ks) β fl dj y)
    (hv : ∀ l, l = (⟨some w.heap.size, z, cap, es.length⟩ : Loc) → V1 w' (killZ Z β ks) (withLoc β m.length l) d v) :
    ∃ Z' β', Post w Z β m { val := .s (.one d), rd := rd, wr := killed ks, news := [.own z fl es] } v w' Z' β' := by
  let l : Loc := ⟨some w.heap.size, z, cap, es.length⟩
  have hold : ∀ k, k < w.heap.size → w'.heap[k]? = w.heap[k]? := by
    intro k hk; rw [hheap, Array.getElem?_push, if_neg (Nat.ne_of_lt hk)]
  have hnew : w'.heap[w.heap.size]? = some (.cells c t (0, 0)) := by rw [hheap]; simp
  have hsize : w'.heap.size = w.heap.size + 1 := by rw [hheap]; simp
  have hext : Ext w w' (fun _ => False) := ⟨by omega, fun k hk _ => hold k hk, htape, hos, hout⟩
  have hsub := Sub.withLoc (l := l) hnone
  have hids : ∀ b, (b ∈ wrIds { val := .s (.one d), rd := rd, wr := killed ks, news := [.own z fl es] } ∨ newId m { val := .s (.one d), rd := rd, wr := killed ks, news := [.own z fl es] } b) → b ∈ ks ∨ b = m.length := by
    intro b hb
    rcases hb with hb | hb
    · rw [wrIds_killed] at hb; exact .inl hb
    · simp [newId] at hb; exact .inr (by omega)
  have hmem1 : nth (Eff.mem { val := .s (.one d), rd := rd, wr := killed ks, news := [.own z fl es] } m) m.length = some (.own z fl es) := by
    simp only [Eff.mem]
    rw [nth_append, putAll_length, if_neg (by omega)]; simp [nth]
  have hmem2 : ∀ b ∈ ks, nth (Eff.mem { val := .s (.one d), rd := rd, wr := killed ks, news := [.own z fl es] } m) b = some .dead := by
    intro b hb
    simp only [Eff.mem]
    have hlt : b < m.length := by obtain ⟨z', fl', es', he⟩ := hks b hb; exact nth_lt he
    rw [nth_append, putAll_length, if_pos hlt]
    exact nth_putAll_killed ks m b hlt (.inl hb)
  refine ⟨killZ Z β ks, withLoc β m.length l, .inr (hv l rfl), hext.weak (fun _ _ h => h.elim), hsub, ?_, ?_, fun _ h => .inl h, ?_, ⟨?_, ?_⟩, fun b hb _ _ => hks b (by rw [wrIds_killed] at hb; exact hb)⟩
  · intro b hb hne
    unfold withLoc
    rw [if_neg]; exact hb
    intro e; exact hne (by simp [newId]; omega)
  · intro b l' k hb hl' hk
    simp [newId] at hb
    obtain rfl : b = m.length := by omega
    simp [withLoc] at hl'
    subst hl'
    obtain rfl : w.heap.size = k := Option.some.inj hk
    exact .inl ⟨Nat.le_refl _, by omega⟩
  · rintro k (hk | ⟨b, l', hb, hl', hk⟩)
    · exact .inl hk
    · exact .inr (.inr ⟨b, l', by rw [wrIds_killed]; exact hb, hks b hb, hl', hk⟩)
  · intro b x hb hx
    rcases hids b hb with hb | hb
    · rw [hmem2 b hb] at hx; cases hx; trivial
    · subst hb
      rw [hmem1] at hx; cases hx
      refine ⟨l, by simp [withLoc], rfl, rfl, ?_⟩
      simp only [InBlk, l]
      refine ⟨?_, by omega, c, t, hnew, hc, hcap, hmax, ?_⟩
      · intro hk; have := hkz _ hk; omega
      · intro e cs he
        obtain ⟨h1, h2⟩ := hel e cs he
        refine ⟨h1, fun j dj hj => ?_⟩
        obtain ⟨y, hy, hvy⟩ := h2 j dj hj
        exact ⟨y, hy, hvy.mono hext (fun k hk => ⟨hkz k hk, fun h => h, hk⟩) hsub⟩
  · intro b b' l1 l2 k hb hb' hlive hlive' _ _ _ _
    rcases hids b hb with hb | hb
    · obtain ⟨z', fl', es', he⟩ := hlive; rw [hmem2 b hb] at he; cases he
    · rcases hids b' hb' with hb' | hb'
      · obtain ⟨z', fl', es', he⟩ := hlive'; rw [hmem2 b' hb'] at he; cases he
      · rw [hb, hb']

theorem killZ_nil {Z : Nat → Prop} {β : Nat → Option Loc} {k : Nat} (h : killZ Z β [] k) : Z k := by
  rcases h with h | ⟨b, _, hb, _⟩
  · exact h
  · cases hb
theorem VC.nil {w : World} {Z : Nat → Prop} {β : Nat → Option Loc} {cl : Bool} {d : D1} {y : Value} (hZ : Zok w Z) (h : VC w Z β cl d y) : VC w (killZ Z β []) β cl d y :=
  h.mono (Ext.refl w (fun _ => False)) (fun k hk => ⟨hZ k hk, fun h => h, .inl hk⟩) (Sub.refl _)

/-- one element of cells, as a box of one -/
theorem elem_one {w : World} {Z : Nat → Prop} {β : Nat → Option Loc} {cl : Bool} {ds : List D1} {ys : Array Value} (h : All2 (VC w Z β cl) ds ys.toList) :
    ∀ e cs, nth [ds] e = some cs → cs.length = ds.length ∧ ∀ j dj, nth cs j = some dj → ∃ y, ys[e * ds.length + j]? = some y ∧ VC w Z β cl dj y := by
  intro e cs he
  cases e with
  | succ e => simp [nth] at he
  | zero =>
    simp [nth] at he; subst he
    refine ⟨rfl, fun j dj hj => ?_⟩
    obtain ⟨y, hy, hv⟩ := h.nth hj
    rw [nth_eq] at hy
    exact ⟨y, by simpa using hy, hv⟩

theorem all2_consts {w : World} {Z : Nat → Prop} {β : Nat → Option Loc} : ∀ {l : List Value}, l.all (·.oneCell') = true → All2 (VC w Z β true) (l.map D1.v) l
  | [], _ => trivial
  | x :: r, h => by
    simp only [List.all_cons, Bool.and_eq_true] at h
    exact ⟨⟨.c (.v x h.1), fun _ => .v x h.1⟩, all2_consts h.2⟩

theorem ok_alloc {P : Program} {fr : List D} {m : List Box} {o : Oper} {t : TypeId} {ti : TypeInfo} {z : Value} (h : o.op = .alloc t) (hti : P.info? t = some ti) (hz : ti.zero = some z) (h1 : z.cells.toList.all (·.oneCell') = true) :
    OpOK P o fr m { val := .s (.one (.ptr m.length 0 0)), news := [.own z.cells.size true [z.cells.toList.map .v]] } := by
  intro a w Z β next Q hZ ho _ hnone hn
  have hr : (execOp a.eval o).run P w = .ok (.value (.pointer (some ⟨w.heap.size, 0, none⟩))) { w with heap := w.heap.push (.cells z.cells t) } := by
    simp [execOp, h, Instr.alloc, zeroValue, typeInfo, hti, hz, newVar, newRow]
  obtain ⟨Z', β', hp⟩ := post_block (w' := { w with heap := w.heap.push (.cells z.cells t) }) (rd := []) (ks := []) (d := .ptr m.length 0 0) (v := .pointer (some ⟨w.heap.size, 0, none⟩)) (c := z.cells) (t := t) (z := z.cells.size) (cap := 1) (fl := true) (es := [z.cells.toList.map .v]) (m := m) (β := β)
    hZ rfl rfl rfl rfl (by simp) (fun k hk => hZ k (killZ_nil hk)) (hnone _ (by simp [newId])) (by simp) (by simp) (by simp [maxLen])
    (by
      have := elem_one (w := w) (Z := killZ Z β []) (β := β) (all2_consts h1)
      simpa using this)
    (fun l hl => by
      have := V1.ptr (w := { w with heap := w.heap.push (.cells z.cells t) }) (Z := killZ Z β []) (β := withLoc β m.length l) m.length 0 0 l w.heap.size (by simp [withLoc]) (by rw [hl])
      simpa using this)
  exact wp_value hr (hn _ _ Z' β' hp)

theorem ok_box {P : Program} {fr : List D} {m : List Box} {o : Oper} {t : TypeId} {x : Operand} {d : D0} (h : o.op = .box t x) (hx : evalD fr x = .s d) (ht : isTop d = false) :
    OpOK P o fr m { val := .s (.one (.ptr m.length 0 0)), news := [.own d.cells.length d.closed [d.cells]] } := by
  intro a w Z β next Q hZ ho _ hnone hn
  have hv := ho x (by simp [h, Op.operands])
  rw [hx] at hv
  have hc := cells_V0 hv ht
  have hr : (execOp a.eval o).run P w = .ok (.value (.pointer (some ⟨w.heap.size, 0, none⟩))) { w with heap := w.heap.push (.cells (a.eval x).cells t) } := by
    simp [execOp, h, Instr.box, newVar, newRow]
  obtain ⟨Z', β', hp⟩ := post_block (w' := { w with heap := w.heap.push (.cells (a.eval x).cells t) }) (rd := []) (ks := []) (d := .ptr m.length 0 0) (v := .pointer (some ⟨w.heap.size, 0, none⟩)) (c := (a.eval x).cells) (t := t) (z := d.cells.length) (cap := 1) (fl := d.closed) (es := [d.cells]) (m := m) (β := β)
    hZ rfl rfl rfl rfl (by simp) (fun k hk => hZ k (killZ_nil hk)) (hnone _ (by simp [newId])) (by have := hc.length; simp at this; omega) (by simp) (by simp [maxLen])
    (elem_one (hc.mono fun _ _ h => h.nil hZ))
    (fun l hl => by
      have := V1.ptr (w := { w with heap := w.heap.push (.cells (a.eval x).cells t) }) (Z := killZ Z β []) (β := withLoc β m.length l) m.length 0 0 l w.heap.size (by simp [withLoc]) (by rw [hl])
      simpa using this)
  exact wp_value hr (hn _ _ Z' β' hp)
end Go.Proofs.Ytceaambiagobbaa.Am
