/- Each operation of the abstract machine tells what the machine's operation does: those without memory. -/
import Derived.Test.YtceaambiagobbaaAmCell
namespace Go.Proofs.Ytceaambiagobbaa.Am
open Go

abbrev wrIds (e : Eff) : List Nat := e.wr.map (·.1)
/-- the boxes that an operation looks at or writes -/
def foot (e : Eff) (b : Nat) : Prop := b ∈ e.rd ∨ b ∈ wrIds e
def newId (m : List Box) (e : Eff) (b : Nat) : Prop := m.length ≤ b ∧ b < m.length + e.news.length
def wrBlk (β : Nat → Option Loc) (m : List Box) (e : Eff) (k : Nat) : Prop := ∃ b l, b ∈ wrIds e ∧ live m b ∧ β b = some l ∧ l.blk = some k

/-- what holds behind an operation -/
structure Post (w : World) (Z : Nat → Prop) (β : Nat → Option Loc) (m : List Box) (e : Eff) (v : Value) (w' : World) (Z' : Nat → Prop) (β' : Nat → Option Loc) : Prop where
  val : VD w' Z' β' e.val v
  ext : Ext w w' (wrBlk β m e)
  sub : Sub β β'
  none' : ∀ b, β b = none → ¬ newId m e b → β' b = none
  news : ∀ b l k, newId m e b → β' b = some l → l.blk = some k → (w.heap.size ≤ k ∧ k < w'.heap.size) ∨ wrBlk β m e k
  zsub : ∀ k, Z k → Z' k
  znew : ∀ k, Z' k → Z k ∨ (w.heap.size ≤ k ∧ k < w'.heap.size) ∨ wrBlk β m e k
  mem : MR w' Z' β' (e.mem m) (fun b => b ∈ wrIds e ∨ newId m e b)
  lives : ∀ b, b ∈ wrIds e → ¬ newId m e b → live (e.mem m) b → live m b

def Zok (w : World) (Z : Nat → Prop) : Prop := ∀ k, Z k → k < w.heap.size

/-- the machine's operation does as the effect says, wherever the boxes that it looks at lie as they say -/
def OpOK (P : Program) (o : Oper) (fr : List D) (m : List Box) (e : Eff) : Prop :=
  ∀ (a : Act) (w : World) (Z : Nat → Prop) (β : Nat → Option Loc) (next : Act → World → Prop) (Q : Exit → Act → World → Prop),
    Zok w Z → (∀ x ∈ o.op.operands, VD w Z β (evalD fr x) (a.eval x)) → MR w Z β m (foot e) → (∀ b, newId m e b → β b = none) →
    (∀ v w' Z' β', Post w Z β m e v w' Z' β' → next (a.put o.dst v) w') → o.wp P a w next Q

theorem wp_value {P : Program} {o : Oper} {a : Act} {w w' : World} {next : Act → World → Prop} {Q : Exit → Act → World → Prop} {v : Value}
    (h : (execOp a.eval o).run P w = .ok (.value v) w') (k : next (a.put o.dst v) w') : o.wp P a w next Q := by
  unfold Oper.wp; rw [h]; exact k
theorem wp_skip_op {P : Program} {o : Oper} {a : Act} {w w' : World} {next : Act → World → Prop} {Q : Exit → Act → World → Prop}
    (h : (execOp a.eval o).run P w = .ok .skip w') (k : next (a.put o.dst undef) w') : o.wp P a w next Q := by
  unfold Oper.wp; rw [h]; exact k

theorem wrBlk_nil {β : Nat → Option Loc} {m : List Box} {d : D} {rd : List Nat} {news : List Box} {k : Nat} (h : wrBlk β m { val := d, rd := rd, news := news } k) : False := by
  obtain ⟨b, l, hb, _⟩ := h; simp [wrIds] at hb

/-- nothing becomes of memory -/
theorem post_same {w : World} {Z : Nat → Prop} {β : Nat → Option Loc} {m : List Box} {d : D} {rd : List Nat} {v : Value} (h : VD w Z β d v) :
    Post w Z β m { val := d, rd := rd } v w Z β := by
  have hno : ∀ b, ¬ (b ∈ wrIds { val := d, rd := rd } ∨ newId m { val := d, rd := rd } b) := by
    intro b hb
    rcases hb with hb | hb
    · simp [wrIds] at hb
    · simp [newId] at hb; omega
  exact ⟨h, Ext.refl _ _, Sub.refl _, fun b hb _ => hb, fun b _ _ hb => absurd (.inr hb) (hno b), fun _ h => h, fun _ h => .inl h,
    ⟨fun b _ hb => absurd hb (hno b), fun b _ _ _ _ hb => absurd hb (hno b)⟩, fun b hb => absurd (.inl hb) (hno b)⟩

theorem V0_ofVal0 {w : World} {Z : Nat → Prop} {β : Nat → Option Loc} (x : Value) : V0 w Z β (ofVal0 x) x := by
  unfold ofVal0
  split
  · rename_i cs
    split
    · rename_i h
      refine ⟨cs.toList, by simp, ?_⟩
      have h' : ∀ y ∈ cs.toList, y.oneCell' = true := fun y hy => List.all_eq_true.1 h y hy
      apply All2.map_left
      have : ∀ (l : List Value), (∀ y ∈ l, y.oneCell' = true) → All2 (fun c y => VC w Z β true (.v c) y) l l := by
        intro l
        induction l with
        | nil => intro _; trivial
        | cons x r ih => exact fun hl => ⟨⟨.c (.v x (hl x (by simp))), fun _ => .v x (hl x (by simp))⟩, ih fun y hy => hl y (by simp [hy])⟩
      exact this _ h'
    · exact .inl rfl
  · exact .inl rfl
  · rename_i h1 h2
    refine .inr (.c (.v x ?_))
    cases x <;> first | rfl | exact absurd rfl (h1 _) | exact absurd rfl (h2 _)
theorem VD_ofVal {w : World} {Z : Nat → Prop} {β : Nat → Option Loc} (x : Value) : VD w Z β (ofVal x) x := by
  unfold ofVal
  split
  · rename_i vs
    refine ⟨vs.toList, by simp, ?_⟩
    apply All2.map_left
    have : ∀ (l : List Value), All2 (fun c y => V0 w Z β (ofVal0 c) y) l l := by
      intro l
      induction l with
      | nil => trivial
      | cons x r ih => exact ⟨V0_ofVal0 x, ih⟩
    exact this _
  · exact V0_ofVal0 x
theorem VD_dv {w : World} {Z : Nat → Prop} {β : Nat → Option Loc} {x : Value} (h : x.oneCell' = true) : VD w Z β (dv x) x := .inr (.c (.v x h))
theorem VD_undef {w : World} {Z : Nat → Prop} {β : Nat → Option Loc} : VD w Z β dundef undef := ⟨[], rfl, trivial⟩
theorem VD_top {w : World} {Z : Nat → Prop} {β : Nat → Option Loc} (x : Value) : VD w Z β dtop x := .inl rfl

/-- operands tell what the machine's operands are, where the temporaries do -/
theorem VD_evalD {w : World} {Z : Nat → Prop} {β : Nat → Option Loc} {fr : List D} {a : Act} (h : ∀ t, VD w Z β (tmpOf fr t) (a.tmps.getD t undef)) (x : Operand) : VD w Z β (evalD fr x) (a.eval x) := by
  cases x with
  | tmp t => exact h t
  | const v => exact VD_ofVal v
  | global g => exact VD_top _
  | func f => exact VD_dv rfl

theorem runPure_ok {α : Type} {P : Program} : ∀ {s : Sem α} {x : α}, runPure P s = some x → ∀ w, s.run P w = .ok x w := by
  intro s
  induction s with
  | pure a => intro x h w; simp only [runPure, Option.some.injEq] at h; subst h; rfl
  | program k ih => intro x h w; exact ih P h w
  | mark m k ih => intro x h w; exact ih h w
  | _ => intro x h; simp [runPure] at h

theorem pureRun_ok {P : Program} {fr : List D} {o : Oper} {x : Value} (hs : ∀ cs b, o.op ≠ .select cs b) (h : pureRun P fr o = some x) {a : Act} {w : World} {Z : Nat → Prop} {β : Nat → Option Loc}
    (ho : ∀ x ∈ o.op.operands, VD w Z β (evalD fr x) (a.eval x)) : (execOp a.eval o).run P w = .ok (.value x) w := by
  unfold pureRun at h
  split at h
  · rename_i hall
    split at h
    · rename_i y hy
      cases h
      have he : execOp a.eval o = execOp (fun x => ((evalD fr x).val?).getD undef) o := by
        refine execOp_congr o hs fun z hz => ?_
        have hz' : ((evalD fr z).val?).isSome = true := by
          have := List.all_eq_true.1 hall z (by simpa using hz)
          exact this
        cases hv : (evalD fr z).val? with
        | none => rw [hv] at hz'; cases hz'
        | some u => simp [VD.val_eq hv (ho z hz)]
      rw [he]; exact runPure_ok hy w
    · cases h
  · cases h
theorem ok_pureRun {P : Program} {fr : List D} {m : List Box} {o : Oper} {x : Value} (hs : ∀ cs b, o.op ≠ .select cs b) (h : pureRun P fr o = some x) : OpOK P o fr m { val := ofVal x } :=
  fun _ w Z β _ _ _ ho _ _ hn => wp_value (pureRun_ok hs h ho) (hn x w Z β (post_same (VD_ofVal x)))

/-- a value that the machine tells without memory -/
theorem ok_val {P : Program} {fr : List D} {m : List Box} {o : Oper} {d : D} {rd : List Nat}
    (h : ∀ (a : Act) (w : World) (Z : Nat → Prop) (β : Nat → Option Loc), (∀ x ∈ o.op.operands, VD w Z β (evalD fr x) (a.eval x)) → MR w Z β m (fun b => b ∈ rd) → ∃ v, (execOp a.eval o).run P w = .ok (.value v) w ∧ VD w Z β d v) :
    OpOK P o fr m { val := d, rd := rd } := by
  intro a w Z β next Q _ ho hm _ hn
  obtain ⟨v, hr, hv⟩ := h a w Z β ho ⟨fun b x hb => hm.box b x (.inl hb), fun b b' l l' k hb hb' => hm.inj b b' l l' k (.inl hb) (.inl hb')⟩
  exact wp_value hr (hn v w Z β (post_same hv))

theorem boolOf_eq {w : World} {Z : Nat → Prop} {β : Nat → Option Loc} {d : D} {t : Bool} {y : Value} (h : boolOf? d = some t) (k : VD w Z β d y) : y = .bool t := by
  unfold boolOf? at h
  split at h
  · cases h; exact VD.val_eq (by rfl) k
  · cases h
theorem anyInt_eq {w : World} {Z : Nat → Prop} {β : Nat → Option Loc} {d : D} {k : IntKind} {n : Int} {y : Value} (h : anyInt? d = some (k, n)) (hv : VD w Z β d y) : y = .int k n := by
  unfold anyInt? at h
  split at h
  · cases h; exact VD.val_eq (by rfl) hv
  · cases h

theorem ok_move {P : Program} {fr : List D} {m : List Box} {o : Oper} {x : Operand} (h : o.op = .move x ∨ o.op = .assign x) : OpOK P o fr m { val := evalD fr x } := by
  refine ok_val fun a w Z β ho _ => ⟨a.eval x, ?_, ho x ?_⟩
  · rcases h with h | h <;> simp [execOp, h]
  · rcases h with h | h <;> simp [h, Op.operands]
theorem ok_pick {P : Program} {fr : List D} {m : List Box} {o : Oper} {c x y : Operand} {t : Bool} (h : o.op = .pick c x y) (ht : boolOf? (evalD fr c) = some t) :
    OpOK P o fr m { val := if t then evalD fr x else evalD fr y } := by
  refine ok_val fun a w Z β ho _ => ⟨if t then a.eval x else a.eval y, ?_, ?_⟩
  · have hc := boolOf_eq ht (ho c (by simp [h, Op.operands]))
    simp [execOp, h, hc, asBool]
  · cases t
    · exact ho y (by simp [h, Op.operands])
    · exact ho x (by simp [h, Op.operands])
theorem ok_extract {P : Program} {fr : List D} {m : List Box} {o : Oper} {x : Operand} {i : Nat} {ds : List D0} {d : D0} (h : o.op = .extract x i) (hx : evalD fr x = .tup ds) (hd : nth ds i = some d) :
    OpOK P o fr m { val := .s d } := by
  refine ok_val fun a w Z β ho _ => ?_
  have hv := ho x (by simp [h, Op.operands])
  rw [hx] at hv
  obtain ⟨ys, he, ha⟩ := hv
  obtain ⟨y, hy, hv⟩ := ha.nth hd
  refine ⟨y, ?_, hv⟩
  rw [nth_eq] at hy
  simp [execOp, h, he, Instr.extract, hy]

theorem ok_bin {P : Program} {fr : List D} {m : List Box} {o : Oper} {op : BinOp} {t t' : TypeId} {x y : Operand} {u v r : Value} (h : o.op = .binOp op t x y t')
    (hx : evalD fr x = dv u) (hy : evalD fr y = dv v) (h1 : r.oneCell' = true) (hr : ∀ w, (eqGuard op t x y u v).run P w = .ok () w) (hb : ∀ w, (binOp op t u v).run P w = .ok r w) :
    OpOK P o fr m { val := dv r } := by
  refine ok_val fun a w Z β ho _ => ⟨r, ?_, VD_dv h1⟩
  have ex : a.eval x = u := VD.val_eq (d := dv u) rfl (hx ▸ ho x (by simp [h, Op.operands]))
  have ey : a.eval y = v := VD.val_eq (d := dv v) rfl (hy ▸ ho y (by simp [h, Op.operands]))
  simp [execOp, h, ex, ey, hr, hb]
theorem ok_quo {P : Program} {fr : List D} {m : List Box} {o : Oper} {t t' : TypeId} {x y : Operand} {k : IntKind} {a b : Int} (h : o.op = .binOp .quo t x y t')
    (hx : evalD fr x = dv (.int k a)) (hy : evalD fr y = dv (.int k b)) (hb : (b == 0) = false) : OpOK P o fr m { val := dv (.int k (k.wrap (a.tdiv b))) } := by
  have hb' : b ≠ 0 := by simpa using hb
  refine ok_bin h hx hy rfl (fun w => by simp [eqGuard]) fun w => ?_
  simp [binOp, Op.intDiv, hb']
theorem ok_rem {P : Program} {fr : List D} {m : List Box} {o : Oper} {t t' : TypeId} {x y : Operand} {k : IntKind} {a b : Int} (h : o.op = .binOp .rem t x y t')
    (hx : evalD fr x = dv (.int k a)) (hy : evalD fr y = dv (.int k b)) (hb : (b == 0) = false) : OpOK P o fr m { val := dv (.int k (a.tmod b)) } := by
  have hb' : b ≠ 0 := by simpa using hb
  refine ok_bin h hx hy rfl (fun w => by simp [eqGuard]) fun w => ?_
  simp [binOp, Op.intDiv, hb']
theorem ok_shl {P : Program} {fr : List D} {m : List Box} {o : Oper} {t t' : TypeId} {x y : Operand} {k k' : IntKind} {a b : Int} (h : o.op = .binOp .shl t x y t')
    (hx : evalD fr x = dv (.int k a)) (hy : evalD fr y = dv (.int k' b)) (hb : decide (b < 0) = false) : OpOK P o fr m { val := dv (.int k (k.wrap (a * 2 ^ min b.toNat k.bits))) } := by
  have hb' : ¬ b < 0 := by simpa using hb
  refine ok_bin h hx hy rfl (fun w => by simp [eqGuard]) fun w => ?_
  simp [binOp, Op.shift, hb']
theorem ok_shr {P : Program} {fr : List D} {m : List Box} {o : Oper} {t t' : TypeId} {x y : Operand} {k k' : IntKind} {a b : Int} (h : o.op = .binOp .shr t x y t')
    (hx : evalD fr x = dv (.int k a)) (hy : evalD fr y = dv (.int k' b)) (hb : decide (b < 0) = false) : OpOK P o fr m { val := dv (.int k (a.fdiv (2 ^ min b.toNat k.bits))) } := by
  have hb' : ¬ b < 0 := by simpa using hb
  refine ok_bin h hx hy rfl (fun w => by simp [eqGuard]) fun w => ?_
  simp [binOp, Op.shift, hb']
end Go.Proofs.Ytceaambiagobbaa.Am
