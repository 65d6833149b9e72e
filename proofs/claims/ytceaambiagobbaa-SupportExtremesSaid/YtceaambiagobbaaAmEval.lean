/- Whatever operation the abstract machine takes, the machine's operation does as it says. -/
import Derived.Test.YtceaambiagobbaaAmCall2
import Derived.Test.YtceaambiagobbaaAmEq
namespace Go.Proofs.Ytceaambiagobbaa.Am
open Go

theorem all2_eval {w : World} {Z : Nat → Prop} {β : Nat → Option Loc} {fr : List D} {a : Act} : ∀ {xs : List Operand}, (∀ x ∈ xs, VD w Z β (evalD fr x) (a.eval x)) → All2 (VD w Z β) (xs.map (evalD fr)) (xs.map a.eval)
  | [], _ => trivial
  | _ :: _, h => ⟨h _ (by simp), all2_eval fun y hy => h y (by simp [hy])⟩

theorem run_callFunc {P : Program} {f : Nat} {fn : Func} (hf : P.funcs[f]? = some fn) (hn : (fn.name == "runtime.NumGoroutine") = false) (hb : fn.body.isNone = false) (args : Array Value) (w : World) :
    (callFunc f args).run P w = .ok (.enter f args) w := by
  simp only [callFunc, Sem.run_bind, run_program, Result.andThen_ok, hf, hn, hb]
  rfl

theorem bif_some {c : Bool} {α : Type} {x y : Option α} {r : α} (h : (bif c then x else y) = some r) : (c = true ∧ x = some r) ∨ (c = false ∧ y = some r) := by
  cases c
  · exact .inr ⟨rfl, h⟩
  · exact .inl ⟨rfl, h⟩

theorem evalOp_ok {P : Program} {H : Hints} {callF : CallF} (hcall : ∀ f args m r m', callF f args m = some (r, m') → FnOK P (H.ro f) f args m r m')
    {fr : List D} {m : List Box} {o : Oper} {Ω : Type} {K : Eff → Option Ω} {r : Ω} (h : evalOp P H callF o fr m m.length K = some r) : ∃ e, K e = some r ∧ OpOK P o fr m e := by
  unfold evalOp at h
  split at h
  · rename_i x ho; exact ⟨_, h, ok_move (.inl ho)⟩
  · rename_i x ho; exact ⟨_, h, ok_move (.inr ho)⟩
  · rename_i c x y ho
    obtain ⟨t, ht, h⟩ := Option.bind_eq_some_iff.1 h
    rcases bif_some h with ⟨e, h⟩ | ⟨e, h⟩
    · subst e; exact ⟨_, h, ok_pick ho ht⟩
    · subst e; exact ⟨_, h, ok_pick ho ht⟩
  · rename_i t ho
    split at h
    · rename_i z hz
      split at h
      · cases h
      · rename_i h1
        obtain ⟨ti, hti, hz⟩ := Option.bind_eq_some_iff.1 hz
        exact ⟨_, h, ok_alloc ho hti hz (by simpa using h1)⟩
    · cases h
  · rename_i t x ho
    split at h
    · rename_i d hd
      split at h
      · cases h
      · rename_i ht; exact ⟨_, h, ok_box ho hd (by simpa using ht)⟩
    · cases h
  · rename_i t parts ho; exact ok_build ho h
  · rename_i t len parts ho; exact ok_buildSlice ho h
  · rename_i t x ho; exact ok_load ho h
  · rename_i t x y ho; exact ok_store ho h
  · rename_i x ho
    split at h
    · rename_i b e c hx; exact ⟨_, h, ok_nilCheck ho hx (.inl ⟨b, e, c, rfl⟩)⟩
    · rename_i cs hx; exact ⟨_, h, ok_nilCheck ho hx (.inr (.inl ⟨cs, rfl⟩))⟩
    · rename_i f cap hx; exact ⟨_, h, ok_nilCheck ho hx (.inr (.inr (.inl ⟨f, cap, rfl⟩)))⟩
    · rename_i f a b hx; exact ⟨_, h, ok_nilCheck ho hx (.inr (.inr (.inr ⟨f, a, b, rfl⟩)))⟩
    · cases h
  · rename_i t x f ho; exact ok_field ho h
  · rename_i t x ix ho; exact ok_index ho h
  · rename_i t x y ho; exact ok_make ho h
  · rename_i t x lo hi ho
    split at h
    · split at h
      · exact ok_sliceArr ho h
      · cases h
    · exact ok_slice ho h
  · rename_i f first captured ho
    split at h
    · rename_i hf
      split at h
      · rename_i cs hc
        split at h
        · rename_i ht; exact ⟨_, h, ok_makeFunc ho hf hc ht⟩
        · cases h
      · cases h
    · cases h
  · rename_i x i ho
    split at h
    · rename_i ds hx
      split at h
      · rename_i d hd; exact ⟨_, h, ok_extract ho hx hd⟩
      · cases h
    · cases h
  · rename_i t x f ho
    split at h
    · rename_i fields cl cs hd hx
      split at h
      · rename_i fd hf; exact ok_fieldV ho hd hx hf h
      · cases h
    · cases h
  · rename_i t x ix ho
    split at h
    · rename_i len elem cl cs k i hd hx hix
      rcases bif_some h with ⟨e, h⟩ | ⟨_, h⟩
      · split at h
        · rename_i te hte; exact ok_indexV ho hd hx hix e hte h
        · cases h
      · cases h
    · rename_i s k i hd hx hix
      rcases bif_some h with ⟨e, h⟩ | ⟨_, h⟩
      · obtain ⟨c, hc, h⟩ := Option.bind_eq_some_iff.1 h
        exact ⟨_, h, ok_indexS ho hd hx hix (by simpa using e) hc⟩
      · cases h
    · cases h
  · rename_i op t x y t' ho
    have hns : ∀ cs b, o.op ≠ .select cs b := by intro cs b e; rw [ho] at e; cases e
    split at h
    · rename_i k a k' b hx hy
      split at h
      · rename_i hkk; subst hkk
        rcases bif_some h with ⟨_, h⟩ | ⟨e, h⟩
        · cases h
        · exact ⟨_, h, ok_quo ho hx hy e⟩
      · cases h
    · rename_i k a k' b hx hy
      split at h
      · rename_i hkk; subst hkk
        rcases bif_some h with ⟨_, h⟩ | ⟨e, h⟩
        · cases h
        · exact ⟨_, h, ok_rem ho hx hy e⟩
      · cases h
    · rename_i k a k' b hx hy
      rcases bif_some h with ⟨_, h⟩ | ⟨e, h⟩
      · cases h
      · exact ⟨_, h, ok_shl ho hx hy e⟩
    · rename_i k a k' b hx hy
      rcases bif_some h with ⟨_, h⟩ | ⟨e, h⟩
      · cases h
      · exact ⟨_, h, ok_shr ho hx hy e⟩
    · rename_i cl xs cl' ys hx hy
      split at h
      · cases h
      · rename_i hg
        simp only [Bool.or_eq_true, not_or, Bool.not_eq_true', Bool.not_eq_false] at hg
        obtain ⟨b, hb, h⟩ := Option.bind_eq_some_iff.1 h
        exact ⟨_, h, by simpa using ok_eql ho (.inl rfl) hx hy hg.1 hb hg.2⟩
    · rename_i cl xs cl' ys hx hy
      split at h
      · cases h
      · rename_i hg
        simp only [Bool.or_eq_true, not_or, Bool.not_eq_true', Bool.not_eq_false] at hg
        obtain ⟨b, hb, h⟩ := Option.bind_eq_some_iff.1 h
        exact ⟨_, h, by simpa using ok_eql ho (.inr rfl) hx hy hg.1 hb hg.2⟩
    · cases h
    · split at h
      · rename_i v hv; exact ⟨_, h, ok_pureRun hns hv⟩
      · cases h
  · rename_i c ho
    have hns : ∀ cs b, o.op ≠ .select cs b := by intro cs b e; rw [ho] at e; cases e
    split at h
    · rename_i hc
      split at h
      · rename_i s x t t' ha ht
        split at h
        · rename_i htt
          rw [Nat.beq_eq] at htt; subst htt
          have hop : o.op = .call { callee := .builtin .append, args := #[s, x], argTypes := #[t, t] } := by
            rw [ho]
            obtain ⟨ca, cb, cc⟩ := c
            simp only at hc ha ht
            rw [hc, show cb = #[s, x] from by rw [← Array.toArray_toList (xs := cb), ha], show cc = #[t, t] from by rw [← Array.toArray_toList (xs := cc), ht]]
          cases hz : H.frz (o.dst.getD 0) with
          | true => rw [hz] at h; exact ok_appendZ (t := t) (s := s) (x := x) hop h
          | false => rw [hz] at h; exact ok_append (t := t) (s := s) (x := x) hop h
        · cases h
      · cases h
    · rename_i hc
      split at h
      · rename_i x t ha ht
        split at h
        · rename_i e b zo fl es hd hx
          refine ⟨_, h, ok_len (t := t) (x := x) ?_ hd hx⟩
          rw [ho]
          obtain ⟨ca, cb, cc⟩ := c
          simp only at hc ha ht
          rw [hc, show cb = #[x] from by rw [← Array.toArray_toList (xs := cb), ha], show cc = #[t] from by rw [← Array.toArray_toList (xs := cc), ht]]
        · split at h
          · rename_i v hv; exact ⟨_, h, ok_pureRun hns hv⟩
          · cases h
      · cases h
    · split at h
      · rename_i v hv; exact ⟨_, h, ok_pureRun hns hv⟩
      · cases h
    · rename_i fo hc
      have hop : ∀ x, (x = fo ∨ x ∈ c.args.toList) → x ∈ o.op.operands := by
        intro x hx
        simp only [ho, Op.operands, Call.operands, hc]
        rcases hx with e | e
        · simp [e]
        · simp [Array.mem_toList_iff.1 e]
      split at h
      · rename_i f first cap hx
        split at h
        · rename_i hemp
          simp only [Bool.and_eq_true, Array.isEmpty_iff] at hemp
          obtain ⟨rfl, rfl⟩ := hemp
          refine ok_call hcall (fun a w Z β hoo => ⟨c.args.toList.map a.eval, all2_eval fun x hx => hoo x (hop x (.inr hx)), fun fn hfn hn hb => ?_⟩) h
          have hv : a.eval fo = .func (.func f) #[] #[] := VD.val_eq (d := evalD fr fo) (by rw [hx]; rfl) (hoo fo (hop fo (.inl rfl)))
          have hargs : c.args.map a.eval = (c.args.toList.map a.eval).toArray := by apply Array.ext'; simp
          simp only [execOp, ho, resolve, hc, hv, Deferred.ofValue, Sem.run_bind, Sem.run_pure, Result.andThen_ok, invoke, Array.empty_append, Array.append_empty, hargs]
          exact run_callFunc hfn hn hb _ w
        · cases h
      · rename_i f cap hx
        refine ok_call hcall (fun a w Z β hoo => ?_) h
        have hv := hoo fo (hop fo (.inl rfl))
        rw [hx] at hv
        rcases hv with hv | hv
        · cases hv
        generalize hy : a.eval fo = y at hv
        cases hv with
        | c h => cases h
        | clo _ _ ys hlen hcap =>
          refine ⟨c.args.toList.map a.eval ++ ys, All2.append (all2_eval fun x hx => hoo x (hop x (.inr hx))) ?_, fun fn hfn hn hb => ?_⟩
          · exact All2.map_left _ (All2.of_nth hlen fun i d y hd hy => .inr (hcap i d y hd hy))
          · have hargs : c.args.map a.eval = (c.args.toList.map a.eval).toArray := by apply Array.ext'; simp
            simp only [execOp, ho, resolve, hc, hy, Deferred.ofValue, Sem.run_bind, Sem.run_pure, Result.andThen_ok, invoke, hargs, List.append_toArray]
            exact run_callFunc hfn hn hb _ w
      · cases h
    · cases h
  · rename_i a b c ho
    have hns : ∀ cs b, o.op ≠ .select cs b := by intro cs b e; rw [ho] at e; cases e
    split at h
    · rename_i v hv; exact ⟨_, h, ok_pureRun hns hv⟩
    · cases h
  · rename_i a b c ho
    have hns : ∀ cs b, o.op ≠ .select cs b := by intro cs b e; rw [ho] at e; cases e
    split at h
    · rename_i v hv; exact ⟨_, h, ok_pureRun hns hv⟩
    · cases h
  · cases h
theorem tmpOf_thawL {m : List Box} {t : Nat} : ∀ {fr : List D}, tmpOf (thawL m fr) t = thaw1 m (tmpOf fr t) := by
  have : ∀ (fr : List D) (t : Nat), nth (thawL m fr) t = (nth fr t).map (thaw1 m) := by
    intro fr
    induction fr with
    | nil => intro t; rfl
    | cons d r ih => intro t; cases t with
      | zero => rfl
      | succ t => exact ih t
  intro fr
  unfold tmpOf
  rw [this]
  cases nth fr t <;> rfl
theorem evalD_thaw {m : List Box} {fr : List D} (x : Operand) : evalD (thawL m fr) x = thaw1 m (evalD fr x) ∨ evalD (thawL m fr) x = evalD fr x := by
  cases x with
  | tmp t => exact .inl tmpOf_thawL
  | const v => exact .inr rfl
  | func f => exact .inr rfl
  | global g => exact .inr rfl
theorem fzOf_mem {m : List Box} {fr : List D} {x : Operand} {b z : Nat} {es : List (List D1)} (he : evalD fr x = .s (.one (.fs b))) (hb : nth m b = some (.fz z es)) : ∀ {l : List Operand}, x ∈ l → b ∈ fzOf m fr l
  | y :: r, h => by
    rcases List.mem_cons.1 h with h | h
    · subst h
      simp [fzOf, he, hb]
    · have ih := fzOf_mem he hb h
      unfold fzOf
      split
      · split
        · exact List.mem_cons_of_mem _ ih
        · exact ih
      · exact ih
theorem thaw1_ok {w : World} {Z : Nat → Prop} {β : Nat → Option Loc} {m : List Box} {d : D} {y : Value} (h : ∀ b z es, d = .s (.one (.fs b)) → nth m b = some (.fz z es) → BoxOK w Z β b (.fz z es)) (hd : VD w Z β d y) : VD w Z β (thaw1 m d) y := by
  unfold thaw1
  split
  · rename_i b
    split
    · rename_i z es hb
      obtain ⟨l, hl, hc⟩ := h b z es rfl hb
      rcases hd with hd | hd
      · cases hd
      refine .inr (.c ?_)
      cases hd with
      | c h => cases h
      | fs _ l2 k hl2 hk2 => rw [hl] at hl2; obtain rfl := Option.some.inj hl2; simpa only [Loc.val, hk2] using hc
      | fs0 _ l2 hl2 hk2 h0 => rw [hl] at hl2; obtain rfl := Option.some.inj hl2; simpa only [Loc.val, hk2] using hc
    · exact hd
  · exact hd
theorem OpOK.thaw {P : Program} {o : Oper} {fr : List D} {m : List Box} {e : Eff} (h : OpOK P o (thawL m fr) m e) : OpOK P o fr m { e with rd := fzOf m fr o.op.operands.toList ++ e.rd } := by
  intro a w Z β next Q q1 q2 q3 q4 q5
  have hsub : ∀ b, foot e b → foot { e with rd := fzOf m fr o.op.operands.toList ++ e.rd } b := by
    intro b hb
    rcases hb with hb | hb
    · exact .inl (List.mem_append.2 (.inr hb))
    · exact .inr hb
  refine h a w Z β next Q q1 (fun x hx => ?_) ⟨fun b y hb hy => q3.box b y (hsub b hb) hy, fun b b' l l' k hb hb' => q3.inj b b' l l' k (hsub b hb) (hsub b' hb')⟩ (fun b hb => q4 b hb)
    (fun v w' Z' β' hp => q5 v w' Z' β' ⟨hp.val, hp.ext, hp.sub, hp.none', hp.news, hp.zsub, hp.znew, hp.mem, hp.lives⟩)
  rcases evalD_thaw (m := m) (fr := fr) x with e' | e'
  · rw [e']
    refine thaw1_ok (fun b z es he hb => ?_) (q2 x hx)
    exact q3.box b _ (.inl (List.mem_append.2 (.inl (fzOf_mem he hb (Array.mem_def.1 hx))))) hb
  · rw [e']; exact q2 x hx
theorem evalOpT_ok {P : Program} {H : Hints} {callF : CallF} (hcall : ∀ f args m r m', callF f args m = some (r, m') → FnOK P (H.ro f) f args m r m')
    {fr : List D} {m : List Box} {o : Oper} {Ω : Type} {K : Eff → Option Ω} {r : Ω} (h : evalOpT P H callF o fr m m.length K = some r) : ∃ e, K e = some r ∧ OpOK P o fr m e := by
  unfold evalOpT at h
  rcases bif_some h with ⟨_, h⟩ | ⟨_, h⟩
  · obtain ⟨e, h1, h2⟩ := evalOp_ok hcall h
    exact ⟨_, h1, h2.thaw⟩
  · exact evalOp_ok hcall h
end Go.Proofs.Ytceaambiagobbaa.Am
