/- A region of the abstract machine: what was done, operation by operation; in the text's order the machine does the same. -/
import Derived.Test.YtceaambiagobbaaAmRun
namespace Go.Proofs.Ytceaambiagobbaa.Am
open Go

/-- one operation of a region: the state ahead of it, its effect, whether it was done, what comes ahead of it in every order -/
structure Rc where
  o : Oper
  fr : List D
  m : List Box
  e : Eff
  run : Bool
  bits : Nat

def gtOf (ops : Array Oper) (o : Oper) : List Nat := match o.guard with | some (j, _) => ((ops[j]?).bind (·.dst)).toList | none => []
def footOf (ops : Array Oper) (o : Oper) (m : List Box) (e : Eff) : Foot := ⟨e.rd, wrIds e ++ newIdsL m.length e.news, tmpsOf o.op.operands.toList ++ gtOf ops o, o.dst⟩
def foots (ops : Array Oper) (L : List Rc) : List Foot := L.map fun x => footOf ops x.o x.m x.e
def befs (L : List Rc) : List Nat := L.map (·.bits)
def Rc.after (x : Rc) : St := ⟨setD x.fr x.o.dst x.e.val, x.e.mem x.m⟩
def after (st : St) : List Rc → St
  | [] => st
  | [x] => x.after
  | _ :: y :: r => after st (y :: r)
theorem after_snoc (st : St) (x : Rc) : ∀ L, after st (L ++ [x]) = x.after
  | [] => rfl
  | [_] => rfl
  | _ :: y :: r => by
    show after st (y :: (r ++ [x])) = x.after
    exact after_snoc st x (y :: r)

structure RcOK (P : Program) (ops : Array Oper) (ro : Bool) (nimp : Nat) (draw : Bool) (st : St) (L : List Rc) (x : Rc) : Prop where
  st : after st L = ⟨x.fr, x.m⟩
  want : Wanted ops x.fr x.o x.run
  ok : x.run = true → OpOK P x.o x.fr x.m x.e ∧ (ro = true → ∀ b ∈ wrIds x.e, nimp ≤ b)
  skip : x.run = false → x.e = { val := dundef }
  bits : x.bits = beforeOf (befs L) x.o
  free : draw = true → edgesOK L.length x.o = true ∧ apartFrom (foots ops L) x.bits (footOf ops x.o x.m x.e) 0 = true

def AllOK (P : Program) (ops : Array Oper) (ro : Bool) (nimp : Nat) (draw : Bool) (st : St) (L : List Rc) : Prop := ∀ i x, nth L i = some x → RcOK P ops ro nimp draw st (L.take i) x
theorem AllOK.snoc {P : Program} {ops : Array Oper} {ro : Bool} {nimp : Nat} {draw : Bool} {st : St} {L : List Rc} {x : Rc} (h : AllOK P ops ro nimp draw st L) (hx : RcOK P ops ro nimp draw st L x) : AllOK P ops ro nimp draw st (L ++ [x]) := by
  intro i y hy
  rw [nth_append] at hy
  split at hy
  · rename_i hlt
    rw [List.take_append_of_le_length (by omega)]
    exact h i y hy
  · rename_i hge
    have hi : i = L.length := by
      have := nth_lt hy; simp at this; omega
    subst hi
    simp [nth] at hy; subst hy
    simpa using hx

theorem upd_self {fr : List D} {d : Nat} {v : D} (h : tmpOf fr d = v) : upd fr d v = fr := by
  rw [upd_eq]
  by_cases hd : d < fr.length
  · obtain ⟨x, hx⟩ := nth_some hd
    unfold tmpOf at h
    rw [hx] at h
    simp at h; subst h
    rw [nth_eq] at hx
    apply List.ext_getElem?
    intro j
    rw [List.getElem?_set]
    split
    · rename_i hj; subst hj; exact hx.symm
    · rfl
  · rw [List.set_eq_of_length_le (by omega)]

theorem boolOf_dv {d : D} {t : Bool} (h : boolOf? d = some t) : d = dv (.bool t) := by
  unfold boolOf? at h
  split at h
  · cases h; rfl
  · cases h

theorem runOps_trace {P : Program} {H : Hints} {env : Env} {callF : CallF} (hcall : ∀ f args m r m', callF f args m = some (r, m') → FnOK P (H.ro f) f args m r m') {ops : Array Oper} {draw : Bool} {Ω : Type} {st : St} {K : St → Option Ω} {r : Ω} :
    ∀ {rest : List Oper} {L : List Rc} {fr : List D} {m : List Box}, AllOK P ops env.ro env.nimp draw st L → after st L = ⟨fr, m⟩ → runOps P H env callF ops draw rest fr m (befs L) (foots ops L) K = some r →
      ∃ L', AllOK P ops env.ro env.nimp draw st (L ++ L') ∧ L'.map (·.o) = rest ∧ K (after st (L ++ L')) = some r := by
  intro rest
  induction rest with
  | nil =>
    intro L fr m hL hst h
    simp only [runOps] at h
    exact ⟨[], by simpa using hL, rfl, by rw [List.append_nil, hst]; exact h⟩
  | cons o rest ih =>
    intro L fr m hL hst h
    have go : ∀ (run : Bool) (e : Eff), Wanted ops fr o run → (run = true → OpOK P o fr m e) → (run = false → e = { val := dundef }) →
        ((!draw || (edgesOK (befs L).length o && apartFrom (foots ops L) (beforeOf (befs L) o) (footOf ops o m e) 0)) && (!env.ro || (footOf ops o m e).wr.all (Nat.ble env.nimp))) = true →
        runOps P H env callF ops draw rest (match o.dst with | some d => upd fr d e.val | none => fr) (e.mem m) (befs L ++ [beforeOf (befs L) o]) (foots ops L ++ [footOf ops o m e]) K = some r →
        ∃ L', AllOK P ops env.ro env.nimp draw st (L ++ L') ∧ L'.map (·.o) = o :: rest ∧ K (after st (L ++ L')) = some r := by
      intro run e hw hok hsk hc hr
      let x : Rc := ⟨o, fr, m, e, run, beforeOf (befs L) o⟩
      have hlen : (befs L).length = L.length := by simp [befs]
      simp only [Bool.and_eq_true, Bool.or_eq_true, Bool.not_eq_true'] at hc
      have hx : RcOK P ops env.ro env.nimp draw st L x := by
        refine ⟨hst, hw, fun hrun => ⟨hok hrun, fun hro b hb => ?_⟩, hsk, rfl, fun hd => ?_⟩
        · rcases hc.2 with q | q
          · rw [hro] at q; cases q
          · have := List.all_eq_true.1 q b (List.mem_append.2 (.inl hb))
            rwa [Nat.ble_eq] at this
        · rcases hc.1 with q | q
          · rw [hd] at q; cases q
          · rw [hlen] at q; exact q
      obtain ⟨L', h1, h2, h3⟩ := ih (L := L ++ [x]) (fr := setD fr o.dst e.val) (m := e.mem m) (hL.snoc hx) (after_snoc st x L) (by
        have e1 : befs (L ++ [x]) = befs L ++ [beforeOf (befs L) o] := by simp [befs, x]
        have e2 : foots ops (L ++ [x]) = foots ops L ++ [footOf ops o m e] := by simp [foots, x]
        rw [e1, e2]; exact hr)
      exact ⟨x :: L', by simpa using h1, by simp [h2, x], by simpa using h3⟩
    have done : ∀ (hw : Wanted ops fr o true), evalOpT P H callF o fr m m.length (fun e =>
        if (!draw || (edgesOK (befs L).length o && apartFrom (foots ops L) (beforeOf (befs L) o) (footOf ops o m e) 0)) && (!env.ro || (footOf ops o m e).wr.all (Nat.ble env.nimp)) then
          runOps P H env callF ops draw rest (match o.dst with | some d => upd fr d e.val | none => fr) (e.mem m) (befs L ++ [beforeOf (befs L) o]) (foots ops L ++ [footOf ops o m e]) K
        else none) = some r → ∃ L', AllOK P ops env.ro env.nimp draw st (L ++ L') ∧ L'.map (·.o) = o :: rest ∧ K (after st (L ++ L')) = some r := by
      intro hw he
      obtain ⟨e, hk, hok⟩ := evalOpT_ok hcall he
      split at hk
      · rename_i hc; exact go true e hw (fun _ => hok) (fun q => by cases q) hc hk
      · cases hk
    have skipped : ∀ (hw : Wanted ops fr o false), (if !draw || (edgesOK (befs L).length o && apartFrom (foots ops L) (beforeOf (befs L) o) ⟨[], [], tmpsOf o.op.operands.toList ++ gtOf ops o, o.dst⟩ 0) then
        runOps P H env callF ops draw rest (match o.dst with | some d => upd fr d dundef | none => fr) m (befs L ++ [beforeOf (befs L) o]) (foots ops L ++ [⟨[], [], tmpsOf o.op.operands.toList ++ gtOf ops o, o.dst⟩]) K
        else none) = some r → ∃ L', AllOK P ops env.ro env.nimp draw st (L ++ L') ∧ L'.map (·.o) = o :: rest ∧ K (after st (L ++ L')) = some r := by
      intro hw he
      split at he
      · rename_i hc
        refine go false { val := dundef } hw (fun q => by cases q) (fun _ => rfl) (by simpa [wrIds, footOf, newIdsL] using hc) ?_
        have hm : Eff.mem { val := dundef } m = m := by simp [Eff.mem, putAll]
        rw [hm]; exact he
      · cases he
    unfold runOps at h
    cases hg : o.guard with
    | none =>
      have e0 : gtOf ops o = [] := by simp [gtOf, hg]
      simp only [hg] at h
      refine done (by simp [Wanted, hg]) ?_
      simp only [footOf, e0]
      exact h
    | some jw =>
      obtain ⟨j, want⟩ := jw
      simp only [hg] at h
      split at h
      · cases h
      rename_i d hd
      have e0 : gtOf ops o = [d] := by simp [gtOf, hg, hd]
      split at h
      · rename_i hu
        have htu : tmpOf fr d = dundef := by
          unfold isUndef at hu; split at hu
          · assumption
          · cases hu
        refine skipped (by simp only [Wanted, hg]; exact ⟨d, hd, .inr ⟨htu, trivial⟩⟩) ?_
        simp only [hd, Option.toList_some] at h
        simp only [e0]; exact h
      obtain ⟨t, ht, h⟩ := Option.bind_eq_some_iff.1 h
      have htd := boolOf_dv ht
      simp only [hd, Option.toList_some] at h
      have hwant : ∀ b, b = (t == want) → Wanted ops fr o b := fun b hb => by simp only [Wanted, hg]; exact ⟨d, hd, .inl ⟨t, htd, hb⟩⟩
      cases t with
      | true =>
        simp only [cond_true, upd_self htd] at h
        cases want with
        | true =>
          simp only [if_true] at h
          refine done (hwant true rfl) ?_
          simp only [footOf, e0]; exact h
        | false =>
          simp only [Bool.false_eq_true, if_false] at h
          refine skipped (hwant false rfl) ?_
          simp only [e0]; exact h
      | false =>
        simp only [cond_false, upd_self htd] at h
        cases want with
        | true =>
          simp only [if_true] at h
          refine skipped (hwant false rfl) ?_
          simp only [e0]; exact h
        | false =>
          simp only [Bool.false_eq_true, if_false] at h
          refine done (hwant true rfl) ?_
          simp only [footOf, e0]; exact h

theorem MR.sub {w : World} {Z : Nat → Prop} {β : Nat → Option Loc} {m : List Box} {F G : Nat → Prop} (h : MR w Z β m F) (k : ∀ b, G b → F b) : MR w Z β m G :=
  ⟨fun b x hb => h.box b x (k b hb), fun b b' l l' q hb hb' => h.inj b b' l l' q (k b hb) (k b' hb')⟩

/-- in the text's order -/
theorem seq_ok {P : Program} {ops : Array Oper} {E : Entry} {draw : Bool} {st : St} {Q : Exit → Act → World → Prop} : ∀ {L' L : List Rc}, AllOK P ops E.ro E.m.length draw st (L ++ L') →
    ∀ {a : Act} {w : World} {Z : Nat → Prop} {β : Nat → Option Loc}, Inv E w Z β (after st L).m → FR w Z β (after st L).fr a →
      (∀ a' w' Z' β', Inv E w' Z' β' (after st (L ++ L')).m → FR w' Z' β' (after st (L ++ L')).fr a' → Q .normal a' w') → wpList P ops Q (L'.map (·.o)) a w := by
  intro L'
  induction L' with
  | nil =>
    intro L _ a w Z β hi hf hq
    rw [List.append_nil] at hq
    exact hq a w Z β hi hf
  | cons x L' ih =>
    intro L hL a w Z β hi hf hq
    have hx := hL L.length x (by rw [nth_append, if_neg (by omega)]; simp [nth])
    rw [List.take_left] at hx
    rw [hx.st] at hi hf
    have hw : Region.wanted x.o (yielded ops a.tmps) = x.run := wanted_of hx.want fun d _ _ _ _ => hf.val d
    have e1 : L ++ x :: L' = (L ++ [x]) ++ L' := by simp
    have next : ∀ a' w' Z' β', Inv E w' Z' β' (x.e.mem x.m) → FR w' Z' β' (setD x.fr x.o.dst x.e.val) a' → wpList P ops Q (L'.map (·.o)) a' w' := by
      intro a' w' Z' β' h1 h2
      rw [e1] at hL hq
      refine ih (L := L ++ [x]) hL (a := a') (w := w') (Z := Z') (β := β') ?_ ?_ hq
      · rw [after_snoc]; exact h1
      · rw [after_snoc]; exact h2
    simp only [List.map_cons, wpList, hw]
    cases hr : x.run with
    | true =>
      simp only [if_true]
      left
      obtain ⟨hok, hro⟩ := hx.ok hr
      refine hok a w Z β _ Q hi.zok (fun y _ => VD_evalD hf.val y) (hi.mem.sub fun _ _ => trivial) (fun b hb => hi.none' b hb.1) fun v w' Z' β' hp => ?_
      obtain ⟨h1, h2⟩ := hi.step hp hro
      exact next _ _ Z' β' h1 (hf.put h2 x.o.dst hp.val)
    | false =>
      simp only [Bool.false_eq_true, if_false]
      have he := hx.skip hr
      refine next _ _ Z β ?_ ?_
      · rw [he]; simpa [Eff.mem, putAll] using hi
      · rw [he]; exact hf.put (fun h => h) x.o.dst VD_undef
end Go.Proofs.Ytceaambiagobbaa.Am
