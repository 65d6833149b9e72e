/- A function: what the abstract machine answers is what the machine's function does. -/
import Derived.Test.YtceaambiagobbaaAmCode
namespace Go.Proofs.Ytceaambiagobbaa.Am
open Go

/-- one result's value -/
def resM (tmps : Array Value) : ResultVar → Sem Value
  | .tmp t => pure (tmps.getD t undef)
  | .cell p t => do loadVar t (← asAddr (tmps.getD p undef))
theorem results_eq (fn : Func) (tmps : Array Value) : results fn tmps = (do let vs ← fn.results.mapM (resM tmps); pure (if h : vs.size = 1 then vs[0] else .tuple vs)) := by
  have : (fun | .tmp t => pure (tmps.getD t undef) | .cell p t => do loadVar t (← asAddr (tmps.getD p undef)) : ResultVar → Sem Value) = resM tmps := by
    funext x
    cases x <;> rfl
  rw [← this]
  rfl

theorem resultsK_ok {P : Program} {fr : List D} {m : List Box} {Ω : Type} {r : Ω} : ∀ {rs : List ResultVar} {K : List D0 → Option Ω}, resultsK P fr m rs K = some r →
    ∃ ds, K ds = some r ∧ ∀ (a : Act) (w : World) (Z : Nat → Prop) (β : Nat → Option Loc), FR w Z β fr a → MR w Z β m (fun _ => True) →
      ∃ vs : List Value, (rs.mapM (resM a.tmps)).run P w = .ok vs w ∧ All2 (V0 w Z β) ds vs
  | [], K, h => ⟨[], h, fun a w Z β _ _ => ⟨[], rfl, trivial⟩⟩
  | .tmp t :: rs, K, h => by
    simp only [resultsK] at h
    split at h
    · rename_i d hd
      obtain ⟨ds, hds, hv⟩ := resultsK_ok h
      refine ⟨d :: ds, hds, fun a w Z β hf hm => ?_⟩
      obtain ⟨vs, hr, ha⟩ := hv a w Z β hf hm
      have h0 := hf.val t
      rw [hd] at h0
      refine ⟨a.tmps.getD t undef :: vs, ?_, h0, ha⟩
      simp only [List.mapM_cons, Sem.run_bind, resM, Sem.run_pure, Result.andThen_ok, hr]
    · cases h
  | .cell p t :: rs, K, h => by
    simp only [resultsK] at h
    obtain ⟨d, rd, hd, hp⟩ := loadK_ok h
    dsimp only at hd
    obtain ⟨ds, hds, hv⟩ := resultsK_ok hd
    refine ⟨d :: ds, hds, fun a w Z β hf hm => ?_⟩
    obtain ⟨vs, hr, ha⟩ := hv a w Z β hf hm
    obtain ⟨k, o, v, hav, hl, h0⟩ := hp w Z β _ (hf.val p) (hm.sub fun _ _ => trivial)
    refine ⟨v :: vs, ?_, h0, ha⟩
    have h1 : (resM a.tmps (.cell p t)).run P w = .ok v w := by simp only [resM, Sem.run_bind, hav, asAddr, Sem.run_pure, Result.andThen_ok, hl]
    simp only [List.mapM_cons, Sem.run_bind, h1, Sem.run_pure, Result.andThen_ok, hr]

theorem resD_ok {P : Program} {fn : Func} {tmps : Array Value} {w : World} {Z : Nat → Prop} {β : Nat → Option Loc} {ds : List D0} {vs : List Value}
    (h : (fn.results.toList.mapM (resM tmps)).run P w = .ok vs w) (ha : All2 (V0 w Z β) ds vs) :
    ∃ v, (results fn tmps).run P w = .ok v w ∧ VD w Z β (resD ds) v := by
  refine ⟨if h : vs.toArray.size = 1 then vs.toArray[0] else .tuple vs.toArray, ?_, ?_⟩
  · rw [results_eq, Sem.run_bind, Array.mapM_eq_mapM_toList]
    have e : ∀ (s : Sem (List Value)), (List.toArray <$> s).run P w = (s.run P w).andThen fun l w' => .ok l.toArray w' := fun s => run_map' _ s w
    rw [e]
    rw [h]
    rfl
  · match ds, vs, ha with
    | [], [], _ => exact ⟨[], by simp, trivial⟩
    | [d], [v], ha => exact ha.1
    | d :: d' :: ds, v :: v' :: vs, ha => exact ⟨_, by simp, ha⟩
    | [], _ :: _, ha => exact ha.elim
    | _ :: _, [], ha => exact ha.elim
    | [_], _ :: _ :: _, ha => exact ha.2.elim
    | _ :: _ :: _, [_], ha => exact ha.2.elim

theorem frzAll_ok : ∀ {m : List Box} {ds ds' : List D0} {ks : List Nat}, frzAll m ds = some (ds', ks) →
    Flat m ks ∧ ∀ (w : World) (Z Z' : Nat → Prop) (β : Nat → Option Loc) (vs : List Value), Wide w Z Z' → Boxes w Z β m ks → InZ β ks Z' → All2 (V0 w Z β) ds vs → All2 (V0 w Z' β) ds' vs
  | m, [], ds', ks, h => by
    simp [frzAll] at h
    obtain ⟨rfl, rfl⟩ := h
    exact ⟨Flat.nil m, fun w Z Z' β ys _ _ _ h => by cases ys with
      | nil => trivial
      | cons _ _ => exact h.elim⟩
  | m, d :: r, ds', ks, h => by
    simp only [frzAll] at h
    obtain ⟨⟨d1, ks1⟩, h1, h⟩ := Option.bind_eq_some_iff.1 h
    obtain ⟨⟨ds2, ks2⟩, h2, h⟩ := Option.bind_eq_some_iff.1 h
    cases h
    obtain ⟨f1, v1⟩ := frz0_ok h1
    obtain ⟨f2, v2⟩ := frzAll_ok h2
    refine ⟨f1.append f2, fun w Z Z' β vs hw hb hz ha => ?_⟩
    cases vs with
    | nil => exact ha.elim
    | cons y s => exact ⟨v1 w Z Z' β y hw (fun b hb' => hb b (List.mem_append.2 (.inl hb'))) hz.left ha.1, v2 w Z Z' β s hw (fun b hb' => hb b (List.mem_append.2 (.inr hb'))) hz.right ha.2⟩

theorem Inv.kill {E : Entry} {w : World} {Z : Nat → Prop} {β : Nat → Option Loc} {m : List Box} (h : Inv E w Z β m) {ks : List Nat} (hk : Flat m ks) (hge : ∀ b ∈ ks, E.m.length ≤ b) :
    Inv E w (killZ Z β ks) β (putAll m (killed ks)) := by
  have hid : wrIds { val := dtop, rd := ks, wr := killed ks } = ks := wrIds_killed _ _ _ _
  have hno : ∀ b, ¬ newId m { val := dtop, rd := ks, wr := killed ks } b := fun b hb => by
    have h1 := hb.1; have h2 := hb.2; simp at h2; omega
  have hdead : ∀ b, b ∈ ks → nth (Eff.mem { val := dtop, rd := ks, wr := killed ks } m) b = some .dead := by
    intro b hb
    simp only [Eff.mem, List.append_nil]
    exact nth_putAll_killed ks m b (hk.lt b hb) (.inl hb)
  have hp : Post w Z β m { val := dtop, rd := ks, wr := killed ks } undef w (killZ Z β ks) β := by
    refine ⟨VD_top _, Ext.refl _ _, Sub.refl _, fun _ h _ => h, fun b _ _ hb => absurd hb (hno b), fun k hk => .inl hk, ?_, ⟨?_, ?_⟩, ?_⟩
    · rintro k (hz | ⟨b, l, hb, hl, hkb⟩)
      · exact .inl hz
      · exact .inr (.inr ⟨b, l, by rw [hid]; exact hb, hk.live b hb, hl, hkb⟩)
    · intro b x hb hx
      rw [hid] at hb
      rw [hdead b (hb.resolve_right (hno b))] at hx
      cases hx; trivial
    · intro b b' l l' k hb _ hl
      rw [hid] at hb
      obtain ⟨z, fl, es, hx⟩ := hl
      rw [hdead b (hb.resolve_right (hno b))] at hx
      cases hx
    · intro b hb _ hl
      rw [hid] at hb
      obtain ⟨z, fl, es, hx⟩ := hl
      rw [hdead b hb] at hx
      cases hx
  have := (h.step hp fun _ b hb => hge b (by rwa [hid] at hb)).1
  simpa [Eff.mem] using this

theorem renL0_ok {w : World} {Z : Nat → Prop} {β β' : Nat → Option Loc} {g : Nat → Option Nat} (hg : Ren g β β') : ∀ {ds : List D0} {ys : List Value}, All2 (V0 w Z β) ds ys → All2 (V0 w Z β') (renL0 g ds) ys
  | [], [], _ => trivial
  | _ :: _, _ :: _, ⟨a, b⟩ => ⟨V0.ren hg a, renL0_ok hg b⟩
  | [], _ :: _, k => k.elim
  | _ :: _, [], k => k.elim

theorem finish1_ok {P : Program} {H : Hints} {E : Entry} {env : Env} (hn : E.m.length = env.nimp) {fn : Func} {tmps : Array Value} {w : World} {Z : Nat → Prop} {β : Nat → Option Loc} {m : List Box} (h : Inv E w Z β m) {ds : List D0} {vs : List Value}
    (hr : (fn.results.toList.mapM (resM tmps)).run P w = .ok vs w) (hv : All2 (V0 w Z β) ds vs) {r : D} {m' : List Box} (hk : finish1 H env m ds = some (r, m')) :
    ∃ v, (results fn tmps).run P w = .ok v w ∧ ∃ β', FPost E.w E.Z E.β E.m E.ro r m' v w Z β' := by
  simp only [finish1] at hk
  obtain ⟨hnd, hpre⟩ := reach_upTo m roundFuel env.nimp (refsUp m env.nimp ++ ds.flatMap refs0)
  generalize reach m roundFuel (refsUp m env.nimp ++ ds.flatMap refs0) (upTo env.nimp) = acc at hk hnd hpre
  obtain ⟨y, hk, hy⟩ := decVts_ok hk
  obtain ⟨my, hk, hm⟩ := decMts_ok hk
  cases hk
  rw [← hn] at hpre
  have hi := (h.sub' hnd hpre).weak hm
  obtain ⟨v, hrv, hvd⟩ := resD_ok hr (hy w Z _ vs (renL0_ok (subLoc_ren β acc) hv))
  refine ⟨v, hrv, subLoc β acc, hvd, ⟨hi.size, hi.old, hi.tape, hi.os, hi.output⟩, hi.keep, hi.le, hi.none', hi.zsub, ?_, hi.mem, hi.lives, ?_⟩
  · intro k hk
    rcases hi.znew k hk with q | q | q
    · exact .inl q
    · exact .inr (.inl ⟨q, hi.zok k hk⟩)
    · exact .inr (.inr q)
  · intro b l k hb hl hk
    obtain ⟨h1, h2⟩ := hi.blks b l k hb hl hk
    rcases h2 with q | q
    · exact .inl ⟨q, h1⟩
    · exact .inr q

theorem nth_appR {α : Type} (l l' : List α) (t : Nat) : nth (l ++ l') t = if t < l.length then nth l t else nth l' (t - l.length) := nth_append l l' t

theorem start_ok {w : World} {Z : Nat → Prop} {β : Nat → Option Loc} {args : List D} {vs : List Value} (h : All2 (VD w Z β) args vs) (n : Nat) :
    FR w Z β (args ++ List.replicate (n - args.length) dtop) { tmps := vs.toArray ++ Array.replicate (n - vs.toArray.size) undef, defers := [] } := by
  have hl := h.length
  refine ⟨by simp [hl], rfl, fun t => ?_⟩
  unfold tmpOf
  rw [nth_append]
  have hg : (vs.toArray ++ Array.replicate (n - vs.toArray.size) undef).getD t undef = if t < vs.length then (vs[t]?).getD undef else undef := by
    rw [Array.getD_eq_getD_getElem?, Array.getElem?_append]
    simp only [List.size_toArray, List.getElem?_toArray]
    split
    · rfl
    · rw [Array.getElem?_replicate]
      split <;> rfl
  rw [hg, hl]
  split
  · rename_i ht
    obtain ⟨x, hx⟩ := nth_some (l := args) (i := t) (by omega)
    obtain ⟨y, hy, hv⟩ := h.nth hx
    rw [nth_eq] at hy
    rw [hx, hy]
    exact hv
  · rw [nth_replicate]
    split <;> exact VD_top _

theorem evalBody_ok {P : Program} {H : Hints} {loopF : LoopF} {callF : CallF} (hmix : P.follows .mixedOrders = true) (hcall : ∀ f args m r m', callF f args m = some (r, m') → FnOK P (H.ro f) f args m r m') {n : Nat} (hloop : LoopOK P n loopF)
    {f : Nat} {args : List D} {m : List Box} {r : D} {m' : List Box} (h : evalBody P H loopF callF f args m = some (r, m')) : FnOK P (H.ro f) f args m r m' := by
  intro w Z β vs hz ha hm hnone
  unfold evalBody at h
  split at h
  · cases h
  · rename_i fn hfn
    split at h
    · cases h
    · rename_i c hc
      dsimp only at h
      have hi : Inv ⟨w, Z, β, m, H.ro f⟩ w Z β m := ⟨hz, hm, hnone, Nat.le_refl _, fun _ _ => rfl, Nat.le_refl _, rfl, rfl, rfl, fun _ _ _ => rfl, fun _ h => h, fun _ h => .inl h, fun b l k hb hl _ => by { rw [hnone b hb] at hl; cases hl }, fun _ _ h => h⟩
      refine calls_of_wp hfn hc ?_
      refine evalC_ok (E := ⟨w, Z, β, m, H.ro f⟩) hmix hcall hloop rfl rfl c h hi (start_ok ha fn.ntmps) ?_
      intro ex st a w' Z' β' hk hi' hf'
      have fin : resultsK P st.fr st.m fn.results.toList (fun ds => finish H ⟨f, m.length, H.ro f⟩ st.m ds) = some (r, m') →
          a.defers = [] ∧ ∃ v, (results fn a.tmps).run P w' = .ok v w' ∧ ∃ v' Z' β', Ending.returned v = .returned v' ∧ FPost w Z β m (H.ro f) r m' v' w' Z' β' := by
        intro hk
        refine ⟨hf'.defers, ?_⟩
        obtain ⟨ds, hds, hv⟩ := resultsK_ok hk
        obtain ⟨vs', hr, hva⟩ := hv a w' Z' β' hf' hi'.mem
        unfold finish at hds
        split at hds
        · obtain ⟨v, hrv, β2, hp⟩ := finish1_ok (E := ⟨w, Z, β, m, H.ro f⟩) (env := ⟨f, m.length, H.ro f⟩) rfl hi' hr hva hds
          exact ⟨v, hrv, v, Z', β2, rfl, hp⟩
        · obtain ⟨⟨ds2, ks⟩, hz2, hds⟩ := Option.bind_eq_some_iff.1 hds
          dsimp only at hds
          split at hds
          · rename_i hge
            obtain ⟨hflat, hva2⟩ := frzAll_ok hz2
            have hva3 := hva2 w' Z' (killZ Z' β' ks) β' vs' ⟨hi'.zok, fun k hk => .inl hk⟩ (fun b _ x hx => hi'.mem.box b x trivial hx) InZ.kill hva
            have hi2 := hi'.kill hflat fun b hb => by
              have := List.all_eq_true.1 hge b hb
              rwa [Nat.ble_eq] at this
            obtain ⟨v, hrv, β2, hp⟩ := finish1_ok (E := ⟨w, Z, β, m, H.ro f⟩) (env := ⟨f, m.length, H.ro f⟩) rfl hi2 hr hva3 hds
            exact ⟨v, hrv, v, _, β2, rfl, hp⟩
          · cases hds
      cases ex with
      | nrm => exact fin hk
      | ret => exact fin hk
      | exit j => cases hk

theorem lvl_ok {P : Program} {H : Hints} (hmix : P.follows .mixedOrders = true) : ∀ n, (∀ f args m r m', (lvl P H n).2 f args m = some (r, m') → FnOK P (H.ro f) f args m r m') ∧ LoopOK P n (lvl P H n).1
  | 0 => ⟨fun _ _ _ _ _ h => by { cases h }, loop_zero⟩
  | n + 1 => by
    obtain ⟨hc, hl⟩ := lvl_ok hmix (H := H) n
    exact ⟨fun f args m r m' h => evalBody_ok hmix hc hl h, loop_succ hmix hc hl⟩

/-- what the abstract machine answers is what the machine's function does -/
theorem evalF_ok {P : Program} {H : Hints} (hmix : P.follows .mixedOrders = true) {n f : Nat} {args : List D} {m : List Box} {r : D} {m' : List Box} (h : evalF P H n f args m = some (r, m')) : FnOK P (H.ro f) f args m r m' :=
  (lvl_ok hmix n).1 f args m r m' h
end Go.Proofs.Ytceaambiagobbaa.Am
