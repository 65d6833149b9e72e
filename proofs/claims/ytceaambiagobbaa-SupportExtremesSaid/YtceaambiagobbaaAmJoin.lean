/- The row's facts on the program, one by one (a row's facts all at once are too much for the checker's memory). -/
import Derived.WalkKit
import Derived.ProofKit
import Derived.OpenShut
import Derived.SizedLaws
import Derived.JoinedOf
import Derived.KernelRfl
set_option maxRecDepth 100000
set_option linter.unusedSimpArgs false
namespace Go.Proofs.Ytceaambiagobbaa.Am
open Go
theorem joined_of {P : Program} {f : FuncId} {fn : Func} {s : ChangeSpec} {c : OpenClaim} (k1 : (c.wf (OpenSpec.ofChange s)) = true) (k2 : (laidOutB P) = true) (k3 : (mapsRowed P) = true) (k4 : (fn.params.all (P.readableRec ·)) = true) (k5 : (namedTie P c.named s.vars) = true) (k6 : ((c.stops == [])) = true) (k7 : ((P.stops == [])) = true) (k8 : ((c.knobs == [])) = true) (k9 : ((P.stopKnobs == [])) = true) (k10 : ((c.inPlace == P.inPlace f)) = true) (k11 : ((c.unfollowed == P.unfollowed f)) = true) (k12 : ((c.recurses == P.recurses f)) = true) (k13 : ((c.named == P.varsNamed f)) = true) (k14 : ((c.maps == (fn.params.toList ++ s.plain.varTypes P).any (P.mapsRec ·))) = true) (k15 : ((c.ifaces == (fn.params.toList ++ s.plain.varTypes P).any (P.ifacesRec ·))) = true) (k16 : ((c.mapsOut == P.mapsAmong fn.resultTypes.toList)) = true) (k17 : ((c.loops == (fn.params.toList ++ s.plain.varTypes P).any (P.loopsFrom ·))) = true) (k18 : ((c.wideKeys == (fn.params.toList ++ s.plain.varTypes P ++ fn.resultTypes.toList).any (P.wideKeysFrom ·))) = true) (k19 : (s.vars.all (P.varReadable ·)) = true) (k20 : (fn.resultTypes.all (fun t => P.readableRec t && decide (t < P.types.size))) = true) (k21 : ((c.ifacesOut == fn.resultTypes.toList.any (P.ifacesRec ·))) = true) (k22 : ((c.loopsOut == fn.resultTypes.toList.any (P.loopsFrom ·))) = true) (k23 : ((c.plainKeys == P.plainKeys)) = true) (k24 : (c.shortTexts.isNone) = true) (k25 : (P.stopsHeard) = true) (k26 : (P.mayEnter) = true) (k27 : ((c.lifted == P.liftsFinal)) = true) (k28 : ((P.make == some c.make)) = true) (k29 : (c.kinds == []) = true) (k33 : c.domain.isEmpty = true) (k30 : ((c.pinned == c.pinnedBy)) = true) (k31 : ((c.veiled == (fn.params.toList ++ s.plain.varTypes P ++ fn.resultTypes.toList).any (P.veiledRec ·))) = true) (k32 : (c.veiledFits P fn.params.toList (fn.params.toList ++ s.plain.varTypes P ++ fn.resultTypes.toList)) = true) : joinedFacts P f fn s c = true := by
  unfold joinedFacts
  simp only [k1, k2, k3, k4, k5, k6, k7, k8, k9, k10, k11, k12, k13, k14, k15, k16, k17, k18, k19, k20, k21, k22, k23, k24, k25, k26, k27, k28, k33, if_true, k29, k30, k31, k32, Bool.and_self]
theorem ws_one {c : Char} {r : List Char} (h : c ≠ Char.ofNat 32) {w : List Char} {ws : List (List Char)} (k : wordsSigns r = w :: ws) : wordsSigns (c :: r) = (c :: w) :: ws := by
  rw [wordsSigns.eq_def]
  split
  · rename_i h0; cases h0
  · rename_i h0; simp only [List.cons.injEq] at h0; exact absurd h0.1 h
  · rename_i h0; simp only [List.cons.injEq] at h0; obtain ⟨rfl, rfl⟩ := h0; rw [k]
theorem ws_word : ∀ (l r : List Char), l.all (fun c => !(c == Char.ofNat 32)) = true → wordsSigns (l ++ Char.ofNat 32 :: r) = l :: wordsSigns r
  | [], r, _ => by simp [wordsSigns]
  | c :: l, r, h => by
    simp only [List.all_cons, Bool.and_eq_true, Bool.not_eq_true', beq_eq_false_iff_ne] at h
    exact ws_one h.1 (ws_word l r h.2)
def chars (l : List Nat) : List Char := l.map Char.ofNat
def harness : List Char := chars [104, 97, 114, 110, 101, 115, 115]
def cut : List Char := chars [99, 117, 116]
theorem h1 : (harness == "harness".toList || harness == "ownmain".toList) = true := by kernel_rfl
theorem bm {w : List Char} (hs : isSumSigns w = true) (X : List (List Char)) : behindMainWord (harness :: w :: cut :: X) = cut :: X := by
  simp only [behindMainWord, h1, hs, Bool.and_self, if_true]
theorem c1 : (cut == "gc".toList) = false := by kernel_rfl
theorem c1' : (cut == "spec".toList) = false := by kernel_rfl
theorem c2 : (cut == "cut".toList) = true := by kernel_rfl
theorem c3 : (cut == "carried".toList) = false := by kernel_rfl
theorem sl (X : List (List Char)) : stripLifts liftWords (cut :: X) = ([], cut :: X) := by kernel_rfl
theorem make_of {P : Program} {w : List Char} {X : List (List Char)} (h : wordsSigns P.initOrder.toList = harness :: w :: cut :: X) (hs : isSumSigns w = true) : P.make = some .cut := by
  unfold Program.make
  rw [h, bm hs]
  simp only [c1, c1', c2, Bool.or_self, Bool.true_or, if_true, Bool.false_eq_true, if_false]
theorem lifts_of {P : Program} {w : List Char} {X : List (List Char)} (h : wordsSigns P.initOrder.toList = harness :: w :: cut :: X) (hs : isSumSigns w = true) : P.liftsFinal = false := by
  have e : (some cut == some "carried".toList) = false := c3
  unfold Program.liftsFinal Program.headLifts
  rw [h, bm hs, sl]
  simp only [List.head?_cons, e, Bool.false_and, Bool.false_or]
  rfl
theorem enter_of {P : Program} {w : List Char} {X : List (List Char)} (h : wordsSigns P.initOrder.toList = harness :: w :: cut :: X) (hs : isSumSigns w = true) (a : P.laysLater = false) (b : P.bearsReflect = false) (d : P.doorFits [] = true) : P.mayEnter = true := by
  have e : (some cut == some "cut".toList) = true := c2
  unfold Program.mayEnter
  rw [h, bm hs]
  simp only [c1, c1', c3, sl, a, b, d, List.head?_cons, e, Bool.or_self, Bool.false_and, Bool.false_or, Bool.true_and, Bool.and_true, Bool.not_false, Bool.or_true]
  rfl
theorem words_of {P : Program} {w r : List Char} (h : P.initOrder = String.ofList (harness ++ Char.ofNat 32 :: (w ++ Char.ofNat 32 :: (cut ++ Char.ofNat 32 :: r)))) (hs : w.all (fun c => !(c == Char.ofNat 32)) = true) :
    wordsSigns P.initOrder.toList = harness :: w :: cut :: wordsSigns r := by
  rw [h, String.toList_ofList, ws_word _ _ (by kernel_rfl), ws_word _ _ hs, ws_word _ _ (by kernel_rfl)]
end Go.Proofs.Ytceaambiagobbaa.Am
