/- The levels, with a word in the calls' way: what holds for every such word is checked without looking into the calls. -/
import Derived.Test.YtilffjjibcebmaaAmLim
namespace Go.Proofs.Ytilffjjibcebmaa.Am
open Go

def lvlW (w : CallF → CallF) (P : Program) (H : Hints) : Nat → LoopF × CallF
  | 0 => (fun _ _ _ _ => none, fun _ _ _ => none)
  | n + 1 =>
    (fun env bid c st => evalC P H env (lvlW w P H n).1 (w (lvlW w P H n).2) c bid st fun ex st' => match ex with
      | .nrm => canonK (H.live env.f bid) env.nimp st' fun st2 => (lvlW w P H n).1 env bid c st2
      | .exit j => canonEx (H.exits env.f bid) env.nimp (.exit j) st'
      | .ret => canonEx (H.exits env.f bid) env.nimp .ret st',
     fun f args m => evalBody P H (lvlW w P H n).1 (w (lvlW w P H n).2) f args m)
theorem lvlW_id (P : Program) (H : Hints) : lvlW (fun x => x) P H = lvl P H := by
  funext n
  induction n with
  | zero => rfl
  | succ n ih =>
    simp only [lvlW, lvl, ih]
    rfl
end Go.Proofs.Ytilffjjibcebmaa.Am
