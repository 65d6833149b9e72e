/- The levels, with a word in the way of calls and of loops: what holds for every such word is checked without looking into the calls, nor into a loop's next round. -/
import Derived.Test.YtceaambiagobbaaAmLim
namespace Go.Proofs.Ytceaambiagobbaa.Am
open Go

def lvlW (w : CallF → CallF) (v : LoopF → LoopF) (sy : Nat → Nat → Bool) (P : Program) (H : Hints) : Nat → LoopF × CallF
  | 0 => (fun _ _ _ _ => none, fun _ _ _ => none)
  | n + 1 =>
    (fun env bid c st => evalC P H env (fun env bid c st => bif sy env.f bid then v (lvlW w v sy P H n).1 env bid c st else (lvlW w v sy P H n).1 env bid c st) (w (lvlW w v sy P H n).2) c bid st fun ex st' => match ex with
      | .nrm => canonK (H.live env.f bid) env.nimp st' fun st2 => bif sy env.f bid then v (lvlW w v sy P H n).1 env bid c st2 else (lvlW w v sy P H n).1 env bid c st2
      | .exit j => canonEx (H.exits env.f bid) env.nimp (.exit j) st'
      | .ret => canonEx (H.exits env.f bid) env.nimp .ret st',
     fun f args m => evalBody P H (fun env bid c st => bif sy env.f bid then v (lvlW w v sy P H n).1 env bid c st else (lvlW w v sy P H n).1 env bid c st) (w (lvlW w v sy P H n).2) f args m)
theorem cond_same {α : Type} (b : Bool) (x : α) : (bif b then x else x) = x := by cases b <;> rfl
theorem lvlW_id (sy : Nat → Nat → Bool) (P : Program) (H : Hints) : lvlW (fun x => x) (fun x => x) sy P H = lvl P H := by
  funext n
  induction n with
  | zero => rfl
  | succ n ih =>
    simp only [lvlW, lvl, ih, cond_same]
    rfl
end Go.Proofs.Ytceaambiagobbaa.Am
