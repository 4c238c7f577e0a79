/- Short names of words, for a text that would be too long for a file. -/
import Derived.Test.YtfbkjgedaadlmaaV0
namespace Go.Proofs.Ytfbkjgedaadlmaa.X
set_option linter.unusedVariables false
open Go Go.RowKit Go.Proofs.YtfbkjgedaadlmaaW.PrintWords
abbrev bN := @blk_drewN
abbrev bD := @blk_drew
abbrev bA := @blk_alloc
abbrev AM := @Aside0.mk
theorem sT {α : Type} (l : List α) (i : Nat) (a : α) : l.toArray.setIfInBounds i a = (l.set i a).toArray := List.setIfInBounds_toArray ..
theorem sZ {α : Type} (b : α) (l : List α) (a : α) : (b :: l).set 0 a = a :: l := List.set_cons_zero
theorem sS {α : Type} (b : α) (l : List α) (n : Nat) (a : α) : (b :: l).set (n + 1) a = b :: l.set n a := List.set_cons_succ
/-- A block's holding, further on: nothing that came to pass has touched it. -/
theorem bK {w0 w : World} {g : Nat} {o : Obj} (b : Aside0 (w0.heap[g]? = some o)) (h : w0.heap[g]? = some o → w.heap[g]? = some o := by intro h; (repeat (first | (with_reducible first | refine blk_drewN ?_ _ | refine blk_drew ?_ | refine blk_alloc ?_ _) | refine blk_far ?_ (Aside0.out (by assumption)) _)); exact h) : w.heap[g]? = some o := h b.out
/-- What lay below at the start is still as it was. -/
theorem bH {w w0 w1 : World} (b : Aside0 (Below w.heap.size w w0)) (h : Below w.heap.size w w0 → Below w.heap.size w w1 := by intro h; repeat (first | (with_reducible first | exact h | apply below_alloc | apply pw_below_drewN | apply below_drew1 | refine below_set ?_ (Aside0.out (by assumption))) | exact h)) : Below w.heap.size w w1 := h b.out
/-- What a slice reads, further on. -/
theorem rK {α : Type} {d : Kd α} {e base : Nat} {ok : Nat → Prop} {w0 w : World} {v : Value} {xs : List α} (b : Aside0 (Kd.R d e w0 base ok v xs)) (h : Kd.R d e w0 base ok v xs → Kd.R d e w base ok v xs := by intro h; (with_reducible repeat (first | apply Kd.R_alloc | apply Kd.R_drewN | apply Kd.R_drew)); exact h) : Kd.R d e w base ok v xs := h b.out
end Go.Proofs.Ytfbkjgedaadlmaa.X
