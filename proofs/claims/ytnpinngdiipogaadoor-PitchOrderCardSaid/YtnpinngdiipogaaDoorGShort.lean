/- Short names for what a long walk says often. -/
import Derived.Test.YtnpinngdiipogaaDoorProg
import Derived.Test.YtnpinngdiipogaaDoorWWords
import Derived.Test.YtnpinngdiipogaaDoorWMore
namespace Go.Proofs.YtnpinngdiipogaaDoor.M
open Go.RowKit Go.Proofs.YtnpinngdiipogaaDoorW.PrintWords

theorem A0 {p : Prop} (h : p) : Aside0 p := ⟨h⟩
theorem bN {w : World} {g : Nat} {o : Obj} (h : w.heap[g]? = some o) (n : Nat) : (w.drewN n).heap[g]? = some o := h
theorem bD {w : World} {g : Nat} {o : Obj} (h : w.heap[g]? = some o) : w.drew.heap[g]? = some o := h
theorem bA {w : World} {g : Nat} {o : Obj} (h : w.heap[g]? = some o) (o' : Obj) : (w.alloc o').heap[g]? = some o := blk_alloc h o'
theorem q1 {α : Type} (l : List α) (i : Nat) (a : α) : l.toArray.setIfInBounds i a = (l.set i a).toArray := List.setIfInBounds_toArray l i a
theorem q2 {α : Type} (a b : α) (l : List α) : (a :: l).set 0 b = b :: l := List.set_cons_zero
theorem q3 {α : Type} (a b : α) (l : List α) (n : Nat) : (a :: l).set (n + 1) b = a :: l.set n b := List.set_cons_succ
/-- a block stands as it stood, over draws, new blocks and stores into other blocks -/
theorem zz {w0 w : World} {g : Nat} {o : Obj} (b : Aside0 (w0.heap[g]? = some o)) (h : w0.heap[g]? = some o → w.heap[g]? = some o := by intro h0_; (repeat (first | with_reducible refine bN ?_ _ | with_reducible refine bD ?_ | with_reducible refine bA ?_ _ | with_reducible refine blk_far ?_ (Aside0.out (by assumption)) _)); exact h0_) : w.heap[g]? = some o := h b.out
/-- what lay below lies so still -/
theorem ww {w W : World} (h : Below w.heap.size w W := by repeat (first | (with_reducible first | exact Aside0.out (by assumption) | apply below_alloc | apply pw_below_drewN | apply below_drew1 | refine below_set ?_ (Aside0.out (by assumption))) | exact Aside0.out (by assumption))) : Below w.heap.size w W := h
end Go.Proofs.YtnpinngdiipogaaDoor.M
