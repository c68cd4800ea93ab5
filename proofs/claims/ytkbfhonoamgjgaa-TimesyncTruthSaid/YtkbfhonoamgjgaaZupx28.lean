/- A claim's own texts, laid together by wip/zip.py without what the claim does not use. Conditions: none. -/
import Derived.Test.YtkbfhonoamgjgaaZupx0
import Derived.Test.YtkbfhonoamgjgaaZupx19
import Derived.BigRegion
import Derived.Defers
import Derived.Recover
import Derived.LaidEql
import Derived.Stop.Asserts
import Derived.WalkLawsBesides
import Derived.RowKitTokens
section
/- The Go functions of this claim as Lean functions, and the proofs that their calls answer so: written by wip/myprint.py over the kit's printer, hand-proved contracts laid in. Conditions: none. -/
namespace Go.Proofs.Ytkbfhonoamgjgaa.P
open Go.RowKit Go.Proofs.YtkbfhonoamgjgaaW.PrintWords Go.Proofs.YtkbfhonoamgjgaaW.PrintLast Go.Proofs.YtkbfhonoamgjgaaW.PrintMore
attribute [local go_sem] max2_int min2_int max_two min_two max_three min_three max_four min_four   -- for this text's walks alone
set_option linter.unusedVariables false
set_option linter.unusedSimpArgs false
/-! ### slotmeshref08_Meet: function 33 (proved by hand) -/
def slotmeshref08_Meet.fin (x0 x1 y0 y1 t e f : Int) : Option (Int × Int × Int × Int) :=
  if e = 0 then (if f = 0 then (if mx x0 y0 > mn x1 y1 then some (0, 0, 0, 16) else some (mx x0 y0, mn x1 y1, t, 0)) else some (0, 0, 0, 3)) else some (0, 0, 0, 3)
theorem slotmeshref08_Meet.blk_at_new_ {W : World} {o : Obj} {g : Nat} (h : g = W.heap.size) : (W.alloc o).heap[g]? = some o := by subst h; exact blk_new W o
theorem slotmeshref08_Meet.max2 (k k' : IntKind) (x y : Int) : Builtin.max2 (.int k x) (.int k' y) = pure (.int k (mx x y)) := by rw [max2_int]; rfl
theorem slotmeshref08_Meet.min2 (k k' : IntKind) (x y : Int) : Builtin.min2 (.int k x) (.int k' y) = pure (.int k (mn x y)) := by rw [min2_int]; rfl
section
attribute [local go_sem high] slotmeshref08_Meet.max2 slotmeshref08_Meet.min2
open slotmeshref08_Meet (blk_at_new_)
end
end Go.Proofs.Ytkbfhonoamgjgaa.P
end
