/- A claim's own texts, laid together by wip/zip.py without what the claim does not use. Conditions: none. -/
import Derived.Test.YtdpihbhkghjclaaZcpx0
import Derived.Test.YtdpihbhkghjclaaZcpx36
section
/- The Go functions of this claim as Lean functions, and the proofs that their calls answer so: written by wip/myprint.py over the kit's printer, hand-proved contracts laid in. Conditions: none. -/
namespace Go.Proofs.Ytdpihbhkghjclaa.P
open Go.RowKit Go.Proofs.YtdpihbhkghjclaaW.PrintWords Go.Proofs.YtdpihbhkghjclaaW.PrintLast Go.Proofs.YtdpihbhkghjclaaW.PrintMore
attribute [local go_sem] max2_int min2_int max_two min_two max_three min_three max_four min_four   -- for this text's walks alone
set_option linter.unusedVariables false
set_option linter.unusedSimpArgs false
def slotmeshref10_Listen.T4 : Bool × List (List Nat × List Nat) := (true, [([], []), ([], []), ([], []), ([1, 2], [1, 2]), ([0, 3, 3], [0, 3]), ([4], [4]), ([5], [5]), ([5], [5]), ([6, 4, 0, 1, 2, 3, 4, 5, 6], [6]), ([7, 8, 0, 1, 2, 3, 4, 5, 6, 7, 8], [7])])
def slotmeshref10_Listen.B4 : List Nat := [0, 0, 0, 6, 15, 31, 63, 63, 127, 511]
theorem slotmeshref10_Listen.tab4 : rtab .any (opsOf Try.f26 4) = slotmeshref10_Listen.T4 := by kernel_rfl
theorem slotmeshref10_Listen.bits4 : waitsOk slotmeshref10_Listen.T4.2 slotmeshref10_Listen.B4 = true := by kernel_rfl
end Go.Proofs.Ytdpihbhkghjclaa.P
end
