/- A claim's own texts, laid together by wip/zip.py without what the claim does not use. Conditions: none. -/
import Derived.Test.YtkbfhonoamgjgaaZmpx0
import Derived.Test.YtkbfhonoamgjgaaZmpx1
import Derived.Test.YtkbfhonoamgjgaaZmpx12
import Derived.Test.YtkbfhonoamgjgaaZmpx15
import Derived.Test.YtkbfhonoamgjgaaZmpx16
import Derived.Test.YtkbfhonoamgjgaaZmpx17
import Derived.Test.YtkbfhonoamgjgaaZmpx18
import Derived.Test.YtkbfhonoamgjgaaZmpx29
import Derived.Test.YtkbfhonoamgjgaaZmpx31
import Derived.Test.YtkbfhonoamgjgaaZmpx32
import Derived.Test.YtkbfhonoamgjgaaZmpx33
section
/- The Go functions of this claim as Lean functions, and the proofs that their calls answer so: written by wip/myprint.py over the kit's printer, hand-proved contracts laid in. Conditions: none. -/
namespace Go.Proofs.Ytkbfhonoamgjgaa.P
open Go.RowKit Go.Proofs.YtkbfhonoamgjgaaW.PrintWords Go.Proofs.YtkbfhonoamgjgaaW.PrintLast Go.Proofs.YtkbfhonoamgjgaaW.PrintMore
attribute [local go_sem] max2_int min2_int max_two min_two max_three min_three max_four min_four   -- for this text's walks alone
set_option linter.unusedVariables false
set_option linter.unusedSimpArgs false
attribute [local go_sem high] eqA25
/-! ### L9_TimesyncMatchesReference: function 3 -/
def L9_TimesyncMatchesReference.f (k : Nat) (a0_0 : Bool) (a0_1 : Int) (a0_2 : Int) (a0_3 : Int) (a0_4 : Int) (a0_5 : Int) (a0_6 : Int) (a1_0 : Int) (a1_1 : Int) (a1_2 : Int) (a1_3 : Int) (a1_4 : Int) (a2 : Int) (a3 : Bool) : Option (Bool) := (L9_head.f k).bind fun t321 => ((timesync_Hear.f k a0_0 a0_1 a0_2 a0_3 a0_4 a0_5 a0_6 a1_0 a1_1 a1_2 a1_3 a1_4).bind fun bt322 => ((R9_Hear.f k a0_0 a0_1 a0_2 a0_3 a0_4 a0_5 a0_6 a1_0 a1_1 a1_2 a1_3 a1_4).bind fun bt331 => ((timesync_Bound.f k a0_0 a0_1 a0_2 a0_3 a0_4 a0_5 a0_6 a2).bind fun bt340 => ((R9_Bound.f k a0_0 a0_1 a0_2 a0_3 a0_4 a0_5 a0_6 a2).bind fun bt342 => (if t321 = true then (if (bt322.1 == bt331.1 && ((bt322.2.1 == bt331.2.1 && (bt322.2.2.1 == bt331.2.2.1 && (bt322.2.2.2.1 == bt331.2.2.2.1))) && (bt322.2.2.2.2.1 == bt331.2.2.2.2.1 && (bt322.2.2.2.2.2.1 == bt331.2.2.2.2.2.1 && (bt322.2.2.2.2.2.2.1 == bt331.2.2.2.2.2.2.1))))) = true then (if bt322.2.2.2.2.2.2.2 = bt331.2.2.2.2.2.2.2 then (if bt340.1 = bt342.1 then (if bt340.2 = bt342.2 then ((timesync_Tick.f k a0_0 a0_1 a0_2 a0_3 a0_4 a0_5 a0_6 a2).bind fun bt344 => ((R9_Tick.f k a0_0 a0_1 a0_2 a0_3 a0_4 a0_5 a0_6 a2).bind fun bt351 => (if (bt344.1 == bt351.1 && ((bt344.2.1 == bt351.2.1 && (bt344.2.2.1 == bt351.2.2.1 && (bt344.2.2.2.1 == bt351.2.2.2.1))) && (bt344.2.2.2.2.1 == bt351.2.2.2.2.1 && (bt344.2.2.2.2.2.1 == bt351.2.2.2.2.2.1 && (bt344.2.2.2.2.2.2 == bt351.2.2.2.2.2.2))))) = true then ((timesync_Start.f a3).bind fun bt358 => ((R9_Start.f a3).bind fun bt365 => (some (bt358.1 == bt365.1 && ((bt358.2.1 == bt365.2.1 && (bt358.2.2.1 == bt365.2.2.1 && (bt358.2.2.2.1 == bt365.2.2.2.1))) && (bt358.2.2.2.2.1 == bt365.2.2.2.2.1 && (bt358.2.2.2.2.2.1 == bt365.2.2.2.2.2.1 && (bt358.2.2.2.2.2.2 == bt365.2.2.2.2.2.2)))))))) else (none)))) else (none)) else (none)) else (none)) else (none)) else (none))))))
def L9_TimesyncMatchesReference.T6 : Bool × List (List Nat × List Nat) := (true, [([], []), ([0], [0]), ([1], [1]), ([1], [1]), ([2, 3, 1], [1, 2, 3]), ([1, 4], [1, 4]), ([5, 1], [5]), ([6], [6]), ([6], [6]), ([7, 8, 6], [6, 7, 8]), ([6, 9], [6, 9]), ([10, 6], [10]), ([11], [11]), ([11], [11]), ([12, 13, 11], [11, 12, 13]), ([11, 14], [11, 14]), ([15, 11], [15]), ([16], [16]), ([16], [16]), ([17, 18, 16], [16, 17, 18]), ([16, 19], [16, 19]), ([20, 16], [20]), ([21], [21]), ([21], [21]), ([22, 23, 21, 21], [21, 22, 23]), ([21], [21]), ([21], [21]), ([25, 26, 24, 21], [21, 25, 26]), ([24, 27, 21], [21, 24, 27]), ([21, 28], [21, 28]), ([29, 27], [29]), ([30], [30]), ([31, 30, 30], [30, 31]), ([30], [30]), ([33, 32, 30], [30, 33]), ([32, 34, 30], [30, 32, 34]), ([30, 35], [30, 35]), ([36, 34, 0, 1, 2, 3, 4, 5, 6, 7, 8, 9, 10, 11, 12, 13, 14, 15, 16, 17, 18, 19, 20, 21, 22, 23, 24, 25, 26, 27, 28, 29, 30, 31, 32, 33, 34, 35, 36], [36])])
def L9_TimesyncMatchesReference.B6 : List Nat := [0, 1, 3, 3, 15, 31, 63, 127, 127, 511, 1023, 2047, 4095, 4095, 16383, 32767, 65535, 131071, 131071, 524287, 1048575, 2097151, 4194303, 4194303, 16777215, 4194303, 4194303, 134217727, 268435455, 536870911, 1073741823, 2147483647, 4294967295, 2147483647, 17179869183, 34359738367, 68719476735, 137438953471]
theorem L9_TimesyncMatchesReference.tab6 : rtab .any (opsOf Try.f3 6) = L9_TimesyncMatchesReference.T6 := by kernel_rfl
theorem L9_TimesyncMatchesReference.bits6 : waitsOk L9_TimesyncMatchesReference.T6.2 L9_TimesyncMatchesReference.B6 = true := by kernel_rfl
set_option maxHeartbeats 8000000 in
set_option maxRecDepth 100000 in
theorem L9_TimesyncMatchesReference.calls (k : Nat) (a0_0 : Bool) (a0_1 : Int) (a0_2 : Int) (a0_3 : Int) (a0_4 : Int) (a0_5 : Int) (a0_6 : Int) (a1_0 : Int) (a1_1 : Int) (a1_2 : Int) (a1_3 : Int) (a1_4 : Int) (a2 : Int) (a3 : Bool) (r : Bool) (w : World) (h : L9_TimesyncMatchesReference.f k a0_0 a0_1 a0_2 a0_3 a0_4 a0_5 a0_6 a1_0 a1_1 a1_2 a1_3 a1_4 a2 a3 = some r) :
    Calls Try.prog 3 #[.agg #[.bool a0_0, .int .i64 a0_1, .int .i64 a0_2, .int .i64 a0_3, .int .i64 a0_4, .int .i64 a0_5, .int .i64 a0_6], .agg #[.int .i64 a1_0, .int .i64 a1_1, .int .i64 a1_2, .int .i64 a1_3, .int .i64 a1_4], .int .i64 a2, .bool a3] w fun e w' => e = .returned (.bool r) ∧ Below w.heap.size w w' := by
  have hu25 := Try.underlying25
  have hu27 := Try.underlying27
  have HB := Aside0.mk (Below.refl w.heap.size w)
  have H : ((L9_head.f k).bind fun t321 => ((timesync_Hear.f k a0_0 a0_1 a0_2 a0_3 a0_4 a0_5 a0_6 a1_0 a1_1 a1_2 a1_3 a1_4).bind fun bt322 => ((R9_Hear.f k a0_0 a0_1 a0_2 a0_3 a0_4 a0_5 a0_6 a1_0 a1_1 a1_2 a1_3 a1_4).bind fun bt331 => ((timesync_Bound.f k a0_0 a0_1 a0_2 a0_3 a0_4 a0_5 a0_6 a2).bind fun bt340 => ((R9_Bound.f k a0_0 a0_1 a0_2 a0_3 a0_4 a0_5 a0_6 a2).bind fun bt342 => (if t321 = true then (if (bt322.1 == bt331.1 && ((bt322.2.1 == bt331.2.1 && (bt322.2.2.1 == bt331.2.2.1 && (bt322.2.2.2.1 == bt331.2.2.2.1))) && (bt322.2.2.2.2.1 == bt331.2.2.2.2.1 && (bt322.2.2.2.2.2.1 == bt331.2.2.2.2.2.1 && (bt322.2.2.2.2.2.2.1 == bt331.2.2.2.2.2.2.1))))) = true then (if bt322.2.2.2.2.2.2.2 = bt331.2.2.2.2.2.2.2 then (if bt340.1 = bt342.1 then (if bt340.2 = bt342.2 then ((timesync_Tick.f k a0_0 a0_1 a0_2 a0_3 a0_4 a0_5 a0_6 a2).bind fun bt344 => ((R9_Tick.f k a0_0 a0_1 a0_2 a0_3 a0_4 a0_5 a0_6 a2).bind fun bt351 => (if (bt344.1 == bt351.1 && ((bt344.2.1 == bt351.2.1 && (bt344.2.2.1 == bt351.2.2.1 && (bt344.2.2.2.1 == bt351.2.2.2.1))) && (bt344.2.2.2.2.1 == bt351.2.2.2.2.1 && (bt344.2.2.2.2.2.1 == bt351.2.2.2.2.2.1 && (bt344.2.2.2.2.2.2 == bt351.2.2.2.2.2.2))))) = true then ((timesync_Start.f a3).bind fun bt358 => ((R9_Start.f a3).bind fun bt365 => (some (bt358.1 == bt365.1 && ((bt358.2.1 == bt365.2.1 && (bt358.2.2.1 == bt365.2.2.1 && (bt358.2.2.2.1 == bt365.2.2.2.1))) && (bt358.2.2.2.2.1 == bt365.2.2.2.2.1 && (bt358.2.2.2.2.2.1 == bt365.2.2.2.2.2.1 && (bt358.2.2.2.2.2.2 == bt365.2.2.2.2.2.2)))))))) else (none)))) else (none)) else (none)) else (none)) else (none)) else (none))))))) = some r := h
  clear h
  replace H := Option.bind_eq_some_iff.mp H
  obtain ⟨t321, A50, H⟩ := H
  replace H : ((timesync_Hear.f k a0_0 a0_1 a0_2 a0_3 a0_4 a0_5 a0_6 a1_0 a1_1 a1_2 a1_3 a1_4).bind fun bt322 => ((R9_Hear.f k a0_0 a0_1 a0_2 a0_3 a0_4 a0_5 a0_6 a1_0 a1_1 a1_2 a1_3 a1_4).bind fun bt331 => ((timesync_Bound.f k a0_0 a0_1 a0_2 a0_3 a0_4 a0_5 a0_6 a2).bind fun bt340 => ((R9_Bound.f k a0_0 a0_1 a0_2 a0_3 a0_4 a0_5 a0_6 a2).bind fun bt342 => (if t321 = true then (if (bt322.1 == bt331.1 && ((bt322.2.1 == bt331.2.1 && (bt322.2.2.1 == bt331.2.2.1 && (bt322.2.2.2.1 == bt331.2.2.2.1))) && (bt322.2.2.2.2.1 == bt331.2.2.2.2.1 && (bt322.2.2.2.2.2.1 == bt331.2.2.2.2.2.1 && (bt322.2.2.2.2.2.2.1 == bt331.2.2.2.2.2.2.1))))) = true then (if bt322.2.2.2.2.2.2.2 = bt331.2.2.2.2.2.2.2 then (if bt340.1 = bt342.1 then (if bt340.2 = bt342.2 then ((timesync_Tick.f k a0_0 a0_1 a0_2 a0_3 a0_4 a0_5 a0_6 a2).bind fun bt344 => ((R9_Tick.f k a0_0 a0_1 a0_2 a0_3 a0_4 a0_5 a0_6 a2).bind fun bt351 => (if (bt344.1 == bt351.1 && ((bt344.2.1 == bt351.2.1 && (bt344.2.2.1 == bt351.2.2.1 && (bt344.2.2.2.1 == bt351.2.2.2.1))) && (bt344.2.2.2.2.1 == bt351.2.2.2.2.1 && (bt344.2.2.2.2.2.1 == bt351.2.2.2.2.2.1 && (bt344.2.2.2.2.2.2 == bt351.2.2.2.2.2.2))))) = true then ((timesync_Start.f a3).bind fun bt358 => ((R9_Start.f a3).bind fun bt365 => (some (bt358.1 == bt365.1 && ((bt358.2.1 == bt365.2.1 && (bt358.2.2.1 == bt365.2.2.1 && (bt358.2.2.2.1 == bt365.2.2.2.1))) && (bt358.2.2.2.2.1 == bt365.2.2.2.2.1 && (bt358.2.2.2.2.2.1 == bt365.2.2.2.2.2.1 && (bt358.2.2.2.2.2.2 == bt365.2.2.2.2.2.2)))))))) else (none)))) else (none)) else (none)) else (none)) else (none)) else (none)))))) = some r := H
  have A5 := Aside0.mk A50
  clear A50
  replace H := Option.bind_eq_some_iff.mp H
  obtain ⟨⟨t322, t323, t324, t325, t326, t327, t328, t329⟩, A60, H⟩ := H
  replace H : ((R9_Hear.f k a0_0 a0_1 a0_2 a0_3 a0_4 a0_5 a0_6 a1_0 a1_1 a1_2 a1_3 a1_4).bind fun bt331 => ((timesync_Bound.f k a0_0 a0_1 a0_2 a0_3 a0_4 a0_5 a0_6 a2).bind fun bt340 => ((R9_Bound.f k a0_0 a0_1 a0_2 a0_3 a0_4 a0_5 a0_6 a2).bind fun bt342 => (if t321 = true then (if (t322 == bt331.1 && ((t323 == bt331.2.1 && (t324 == bt331.2.2.1 && (t325 == bt331.2.2.2.1))) && (t326 == bt331.2.2.2.2.1 && (t327 == bt331.2.2.2.2.2.1 && (t328 == bt331.2.2.2.2.2.2.1))))) = true then (if t329 = bt331.2.2.2.2.2.2.2 then (if bt340.1 = bt342.1 then (if bt340.2 = bt342.2 then ((timesync_Tick.f k a0_0 a0_1 a0_2 a0_3 a0_4 a0_5 a0_6 a2).bind fun bt344 => ((R9_Tick.f k a0_0 a0_1 a0_2 a0_3 a0_4 a0_5 a0_6 a2).bind fun bt351 => (if (bt344.1 == bt351.1 && ((bt344.2.1 == bt351.2.1 && (bt344.2.2.1 == bt351.2.2.1 && (bt344.2.2.2.1 == bt351.2.2.2.1))) && (bt344.2.2.2.2.1 == bt351.2.2.2.2.1 && (bt344.2.2.2.2.2.1 == bt351.2.2.2.2.2.1 && (bt344.2.2.2.2.2.2 == bt351.2.2.2.2.2.2))))) = true then ((timesync_Start.f a3).bind fun bt358 => ((R9_Start.f a3).bind fun bt365 => (some (bt358.1 == bt365.1 && ((bt358.2.1 == bt365.2.1 && (bt358.2.2.1 == bt365.2.2.1 && (bt358.2.2.2.1 == bt365.2.2.2.1))) && (bt358.2.2.2.2.1 == bt365.2.2.2.2.1 && (bt358.2.2.2.2.2.1 == bt365.2.2.2.2.2.1 && (bt358.2.2.2.2.2.2 == bt365.2.2.2.2.2.2)))))))) else (none)))) else (none)) else (none)) else (none)) else (none)) else (none))))) = some r := H
  have A6 := Aside0.mk A60
  clear A60
  replace H := Option.bind_eq_some_iff.mp H
  obtain ⟨⟨t331, t332, t333, t334, t335, t336, t337, t338⟩, A70, H⟩ := H
  replace H : ((timesync_Bound.f k a0_0 a0_1 a0_2 a0_3 a0_4 a0_5 a0_6 a2).bind fun bt340 => ((R9_Bound.f k a0_0 a0_1 a0_2 a0_3 a0_4 a0_5 a0_6 a2).bind fun bt342 => (if t321 = true then (if (t322 == t331 && ((t323 == t332 && (t324 == t333 && (t325 == t334))) && (t326 == t335 && (t327 == t336 && (t328 == t337))))) = true then (if t329 = t338 then (if bt340.1 = bt342.1 then (if bt340.2 = bt342.2 then ((timesync_Tick.f k a0_0 a0_1 a0_2 a0_3 a0_4 a0_5 a0_6 a2).bind fun bt344 => ((R9_Tick.f k a0_0 a0_1 a0_2 a0_3 a0_4 a0_5 a0_6 a2).bind fun bt351 => (if (bt344.1 == bt351.1 && ((bt344.2.1 == bt351.2.1 && (bt344.2.2.1 == bt351.2.2.1 && (bt344.2.2.2.1 == bt351.2.2.2.1))) && (bt344.2.2.2.2.1 == bt351.2.2.2.2.1 && (bt344.2.2.2.2.2.1 == bt351.2.2.2.2.2.1 && (bt344.2.2.2.2.2.2 == bt351.2.2.2.2.2.2))))) = true then ((timesync_Start.f a3).bind fun bt358 => ((R9_Start.f a3).bind fun bt365 => (some (bt358.1 == bt365.1 && ((bt358.2.1 == bt365.2.1 && (bt358.2.2.1 == bt365.2.2.1 && (bt358.2.2.2.1 == bt365.2.2.2.1))) && (bt358.2.2.2.2.1 == bt365.2.2.2.2.1 && (bt358.2.2.2.2.2.1 == bt365.2.2.2.2.2.1 && (bt358.2.2.2.2.2.2 == bt365.2.2.2.2.2.2)))))))) else (none)))) else (none)) else (none)) else (none)) else (none)) else (none)))) = some r := H
  have A7 := Aside0.mk A70
  clear A70
  replace H := Option.bind_eq_some_iff.mp H
  obtain ⟨⟨t340, t341⟩, A80, H⟩ := H
  replace H : ((R9_Bound.f k a0_0 a0_1 a0_2 a0_3 a0_4 a0_5 a0_6 a2).bind fun bt342 => (if t321 = true then (if (t322 == t331 && ((t323 == t332 && (t324 == t333 && (t325 == t334))) && (t326 == t335 && (t327 == t336 && (t328 == t337))))) = true then (if t329 = t338 then (if t340 = bt342.1 then (if t341 = bt342.2 then ((timesync_Tick.f k a0_0 a0_1 a0_2 a0_3 a0_4 a0_5 a0_6 a2).bind fun bt344 => ((R9_Tick.f k a0_0 a0_1 a0_2 a0_3 a0_4 a0_5 a0_6 a2).bind fun bt351 => (if (bt344.1 == bt351.1 && ((bt344.2.1 == bt351.2.1 && (bt344.2.2.1 == bt351.2.2.1 && (bt344.2.2.2.1 == bt351.2.2.2.1))) && (bt344.2.2.2.2.1 == bt351.2.2.2.2.1 && (bt344.2.2.2.2.2.1 == bt351.2.2.2.2.2.1 && (bt344.2.2.2.2.2.2 == bt351.2.2.2.2.2.2))))) = true then ((timesync_Start.f a3).bind fun bt358 => ((R9_Start.f a3).bind fun bt365 => (some (bt358.1 == bt365.1 && ((bt358.2.1 == bt365.2.1 && (bt358.2.2.1 == bt365.2.2.1 && (bt358.2.2.2.1 == bt365.2.2.2.1))) && (bt358.2.2.2.2.1 == bt365.2.2.2.2.1 && (bt358.2.2.2.2.2.1 == bt365.2.2.2.2.2.1 && (bt358.2.2.2.2.2.2 == bt365.2.2.2.2.2.2)))))))) else (none)))) else (none)) else (none)) else (none)) else (none)) else (none))) = some r := H
  have A8 := Aside0.mk A80
  clear A80
  replace H := Option.bind_eq_some_iff.mp H
  obtain ⟨⟨t342, t343⟩, A90, H⟩ := H
  replace H : (if t321 = true then (if (t322 == t331 && ((t323 == t332 && (t324 == t333 && (t325 == t334))) && (t326 == t335 && (t327 == t336 && (t328 == t337))))) = true then (if t329 = t338 then (if t340 = t342 then (if t341 = t343 then ((timesync_Tick.f k a0_0 a0_1 a0_2 a0_3 a0_4 a0_5 a0_6 a2).bind fun bt344 => ((R9_Tick.f k a0_0 a0_1 a0_2 a0_3 a0_4 a0_5 a0_6 a2).bind fun bt351 => (if (bt344.1 == bt351.1 && ((bt344.2.1 == bt351.2.1 && (bt344.2.2.1 == bt351.2.2.1 && (bt344.2.2.2.1 == bt351.2.2.2.1))) && (bt344.2.2.2.2.1 == bt351.2.2.2.2.1 && (bt344.2.2.2.2.2.1 == bt351.2.2.2.2.2.1 && (bt344.2.2.2.2.2.2 == bt351.2.2.2.2.2.2))))) = true then ((timesync_Start.f a3).bind fun bt358 => ((R9_Start.f a3).bind fun bt365 => (some (bt358.1 == bt365.1 && ((bt358.2.1 == bt365.2.1 && (bt358.2.2.1 == bt365.2.2.1 && (bt358.2.2.2.1 == bt365.2.2.2.1))) && (bt358.2.2.2.2.1 == bt365.2.2.2.2.1 && (bt358.2.2.2.2.2.1 == bt365.2.2.2.2.2.1 && (bt358.2.2.2.2.2.2 == bt365.2.2.2.2.2.2)))))))) else (none)))) else (none)) else (none)) else (none)) else (none)) else (none)) = some r := H
  have A9 := Aside0.mk A90
  clear A90
  by_cases c10 : t321 = true
  · subst c10
    have H1 : (if (t322 == t331 && ((t323 == t332 && (t324 == t333 && (t325 == t334))) && (t326 == t335 && (t327 == t336 && (t328 == t337))))) = true then (if t329 = t338 then (if t340 = t342 then (if t341 = t343 then ((timesync_Tick.f k a0_0 a0_1 a0_2 a0_3 a0_4 a0_5 a0_6 a2).bind fun bt344 => ((R9_Tick.f k a0_0 a0_1 a0_2 a0_3 a0_4 a0_5 a0_6 a2).bind fun bt351 => (if (bt344.1 == bt351.1 && ((bt344.2.1 == bt351.2.1 && (bt344.2.2.1 == bt351.2.2.1 && (bt344.2.2.2.1 == bt351.2.2.2.1))) && (bt344.2.2.2.2.1 == bt351.2.2.2.2.1 && (bt344.2.2.2.2.2.1 == bt351.2.2.2.2.2.1 && (bt344.2.2.2.2.2.2 == bt351.2.2.2.2.2.2))))) = true then ((timesync_Start.f a3).bind fun bt358 => ((R9_Start.f a3).bind fun bt365 => (some (bt358.1 == bt365.1 && ((bt358.2.1 == bt365.2.1 && (bt358.2.2.1 == bt365.2.2.1 && (bt358.2.2.2.1 == bt365.2.2.2.1))) && (bt358.2.2.2.2.1 == bt365.2.2.2.2.1 && (bt358.2.2.2.2.2.1 == bt365.2.2.2.2.2.1 && (bt358.2.2.2.2.2.2 == bt365.2.2.2.2.2.2)))))))) else (none)))) else (none)) else (none)) else (none)) else (none)) = some r := by rw [if_pos rfl] at H; exact H
    clear H
    have H := H1
    clear H1
    by_cases c11 : (t322 == t331 && ((t323 == t332 && (t324 == t333 && (t325 == t334))) && (t326 == t335 && (t327 == t336 && (t328 == t337))))) = true
    · rw [if_pos c11] at H
      have c11b0 : (t322 == t331 && ((t323 == t332 && (t324 == t333 && (t325 == t334))) && (t326 == t335 && (t327 == t336 && (t328 == t337))))) = true := c11
      (try (have c11b1 : decide (t322 = t331 && ((t323 == t332 && (t324 == t333 && (t325 == t334))) && (t326 == t335 && (t327 == t336 && (t328 == t337))))) = true := by simpa using c11))
      (try (have c11b2 : (t322 == t331 && ((t323 == t332 && (t324 == t333 && (t325 == t334))) && (t326 == t335 && (t327 == t336 && (t328 == t337))))) = true := by simpa using c11))
      clear c11
      by_cases c12 : t329 = t338
      · rw [if_pos c12] at H
        have c12b0 : (t329 == t338) = true := beq_iff_eq.mpr c12
        have c12b1 : (t329 != t338) = false := bne_eq_false_iff_eq.mpr c12
        clear c12
        by_cases c13 : t340 = t342
        · rw [if_pos c13] at H
          have c13b0 : (t340 == t342) = true := beq_iff_eq.mpr c13
          have c13b1 : (t340 != t342) = false := bne_eq_false_iff_eq.mpr c13
          clear c13
          by_cases c14 : t341 = t343
          · rw [if_pos c14] at H
            have c14b0 : (t341 == t343) = true := beq_iff_eq.mpr c14
            have c14b1 : (t341 != t343) = false := bne_eq_false_iff_eq.mpr c14
            clear c14
            replace H := Option.bind_eq_some_iff.mp H
            obtain ⟨⟨t344, t345, t346, t347, t348, t349, t350⟩, A150, H⟩ := H
            replace H : ((R9_Tick.f k a0_0 a0_1 a0_2 a0_3 a0_4 a0_5 a0_6 a2).bind fun bt351 => (if (t344 == bt351.1 && ((t345 == bt351.2.1 && (t346 == bt351.2.2.1 && (t347 == bt351.2.2.2.1))) && (t348 == bt351.2.2.2.2.1 && (t349 == bt351.2.2.2.2.2.1 && (t350 == bt351.2.2.2.2.2.2))))) = true then ((timesync_Start.f a3).bind fun bt358 => ((R9_Start.f a3).bind fun bt365 => (some (bt358.1 == bt365.1 && ((bt358.2.1 == bt365.2.1 && (bt358.2.2.1 == bt365.2.2.1 && (bt358.2.2.2.1 == bt365.2.2.2.1))) && (bt358.2.2.2.2.1 == bt365.2.2.2.2.1 && (bt358.2.2.2.2.2.1 == bt365.2.2.2.2.2.1 && (bt358.2.2.2.2.2.2 == bt365.2.2.2.2.2.2)))))))) else (none))) = some r := H
            have A15 := Aside0.mk A150
            clear A150
            replace H := Option.bind_eq_some_iff.mp H
            obtain ⟨⟨t351, t352, t353, t354, t355, t356, t357⟩, A160, H⟩ := H
            replace H : (if (t344 == t351 && ((t345 == t352 && (t346 == t353 && (t347 == t354))) && (t348 == t355 && (t349 == t356 && (t350 == t357))))) = true then ((timesync_Start.f a3).bind fun bt358 => ((R9_Start.f a3).bind fun bt365 => (some (bt358.1 == bt365.1 && ((bt358.2.1 == bt365.2.1 && (bt358.2.2.1 == bt365.2.2.1 && (bt358.2.2.2.1 == bt365.2.2.2.1))) && (bt358.2.2.2.2.1 == bt365.2.2.2.2.1 && (bt358.2.2.2.2.2.1 == bt365.2.2.2.2.2.1 && (bt358.2.2.2.2.2.2 == bt365.2.2.2.2.2.2)))))))) else (none)) = some r := H
            have A16 := Aside0.mk A160
            clear A160
            by_cases c17 : (t344 == t351 && ((t345 == t352 && (t346 == t353 && (t347 == t354))) && (t348 == t355 && (t349 == t356 && (t350 == t357))))) = true
            · rw [if_pos c17] at H
              have c17b0 : (t344 == t351 && ((t345 == t352 && (t346 == t353 && (t347 == t354))) && (t348 == t355 && (t349 == t356 && (t350 == t357))))) = true := c17
              (try (have c17b1 : decide (t344 = t351 && ((t345 == t352 && (t346 == t353 && (t347 == t354))) && (t348 == t355 && (t349 == t356 && (t350 == t357))))) = true := by simpa using c17))
              (try (have c17b2 : (t344 == t351 && ((t345 == t352 && (t346 == t353 && (t347 == t354))) && (t348 == t355 && (t349 == t356 && (t350 == t357))))) = true := by simpa using c17))
              clear c17
              replace H := Option.bind_eq_some_iff.mp H
              obtain ⟨⟨t358, t359, t360, t361, t362, t363, t364⟩, A180, H⟩ := H
              replace H : ((R9_Start.f a3).bind fun bt365 => (some (t358 == bt365.1 && ((t359 == bt365.2.1 && (t360 == bt365.2.2.1 && (t361 == bt365.2.2.2.1))) && (t362 == bt365.2.2.2.2.1 && (t363 == bt365.2.2.2.2.2.1 && (t364 == bt365.2.2.2.2.2.2))))))) = some r := H
              have A18 := Aside0.mk A180
              clear A180
              replace H := Option.bind_eq_some_iff.mp H
              obtain ⟨⟨t365, t366, t367, t368, t369, t370, t371⟩, A190, H⟩ := H
              replace H : (some (t358 == t365 && ((t359 == t366 && (t360 == t367 && (t361 == t368))) && (t362 == t369 && (t363 == t370 && (t364 == t371)))))) = some r := H
              have A19 := Aside0.mk A190
              clear A190
              obtain rfl := Option.some.inj H
              go_enter Try.func3, Try.ntmps3
              try go_wp2_with (first | ((with_reducible refine zr (N := 4) rfl ?_); refine zq ?hg (N := 4) ?hd (cs := #[.bool a0_0, .int .i64 a0_1, .int .i64 a0_2, .int .i64 a0_3, .int .i64 a0_4, .int .i64 a0_5, .int .i64 a0_6]) (t := 25) ?hr ?_; (case hd => rfl); (case hg => rfl); (case hr => first | (go_simp; done) | (go_simp; rfl)); intro gb319 hg w20 hbox hb; have n0_ := Aside0.mk (zk (by repeat (first | (with_reducible first | exact HB.out | apply zf | apply zc | apply zi) | exact HB.out)) hb); have n1_ := Aside0.mk (hbox); have n2_ := Aside0.mk ((by rw [hg]; exact (zl (by repeat (first | (with_reducible first | exact HB.out | apply zf | apply zc | apply zi) | exact HB.out))) : w.heap.size ≤ gb319)); have n3_ := Aside0.mk ((by rw [hg]; exact (zl (by repeat (first | (with_reducible first | exact HB.out | apply zf | apply zc | apply zi) | exact HB.out))) : w.heap.size ≤ gb319)); clear HB; have HB := n0_; have BK319 := n1_; have GW319 := n2_; have GE319 := n3_; clear n0_ n1_ n2_ n3_; clear hb hbox hg) | ((with_reducible refine zr (N := 5) rfl ?_); refine zq ?hg (N := 5) ?hd (cs := #[.int .i64 a1_0, .int .i64 a1_1, .int .i64 a1_2, .int .i64 a1_3, .int .i64 a1_4]) (t := 27) ?hr ?_; (case hd => rfl); (case hg => rfl); (case hr => first | (go_simp; done) | (go_simp; rfl)); intro gb320 hg w21 hbox hb; have n0_ := Aside0.mk (zj (g := gb319) (o := .cells #[.bool a0_0, .int .i64 a0_1, .int .i64 a0_2, .int .i64 a0_3, .int .i64 a0_4, .int .i64 a0_5, .int .i64 a0_6] 25 (0, 0)) (by (with_reducible repeat (first | refine ze ?_ _ | refine zh ?_ | refine zd ?_ _)); exact BK319.out) hb); have n1_ := Aside0.mk (zk (by repeat (first | (with_reducible first | exact HB.out | apply zf | apply zc | apply zi | refine zg ?_ GE319.out) | exact HB.out)) hb); have n2_ := Aside0.mk (hbox); have n3_ := Aside0.mk ((by rw [hg]; exact (zl (by repeat (first | (with_reducible first | exact HB.out | apply zf | apply zc | apply zi | refine zg ?_ GE319.out) | exact HB.out))) : w.heap.size ≤ gb320)); have n4_ := Aside0.mk ((by rw [hg]; exact (zl (by repeat (first | (with_reducible first | exact HB.out | apply zf | apply zc | apply zi | refine zg ?_ GE319.out) | exact HB.out))) : w.heap.size ≤ gb320)); have n5_ := Aside0.mk ((by rw [hg]; exact Nat.ne_of_lt (zp (g := gb319) (o := .cells #[.bool a0_0, .int .i64 a0_1, .int .i64 a0_2, .int .i64 a0_3, .int .i64 a0_4, .int .i64 a0_5, .int .i64 a0_6] 25 (0, 0)) (by (with_reducible repeat (first | refine ze ?_ _ | refine zh ?_ | refine zd ?_ _)); exact BK319.out)) : gb319 ≠ gb320)); have n6_ := Aside0.mk ((by rw [hg]; exact Nat.ne_of_gt (zp (g := gb319) (o := .cells #[.bool a0_0, .int .i64 a0_1, .int .i64 a0_2, .int .i64 a0_3, .int .i64 a0_4, .int .i64 a0_5, .int .i64 a0_6] 25 (0, 0)) (by (with_reducible repeat (first | refine ze ?_ _ | refine zh ?_ | refine zd ?_ _)); exact BK319.out)) : gb320 ≠ gb319)); clear BK319; clear HB; have BK319 := n0_; have HB := n1_; have BK320 := n2_; have GW320 := n3_; have GE320 := n4_; have NB319_320 := n5_; have NB320_319 := n6_; clear n0_ n1_ n2_ n3_ n4_ n5_ n6_; clear hb hbox hg) | ((with_reducible refine zo (f := 11) rfl ?_); refine zt (some 18) rfl rfl Try.func11 (by kernel_rfl) rfl #[] rfl (by (try simp only [List.map_toArray, List.map_cons, List.map_nil]); first | done | rfl | (simp only [List.length_drop, List.length_take]; rfl)) ?_; (with_reducible refine (L9_head.calls k  true _ A5.out).mono ?_); rintro e w22 ⟨rfl, hb⟩; refine ⟨_, rfl, ?_⟩; have n0_ := Aside0.mk (zj (g := gb319) (o := .cells #[.bool a0_0, .int .i64 a0_1, .int .i64 a0_2, .int .i64 a0_3, .int .i64 a0_4, .int .i64 a0_5, .int .i64 a0_6] 25 (0, 0)) (by (with_reducible repeat (first | refine ze ?_ _ | refine zh ?_ | refine zd ?_ _)); exact BK319.out) hb); have n1_ := Aside0.mk (zj (g := gb320) (o := .cells #[.int .i64 a1_0, .int .i64 a1_1, .int .i64 a1_2, .int .i64 a1_3, .int .i64 a1_4] 27 (0, 0)) (by (with_reducible repeat (first | refine ze ?_ _ | refine zh ?_ | refine zd ?_ _)); exact BK320.out) hb); have n2_ := Aside0.mk (zk (by repeat (first | (with_reducible first | exact HB.out | apply zf | apply zc | apply zi | refine zg ?_ GE319.out | refine zg ?_ GE320.out) | exact HB.out)) hb); clear BK319; clear BK320; clear HB; have BK319 := n0_; have BK320 := n1_; have HB := n2_; clear n0_ n1_ n2_; (try clear hb); (try clear hb2); (try clear hk); (try clear hi); have hnb23 := NB319_320.out; have hnc23 := NB320_319.out; have hcz24_0 : w22.cell? ⟨gb319, 0, none⟩ = some (.bool a0_0) := (zb BK319.out 0).trans rfl; have hcz24_1 : w22.cell? ⟨gb319, 1, none⟩ = some (.int .i64 a0_1) := (zb BK319.out 1).trans rfl; have hcz24_2 : w22.cell? ⟨gb319, 2, none⟩ = some (.int .i64 a0_2) := (zb BK319.out 2).trans rfl; have hcz24_3 : w22.cell? ⟨gb319, 3, none⟩ = some (.int .i64 a0_3) := (zb BK319.out 3).trans rfl; have hcz24_4 : w22.cell? ⟨gb319, 4, none⟩ = some (.int .i64 a0_4) := (zb BK319.out 4).trans rfl; have hcz24_5 : w22.cell? ⟨gb319, 5, none⟩ = some (.int .i64 a0_5) := (zb BK319.out 5).trans rfl; have hcz24_6 : w22.cell? ⟨gb319, 6, none⟩ = some (.int .i64 a0_6) := (zb BK319.out 6).trans rfl; have hfz24_0 := za BK319.out 0; have hfz24_1 := za BK319.out 1; have hfz24_2 := za BK319.out 2; have hfz24_3 := za BK319.out 3; have hfz24_4 := za BK319.out 4; have hfz24_5 := za BK319.out 5; have hfz24_6 := za BK319.out 6; have hcz25_0 : w22.cell? ⟨gb320, 0, none⟩ = some (.int .i64 a1_0) := (zb BK320.out 0).trans rfl; have hcz25_1 : w22.cell? ⟨gb320, 1, none⟩ = some (.int .i64 a1_1) := (zb BK320.out 1).trans rfl; have hcz25_2 : w22.cell? ⟨gb320, 2, none⟩ = some (.int .i64 a1_2) := (zb BK320.out 2).trans rfl; have hcz25_3 : w22.cell? ⟨gb320, 3, none⟩ = some (.int .i64 a1_3) := (zb BK320.out 3).trans rfl; have hcz25_4 : w22.cell? ⟨gb320, 4, none⟩ = some (.int .i64 a1_4) := (zb BK320.out 4).trans rfl; have hfz25_0 := za BK320.out 0; have hfz25_1 := za BK320.out 1; have hfz25_2 := za BK320.out 2; have hfz25_3 := za BK320.out 3; have hfz25_4 := za BK320.out 4) | ((with_reducible refine zo (f := 12) rfl ?_); refine zt (some 22) rfl rfl Try.func12 (by kernel_rfl) rfl #[.agg #[.bool a0_0, .int .i64 a0_1, .int .i64 a0_2, .int .i64 a0_3, .int .i64 a0_4, .int .i64 a0_5, .int .i64 a0_6], .agg #[.int .i64 a1_0, .int .i64 a1_1, .int .i64 a1_2, .int .i64 a1_3, .int .i64 a1_4]] rfl (by (try simp only [List.map_toArray, List.map_cons, List.map_nil]); first | done | rfl | (simp only [List.length_drop, List.length_take]; rfl)) ?_; (with_reducible refine (timesync_Hear.calls k a0_0 a0_1 a0_2 a0_3 a0_4 a0_5 a0_6 a1_0 a1_1 a1_2 a1_3 a1_4 t322 t323 t324 t325 t326 t327 t328 t329 _ A6.out).mono ?_); rintro e w26 ⟨rfl, hb⟩; refine ⟨_, rfl, ?_⟩; have n0_ := Aside0.mk (zj (g := gb319) (o := .cells #[.bool a0_0, .int .i64 a0_1, .int .i64 a0_2, .int .i64 a0_3, .int .i64 a0_4, .int .i64 a0_5, .int .i64 a0_6] 25 (0, 0)) (by (with_reducible repeat (first | refine ze ?_ _ | refine zh ?_ | refine zd ?_ _)); exact BK319.out) hb); have n1_ := Aside0.mk (zj (g := gb320) (o := .cells #[.int .i64 a1_0, .int .i64 a1_1, .int .i64 a1_2, .int .i64 a1_3, .int .i64 a1_4] 27 (0, 0)) (by (with_reducible repeat (first | refine ze ?_ _ | refine zh ?_ | refine zd ?_ _)); exact BK320.out) hb); have n2_ := Aside0.mk (zk (by repeat (first | (with_reducible first | exact HB.out | apply zf | apply zc | apply zi | refine zg ?_ GE319.out | refine zg ?_ GE320.out) | exact HB.out)) hb); clear BK319; clear BK320; clear HB; have BK319 := n0_; have BK320 := n1_; have HB := n2_; clear n0_ n1_ n2_; (try clear hb); (try clear hb2); (try clear hk); (try clear hi)) | ((with_reducible refine zr (N := 10) rfl ?_); refine zq ?hg (N := 10) ?hd (cs := #[.bool false, .int .i64 0, .int .i64 0, .int .i64 0, .int .i64 0, .int .i64 0, .int .i64 0]) (t := 25) ?hr ?_; (case hd => rfl); (case hg => rfl); (case hr => first | (go_simp; done) | (go_simp; rfl)); intro gb330 hg w27 hbox hb; have n0_ := Aside0.mk (zj (g := gb319) (o := .cells #[.bool a0_0, .int .i64 a0_1, .int .i64 a0_2, .int .i64 a0_3, .int .i64 a0_4, .int .i64 a0_5, .int .i64 a0_6] 25 (0, 0)) (by (with_reducible repeat (first | refine ze ?_ _ | refine zh ?_ | refine zd ?_ _)); exact BK319.out) hb); have n1_ := Aside0.mk (zj (g := gb320) (o := .cells #[.int .i64 a1_0, .int .i64 a1_1, .int .i64 a1_2, .int .i64 a1_3, .int .i64 a1_4] 27 (0, 0)) (by (with_reducible repeat (first | refine ze ?_ _ | refine zh ?_ | refine zd ?_ _)); exact BK320.out) hb); have n2_ := Aside0.mk (zk (by repeat (first | (with_reducible first | exact HB.out | apply zf | apply zc | apply zi | refine zg ?_ GE319.out | refine zg ?_ GE320.out) | exact HB.out)) hb); have n3_ := Aside0.mk (hbox); have n4_ := Aside0.mk ((by rw [hg]; exact (zl (by repeat (first | (with_reducible first | exact HB.out | apply zf | apply zc | apply zi | refine zg ?_ GE319.out | refine zg ?_ GE320.out) | exact HB.out))) : w.heap.size ≤ gb330)); have n5_ := Aside0.mk ((by rw [hg]; exact (zl (by repeat (first | (with_reducible first | exact HB.out | apply zf | apply zc | apply zi | refine zg ?_ GE319.out | refine zg ?_ GE320.out) | exact HB.out))) : w.heap.size ≤ gb330)); have n6_ := Aside0.mk ((by rw [hg]; exact Nat.ne_of_lt (zp (g := gb319) (o := .cells #[.bool a0_0, .int .i64 a0_1, .int .i64 a0_2, .int .i64 a0_3, .int .i64 a0_4, .int .i64 a0_5, .int .i64 a0_6] 25 (0, 0)) (by (with_reducible repeat (first | refine ze ?_ _ | refine zh ?_ | refine zd ?_ _)); exact BK319.out)) : gb319 ≠ gb330)); have n7_ := Aside0.mk ((by rw [hg]; exact Nat.ne_of_gt (zp (g := gb319) (o := .cells #[.bool a0_0, .int .i64 a0_1, .int .i64 a0_2, .int .i64 a0_3, .int .i64 a0_4, .int .i64 a0_5, .int .i64 a0_6] 25 (0, 0)) (by (with_reducible repeat (first | refine ze ?_ _ | refine zh ?_ | refine zd ?_ _)); exact BK319.out)) : gb330 ≠ gb319)); have n8_ := Aside0.mk ((by rw [hg]; exact Nat.ne_of_lt (zp (g := gb320) (o := .cells #[.int .i64 a1_0, .int .i64 a1_1, .int .i64 a1_2, .int .i64 a1_3, .int .i64 a1_4] 27 (0, 0)) (by (with_reducible repeat (first | refine ze ?_ _ | refine zh ?_ | refine zd ?_ _)); exact BK320.out)) : gb320 ≠ gb330)); have n9_ := Aside0.mk ((by rw [hg]; exact Nat.ne_of_gt (zp (g := gb320) (o := .cells #[.int .i64 a1_0, .int .i64 a1_1, .int .i64 a1_2, .int .i64 a1_3, .int .i64 a1_4] 27 (0, 0)) (by (with_reducible repeat (first | refine ze ?_ _ | refine zh ?_ | refine zd ?_ _)); exact BK320.out)) : gb330 ≠ gb320)); clear BK319; clear BK320; clear HB; have BK319 := n0_; have BK320 := n1_; have HB := n2_; have BK330 := n3_; have GW330 := n4_; have GE330 := n5_; have NB319_330 := n6_; have NB330_319 := n7_; have NB320_330 := n8_; have NB330_320 := n9_; clear n0_ n1_ n2_ n3_ n4_ n5_ n6_ n7_ n8_ n9_; clear hb hbox hg; have hnb28 := NB330_319.out; have hnc28 := NB319_330.out; have hnb29 := NB330_320.out; have hnc29 := NB320_330.out; have hcz30_0 : w27.cell? ⟨gb330, 0, none⟩ = some (.bool false) := (zb BK330.out 0).trans rfl; have hcz30_1 : w27.cell? ⟨gb330, 1, none⟩ = some (.int .i64 0) := (zb BK330.out 1).trans rfl; have hcz30_2 : w27.cell? ⟨gb330, 2, none⟩ = some (.int .i64 0) := (zb BK330.out 2).trans rfl; have hcz30_3 : w27.cell? ⟨gb330, 3, none⟩ = some (.int .i64 0) := (zb BK330.out 3).trans rfl; have hcz30_4 : w27.cell? ⟨gb330, 4, none⟩ = some (.int .i64 0) := (zb BK330.out 4).trans rfl; have hcz30_5 : w27.cell? ⟨gb330, 5, none⟩ = some (.int .i64 0) := (zb BK330.out 5).trans rfl; have hcz30_6 : w27.cell? ⟨gb330, 6, none⟩ = some (.int .i64 0) := (zb BK330.out 6).trans rfl; have hfz30_0 := za BK330.out 0; have hfz30_1 := za BK330.out 1; have hfz30_2 := za BK330.out 2; have hfz30_3 := za BK330.out 3; have hfz30_4 := za BK330.out 4; have hfz30_5 := za BK330.out 5; have hfz30_6 := za BK330.out 6; have hcz31_0 : w27.cell? ⟨gb319, 0, none⟩ = some (.bool a0_0) := (zb BK319.out 0).trans rfl; have hcz31_1 : w27.cell? ⟨gb319, 1, none⟩ = some (.int .i64 a0_1) := (zb BK319.out 1).trans rfl; have hcz31_2 : w27.cell? ⟨gb319, 2, none⟩ = some (.int .i64 a0_2) := (zb BK319.out 2).trans rfl; have hcz31_3 : w27.cell? ⟨gb319, 3, none⟩ = some (.int .i64 a0_3) := (zb BK319.out 3).trans rfl; have hcz31_4 : w27.cell? ⟨gb319, 4, none⟩ = some (.int .i64 a0_4) := (zb BK319.out 4).trans rfl; have hcz31_5 : w27.cell? ⟨gb319, 5, none⟩ = some (.int .i64 a0_5) := (zb BK319.out 5).trans rfl; have hcz31_6 : w27.cell? ⟨gb319, 6, none⟩ = some (.int .i64 a0_6) := (zb BK319.out 6).trans rfl; have hfz31_0 := za BK319.out 0; have hfz31_1 := za BK319.out 1; have hfz31_2 := za BK319.out 2; have hfz31_3 := za BK319.out 3; have hfz31_4 := za BK319.out 4; have hfz31_5 := za BK319.out 5; have hfz31_6 := za BK319.out 6; have hcz32_0 : w27.cell? ⟨gb320, 0, none⟩ = some (.int .i64 a1_0) := (zb BK320.out 0).trans rfl; have hcz32_1 : w27.cell? ⟨gb320, 1, none⟩ = some (.int .i64 a1_1) := (zb BK320.out 1).trans rfl; have hcz32_2 : w27.cell? ⟨gb320, 2, none⟩ = some (.int .i64 a1_2) := (zb BK320.out 2).trans rfl; have hcz32_3 : w27.cell? ⟨gb320, 3, none⟩ = some (.int .i64 a1_3) := (zb BK320.out 3).trans rfl; have hcz32_4 : w27.cell? ⟨gb320, 4, none⟩ = some (.int .i64 a1_4) := (zb BK320.out 4).trans rfl; have hfz32_0 := za BK320.out 0; have hfz32_1 := za BK320.out 1; have hfz32_2 := za BK320.out 2; have hfz32_3 := za BK320.out 3; have hfz32_4 := za BK320.out 4) | ((with_reducible refine zo (f := 13) rfl ?_); refine zt (some 28) rfl rfl Try.func13 (by kernel_rfl) rfl #[.agg #[.bool a0_0, .int .i64 a0_1, .int .i64 a0_2, .int .i64 a0_3, .int .i64 a0_4, .int .i64 a0_5, .int .i64 a0_6], .agg #[.int .i64 a1_0, .int .i64 a1_1, .int .i64 a1_2, .int .i64 a1_3, .int .i64 a1_4]] rfl (by (try simp only [List.map_toArray, List.map_cons, List.map_nil]); first | done | rfl | (simp only [List.length_drop, List.length_take]; rfl)) ?_; (with_reducible refine (R9_Hear.calls k a0_0 a0_1 a0_2 a0_3 a0_4 a0_5 a0_6 a1_0 a1_1 a1_2 a1_3 a1_4 t331 t332 t333 t334 t335 t336 t337 t338 _ A7.out).mono ?_); rintro e w33 ⟨rfl, hb⟩; refine ⟨_, rfl, ?_⟩; have n0_ := Aside0.mk (zj (g := gb319) (o := .cells #[.bool a0_0, .int .i64 a0_1, .int .i64 a0_2, .int .i64 a0_3, .int .i64 a0_4, .int .i64 a0_5, .int .i64 a0_6] 25 (0, 0)) (by (with_reducible repeat (first | refine ze ?_ _ | refine zh ?_ | refine zd ?_ _)); refine zn ?_ NB319_330.out _; (with_reducible repeat (first | refine ze ?_ _ | refine zh ?_ | refine zd ?_ _)); refine zn ?_ NB319_330.out _; (with_reducible repeat (first | refine ze ?_ _ | refine zh ?_ | refine zd ?_ _)); refine zn ?_ NB319_330.out _; (with_reducible repeat (first | refine ze ?_ _ | refine zh ?_ | refine zd ?_ _)); refine zn ?_ NB319_330.out _; (with_reducible repeat (first | refine ze ?_ _ | refine zh ?_ | refine zd ?_ _)); refine zn ?_ NB319_330.out _; (with_reducible repeat (first | refine ze ?_ _ | refine zh ?_ | refine zd ?_ _)); refine zn ?_ NB319_330.out _; (with_reducible repeat (first | refine ze ?_ _ | refine zh ?_ | refine zd ?_ _)); refine zn ?_ NB319_330.out _; (with_reducible repeat (first | refine ze ?_ _ | refine zh ?_ | refine zd ?_ _)); exact BK319.out) hb); have n1_ := Aside0.mk (zj (g := gb320) (o := .cells #[.int .i64 a1_0, .int .i64 a1_1, .int .i64 a1_2, .int .i64 a1_3, .int .i64 a1_4] 27 (0, 0)) (by (with_reducible repeat (first | refine ze ?_ _ | refine zh ?_ | refine zd ?_ _)); refine zn ?_ NB320_330.out _; (with_reducible repeat (first | refine ze ?_ _ | refine zh ?_ | refine zd ?_ _)); refine zn ?_ NB320_330.out _; (with_reducible repeat (first | refine ze ?_ _ | refine zh ?_ | refine zd ?_ _)); refine zn ?_ NB320_330.out _; (with_reducible repeat (first | refine ze ?_ _ | refine zh ?_ | refine zd ?_ _)); refine zn ?_ NB320_330.out _; (with_reducible repeat (first | refine ze ?_ _ | refine zh ?_ | refine zd ?_ _)); refine zn ?_ NB320_330.out _; (with_reducible repeat (first | refine ze ?_ _ | refine zh ?_ | refine zd ?_ _)); refine zn ?_ NB320_330.out _; (with_reducible repeat (first | refine ze ?_ _ | refine zh ?_ | refine zd ?_ _)); refine zn ?_ NB320_330.out _; (with_reducible repeat (first | refine ze ?_ _ | refine zh ?_ | refine zd ?_ _)); exact BK320.out) hb); have n2_ := Aside0.mk (zj (g := gb330) (o := .cells #[.bool t322, .int .i64 t323, .int .i64 t324, .int .i64 t325, .int .i64 t326, .int .i64 t327, .int .i64 t328] 25 (0, 0)) (by (with_reducible repeat (first | refine ze ?_ _ | refine zh ?_ | refine zd ?_ _)); refine zm (cs := #[.bool t322, .int .i64 t323, .int .i64 t324, .int .i64 t325, .int .i64 t326, .int .i64 t327, .int .i64 0]) ?_ 6 _ rfl; (with_reducible repeat (first | refine ze ?_ _ | refine zh ?_ | refine zd ?_ _)); refine zm (cs := #[.bool t322, .int .i64 t323, .int .i64 t324, .int .i64 t325, .int .i64 t326, .int .i64 0, .int .i64 0]) ?_ 5 _ rfl; (with_reducible repeat (first | refine ze ?_ _ | refine zh ?_ | refine zd ?_ _)); refine zm (cs := #[.bool t322, .int .i64 t323, .int .i64 t324, .int .i64 t325, .int .i64 0, .int .i64 0, .int .i64 0]) ?_ 4 _ rfl; (with_reducible repeat (first | refine ze ?_ _ | refine zh ?_ | refine zd ?_ _)); refine zm (cs := #[.bool t322, .int .i64 t323, .int .i64 t324, .int .i64 0, .int .i64 0, .int .i64 0, .int .i64 0]) ?_ 3 _ rfl; (with_reducible repeat (first | refine ze ?_ _ | refine zh ?_ | refine zd ?_ _)); refine zm (cs := #[.bool t322, .int .i64 t323, .int .i64 0, .int .i64 0, .int .i64 0, .int .i64 0, .int .i64 0]) ?_ 2 _ rfl; (with_reducible repeat (first | refine ze ?_ _ | refine zh ?_ | refine zd ?_ _)); refine zm (cs := #[.bool t322, .int .i64 0, .int .i64 0, .int .i64 0, .int .i64 0, .int .i64 0, .int .i64 0]) ?_ 1 _ rfl; (with_reducible repeat (first | refine ze ?_ _ | refine zh ?_ | refine zd ?_ _)); refine zm (cs := #[.bool false, .int .i64 0, .int .i64 0, .int .i64 0, .int .i64 0, .int .i64 0, .int .i64 0]) ?_ 0 _ rfl; (with_reducible repeat (first | refine ze ?_ _ | refine zh ?_ | refine zd ?_ _)); exact BK330.out) hb); have n3_ := Aside0.mk (zk (by repeat (first | (with_reducible first | exact HB.out | apply zf | apply zc | apply zi | refine zg ?_ GE319.out | refine zg ?_ GE320.out | refine zg ?_ GE330.out) | exact HB.out)) hb); clear BK319; clear BK320; clear BK330; clear HB; have BK319 := n0_; have BK320 := n1_; have BK330 := n2_; have HB := n3_; clear n0_ n1_ n2_ n3_; (try clear hb); (try clear hb2); (try clear hk); (try clear hi)) | ((with_reducible refine zr (N := 12) rfl ?_); refine zq ?hg (N := 12) ?hd (cs := #[.bool false, .int .i64 0, .int .i64 0, .int .i64 0, .int .i64 0, .int .i64 0, .int .i64 0]) (t := 25) ?hr ?_; (case hd => rfl); (case hg => rfl); (case hr => first | (go_simp; done) | (go_simp; rfl)); intro gb339 hg w34 hbox hb; have n0_ := Aside0.mk (zj (g := gb319) (o := .cells #[.bool a0_0, .int .i64 a0_1, .int .i64 a0_2, .int .i64 a0_3, .int .i64 a0_4, .int .i64 a0_5, .int .i64 a0_6] 25 (0, 0)) (by (with_reducible repeat (first | refine ze ?_ _ | refine zh ?_ | refine zd ?_ _)); exact BK319.out) hb); have n1_ := Aside0.mk (zj (g := gb320) (o := .cells #[.int .i64 a1_0, .int .i64 a1_1, .int .i64 a1_2, .int .i64 a1_3, .int .i64 a1_4] 27 (0, 0)) (by (with_reducible repeat (first | refine ze ?_ _ | refine zh ?_ | refine zd ?_ _)); exact BK320.out) hb); have n2_ := Aside0.mk (zj (g := gb330) (o := .cells #[.bool t322, .int .i64 t323, .int .i64 t324, .int .i64 t325, .int .i64 t326, .int .i64 t327, .int .i64 t328] 25 (0, 0)) (by (with_reducible repeat (first | refine ze ?_ _ | refine zh ?_ | refine zd ?_ _)); exact BK330.out) hb); have n3_ := Aside0.mk (zk (by repeat (first | (with_reducible first | exact HB.out | apply zf | apply zc | apply zi | refine zg ?_ GE319.out | refine zg ?_ GE320.out | refine zg ?_ GE330.out) | exact HB.out)) hb); have n4_ := Aside0.mk (hbox); have n5_ := Aside0.mk ((by rw [hg]; exact (zl (by repeat (first | (with_reducible first | exact HB.out | apply zf | apply zc | apply zi | refine zg ?_ GE319.out | refine zg ?_ GE320.out | refine zg ?_ GE330.out) | exact HB.out))) : w.heap.size ≤ gb339)); have n6_ := Aside0.mk ((by rw [hg]; exact (zl (by repeat (first | (with_reducible first | exact HB.out | apply zf | apply zc | apply zi | refine zg ?_ GE319.out | refine zg ?_ GE320.out | refine zg ?_ GE330.out) | exact HB.out))) : w.heap.size ≤ gb339)); have n7_ := Aside0.mk ((by rw [hg]; exact Nat.ne_of_lt (zp (g := gb319) (o := .cells #[.bool a0_0, .int .i64 a0_1, .int .i64 a0_2, .int .i64 a0_3, .int .i64 a0_4, .int .i64 a0_5, .int .i64 a0_6] 25 (0, 0)) (by (with_reducible repeat (first | refine ze ?_ _ | refine zh ?_ | refine zd ?_ _)); exact BK319.out)) : gb319 ≠ gb339)); have n8_ := Aside0.mk ((by rw [hg]; exact Nat.ne_of_gt (zp (g := gb319) (o := .cells #[.bool a0_0, .int .i64 a0_1, .int .i64 a0_2, .int .i64 a0_3, .int .i64 a0_4, .int .i64 a0_5, .int .i64 a0_6] 25 (0, 0)) (by (with_reducible repeat (first | refine ze ?_ _ | refine zh ?_ | refine zd ?_ _)); exact BK319.out)) : gb339 ≠ gb319)); have n9_ := Aside0.mk ((by rw [hg]; exact Nat.ne_of_lt (zp (g := gb320) (o := .cells #[.int .i64 a1_0, .int .i64 a1_1, .int .i64 a1_2, .int .i64 a1_3, .int .i64 a1_4] 27 (0, 0)) (by (with_reducible repeat (first | refine ze ?_ _ | refine zh ?_ | refine zd ?_ _)); exact BK320.out)) : gb320 ≠ gb339)); have n10_ := Aside0.mk ((by rw [hg]; exact Nat.ne_of_gt (zp (g := gb320) (o := .cells #[.int .i64 a1_0, .int .i64 a1_1, .int .i64 a1_2, .int .i64 a1_3, .int .i64 a1_4] 27 (0, 0)) (by (with_reducible repeat (first | refine ze ?_ _ | refine zh ?_ | refine zd ?_ _)); exact BK320.out)) : gb339 ≠ gb320)); have n11_ := Aside0.mk ((by rw [hg]; exact Nat.ne_of_lt (zp (g := gb330) (o := .cells #[.bool t322, .int .i64 t323, .int .i64 t324, .int .i64 t325, .int .i64 t326, .int .i64 t327, .int .i64 t328] 25 (0, 0)) (by (with_reducible repeat (first | refine ze ?_ _ | refine zh ?_ | refine zd ?_ _)); exact BK330.out)) : gb330 ≠ gb339)); have n12_ := Aside0.mk ((by rw [hg]; exact Nat.ne_of_gt (zp (g := gb330) (o := .cells #[.bool t322, .int .i64 t323, .int .i64 t324, .int .i64 t325, .int .i64 t326, .int .i64 t327, .int .i64 t328] 25 (0, 0)) (by (with_reducible repeat (first | refine ze ?_ _ | refine zh ?_ | refine zd ?_ _)); exact BK330.out)) : gb339 ≠ gb330)); clear BK319; clear BK320; clear BK330; clear HB; have BK319 := n0_; have BK320 := n1_; have BK330 := n2_; have HB := n3_; have BK339 := n4_; have GW339 := n5_; have GE339 := n6_; have NB319_339 := n7_; have NB339_319 := n8_; have NB320_339 := n9_; have NB339_320 := n10_; have NB330_339 := n11_; have NB339_330 := n12_; clear n0_ n1_ n2_ n3_ n4_ n5_ n6_ n7_ n8_ n9_ n10_ n11_ n12_; clear hb hbox hg; have hnb35 := NB339_319.out; have hnc35 := NB319_339.out; have hnb36 := NB339_320.out; have hnc36 := NB320_339.out; have hnb37 := NB339_330.out; have hnc37 := NB330_339.out; have hcz38_0 : w34.cell? ⟨gb339, 0, none⟩ = some (.bool false) := (zb BK339.out 0).trans rfl; have hcz38_1 : w34.cell? ⟨gb339, 1, none⟩ = some (.int .i64 0) := (zb BK339.out 1).trans rfl; have hcz38_2 : w34.cell? ⟨gb339, 2, none⟩ = some (.int .i64 0) := (zb BK339.out 2).trans rfl; have hcz38_3 : w34.cell? ⟨gb339, 3, none⟩ = some (.int .i64 0) := (zb BK339.out 3).trans rfl; have hcz38_4 : w34.cell? ⟨gb339, 4, none⟩ = some (.int .i64 0) := (zb BK339.out 4).trans rfl; have hcz38_5 : w34.cell? ⟨gb339, 5, none⟩ = some (.int .i64 0) := (zb BK339.out 5).trans rfl; have hcz38_6 : w34.cell? ⟨gb339, 6, none⟩ = some (.int .i64 0) := (zb BK339.out 6).trans rfl; have hfz38_0 := za BK339.out 0; have hfz38_1 := za BK339.out 1; have hfz38_2 := za BK339.out 2; have hfz38_3 := za BK339.out 3; have hfz38_4 := za BK339.out 4; have hfz38_5 := za BK339.out 5; have hfz38_6 := za BK339.out 6; have hcz39_0 : w34.cell? ⟨gb319, 0, none⟩ = some (.bool a0_0) := (zb BK319.out 0).trans rfl; have hcz39_1 : w34.cell? ⟨gb319, 1, none⟩ = some (.int .i64 a0_1) := (zb BK319.out 1).trans rfl; have hcz39_2 : w34.cell? ⟨gb319, 2, none⟩ = some (.int .i64 a0_2) := (zb BK319.out 2).trans rfl; have hcz39_3 : w34.cell? ⟨gb319, 3, none⟩ = some (.int .i64 a0_3) := (zb BK319.out 3).trans rfl; have hcz39_4 : w34.cell? ⟨gb319, 4, none⟩ = some (.int .i64 a0_4) := (zb BK319.out 4).trans rfl; have hcz39_5 : w34.cell? ⟨gb319, 5, none⟩ = some (.int .i64 a0_5) := (zb BK319.out 5).trans rfl; have hcz39_6 : w34.cell? ⟨gb319, 6, none⟩ = some (.int .i64 a0_6) := (zb BK319.out 6).trans rfl; have hfz39_0 := za BK319.out 0; have hfz39_1 := za BK319.out 1; have hfz39_2 := za BK319.out 2; have hfz39_3 := za BK319.out 3; have hfz39_4 := za BK319.out 4; have hfz39_5 := za BK319.out 5; have hfz39_6 := za BK319.out 6) | ((with_reducible refine zo (f := 14) rfl ?_); refine zt (some 34) rfl rfl Try.func14 (by kernel_rfl) rfl #[.agg #[.bool a0_0, .int .i64 a0_1, .int .i64 a0_2, .int .i64 a0_3, .int .i64 a0_4, .int .i64 a0_5, .int .i64 a0_6], .int .i64 a2] rfl (by (try simp only [List.map_toArray, List.map_cons, List.map_nil]); first | done | rfl | (simp only [List.length_drop, List.length_take]; rfl)) ?_; (with_reducible refine (timesync_Bound.calls k a0_0 a0_1 a0_2 a0_3 a0_4 a0_5 a0_6 a2 t340 t341 _ A8.out).mono ?_); rintro e w40 ⟨rfl, hb⟩; refine ⟨_, rfl, ?_⟩; have n0_ := Aside0.mk (zj (g := gb319) (o := .cells #[.bool a0_0, .int .i64 a0_1, .int .i64 a0_2, .int .i64 a0_3, .int .i64 a0_4, .int .i64 a0_5, .int .i64 a0_6] 25 (0, 0)) (by (with_reducible repeat (first | refine ze ?_ _ | refine zh ?_ | refine zd ?_ _)); refine zn ?_ NB319_339.out _; (with_reducible repeat (first | refine ze ?_ _ | refine zh ?_ | refine zd ?_ _)); refine zn ?_ NB319_339.out _; (with_reducible repeat (first | refine ze ?_ _ | refine zh ?_ | refine zd ?_ _)); refine zn ?_ NB319_339.out _; (with_reducible repeat (first | refine ze ?_ _ | refine zh ?_ | refine zd ?_ _)); refine zn ?_ NB319_339.out _; (with_reducible repeat (first | refine ze ?_ _ | refine zh ?_ | refine zd ?_ _)); refine zn ?_ NB319_339.out _; (with_reducible repeat (first | refine ze ?_ _ | refine zh ?_ | refine zd ?_ _)); refine zn ?_ NB319_339.out _; (with_reducible repeat (first | refine ze ?_ _ | refine zh ?_ | refine zd ?_ _)); refine zn ?_ NB319_339.out _; (with_reducible repeat (first | refine ze ?_ _ | refine zh ?_ | refine zd ?_ _)); exact BK319.out) hb); have n1_ := Aside0.mk (zj (g := gb320) (o := .cells #[.int .i64 a1_0, .int .i64 a1_1, .int .i64 a1_2, .int .i64 a1_3, .int .i64 a1_4] 27 (0, 0)) (by (with_reducible repeat (first | refine ze ?_ _ | refine zh ?_ | refine zd ?_ _)); refine zn ?_ NB320_339.out _; (with_reducible repeat (first | refine ze ?_ _ | refine zh ?_ | refine zd ?_ _)); refine zn ?_ NB320_339.out _; (with_reducible repeat (first | refine ze ?_ _ | refine zh ?_ | refine zd ?_ _)); refine zn ?_ NB320_339.out _; (with_reducible repeat (first | refine ze ?_ _ | refine zh ?_ | refine zd ?_ _)); refine zn ?_ NB320_339.out _; (with_reducible repeat (first | refine ze ?_ _ | refine zh ?_ | refine zd ?_ _)); refine zn ?_ NB320_339.out _; (with_reducible repeat (first | refine ze ?_ _ | refine zh ?_ | refine zd ?_ _)); refine zn ?_ NB320_339.out _; (with_reducible repeat (first | refine ze ?_ _ | refine zh ?_ | refine zd ?_ _)); refine zn ?_ NB320_339.out _; (with_reducible repeat (first | refine ze ?_ _ | refine zh ?_ | refine zd ?_ _)); exact BK320.out) hb); have n2_ := Aside0.mk (zj (g := gb330) (o := .cells #[.bool t322, .int .i64 t323, .int .i64 t324, .int .i64 t325, .int .i64 t326, .int .i64 t327, .int .i64 t328] 25 (0, 0)) (by (with_reducible repeat (first | refine ze ?_ _ | refine zh ?_ | refine zd ?_ _)); refine zn ?_ NB330_339.out _; (with_reducible repeat (first | refine ze ?_ _ | refine zh ?_ | refine zd ?_ _)); refine zn ?_ NB330_339.out _; (with_reducible repeat (first | refine ze ?_ _ | refine zh ?_ | refine zd ?_ _)); refine zn ?_ NB330_339.out _; (with_reducible repeat (first | refine ze ?_ _ | refine zh ?_ | refine zd ?_ _)); refine zn ?_ NB330_339.out _; (with_reducible repeat (first | refine ze ?_ _ | refine zh ?_ | refine zd ?_ _)); refine zn ?_ NB330_339.out _; (with_reducible repeat (first | refine ze ?_ _ | refine zh ?_ | refine zd ?_ _)); refine zn ?_ NB330_339.out _; (with_reducible repeat (first | refine ze ?_ _ | refine zh ?_ | refine zd ?_ _)); refine zn ?_ NB330_339.out _; (with_reducible repeat (first | refine ze ?_ _ | refine zh ?_ | refine zd ?_ _)); exact BK330.out) hb); have n3_ := Aside0.mk (zj (g := gb339) (o := .cells #[.bool t331, .int .i64 t332, .int .i64 t333, .int .i64 t334, .int .i64 t335, .int .i64 t336, .int .i64 t337] 25 (0, 0)) (by (with_reducible repeat (first | refine ze ?_ _ | refine zh ?_ | refine zd ?_ _)); refine zm (cs := #[.bool t331, .int .i64 t332, .int .i64 t333, .int .i64 t334, .int .i64 t335, .int .i64 t336, .int .i64 0]) ?_ 6 _ rfl; (with_reducible repeat (first | refine ze ?_ _ | refine zh ?_ | refine zd ?_ _)); refine zm (cs := #[.bool t331, .int .i64 t332, .int .i64 t333, .int .i64 t334, .int .i64 t335, .int .i64 0, .int .i64 0]) ?_ 5 _ rfl; (with_reducible repeat (first | refine ze ?_ _ | refine zh ?_ | refine zd ?_ _)); refine zm (cs := #[.bool t331, .int .i64 t332, .int .i64 t333, .int .i64 t334, .int .i64 0, .int .i64 0, .int .i64 0]) ?_ 4 _ rfl; (with_reducible repeat (first | refine ze ?_ _ | refine zh ?_ | refine zd ?_ _)); refine zm (cs := #[.bool t331, .int .i64 t332, .int .i64 t333, .int .i64 0, .int .i64 0, .int .i64 0, .int .i64 0]) ?_ 3 _ rfl; (with_reducible repeat (first | refine ze ?_ _ | refine zh ?_ | refine zd ?_ _)); refine zm (cs := #[.bool t331, .int .i64 t332, .int .i64 0, .int .i64 0, .int .i64 0, .int .i64 0, .int .i64 0]) ?_ 2 _ rfl; (with_reducible repeat (first | refine ze ?_ _ | refine zh ?_ | refine zd ?_ _)); refine zm (cs := #[.bool t331, .int .i64 0, .int .i64 0, .int .i64 0, .int .i64 0, .int .i64 0, .int .i64 0]) ?_ 1 _ rfl; (with_reducible repeat (first | refine ze ?_ _ | refine zh ?_ | refine zd ?_ _)); refine zm (cs := #[.bool false, .int .i64 0, .int .i64 0, .int .i64 0, .int .i64 0, .int .i64 0, .int .i64 0]) ?_ 0 _ rfl; (with_reducible repeat (first | refine ze ?_ _ | refine zh ?_ | refine zd ?_ _)); exact BK339.out) hb); have n4_ := Aside0.mk (zk (by repeat (first | (with_reducible first | exact HB.out | apply zf | apply zc | apply zi | refine zg ?_ GE319.out | refine zg ?_ GE320.out | refine zg ?_ GE330.out | refine zg ?_ GE339.out) | exact HB.out)) hb); clear BK319; clear BK320; clear BK330; clear BK339; clear HB; have BK319 := n0_; have BK320 := n1_; have BK330 := n2_; have BK339 := n3_; have HB := n4_; clear n0_ n1_ n2_ n3_ n4_; (try clear hb); (try clear hb2); (try clear hk); (try clear hi); have hcz41_0 : w40.cell? ⟨gb319, 0, none⟩ = some (.bool a0_0) := (zb BK319.out 0).trans rfl; have hcz41_1 : w40.cell? ⟨gb319, 1, none⟩ = some (.int .i64 a0_1) := (zb BK319.out 1).trans rfl; have hcz41_2 : w40.cell? ⟨gb319, 2, none⟩ = some (.int .i64 a0_2) := (zb BK319.out 2).trans rfl; have hcz41_3 : w40.cell? ⟨gb319, 3, none⟩ = some (.int .i64 a0_3) := (zb BK319.out 3).trans rfl; have hcz41_4 : w40.cell? ⟨gb319, 4, none⟩ = some (.int .i64 a0_4) := (zb BK319.out 4).trans rfl; have hcz41_5 : w40.cell? ⟨gb319, 5, none⟩ = some (.int .i64 a0_5) := (zb BK319.out 5).trans rfl; have hcz41_6 : w40.cell? ⟨gb319, 6, none⟩ = some (.int .i64 a0_6) := (zb BK319.out 6).trans rfl; have hfz41_0 := za BK319.out 0; have hfz41_1 := za BK319.out 1; have hfz41_2 := za BK319.out 2; have hfz41_3 := za BK319.out 3; have hfz41_4 := za BK319.out 4; have hfz41_5 := za BK319.out 5; have hfz41_6 := za BK319.out 6) | ((with_reducible refine zo (f := 15) rfl ?_); refine zt (some 40) rfl rfl Try.func15 (by kernel_rfl) rfl #[.agg #[.bool a0_0, .int .i64 a0_1, .int .i64 a0_2, .int .i64 a0_3, .int .i64 a0_4, .int .i64 a0_5, .int .i64 a0_6], .int .i64 a2] rfl (by (try simp only [List.map_toArray, List.map_cons, List.map_nil]); first | done | rfl | (simp only [List.length_drop, List.length_take]; rfl)) ?_; (with_reducible refine (R9_Bound.calls k a0_0 a0_1 a0_2 a0_3 a0_4 a0_5 a0_6 a2 t342 t343 _ A9.out).mono ?_); rintro e w42 ⟨rfl, hb⟩; refine ⟨_, rfl, ?_⟩; have n0_ := Aside0.mk (zj (g := gb319) (o := .cells #[.bool a0_0, .int .i64 a0_1, .int .i64 a0_2, .int .i64 a0_3, .int .i64 a0_4, .int .i64 a0_5, .int .i64 a0_6] 25 (0, 0)) (by (with_reducible repeat (first | refine ze ?_ _ | refine zh ?_ | refine zd ?_ _)); exact BK319.out) hb); have n1_ := Aside0.mk (zj (g := gb320) (o := .cells #[.int .i64 a1_0, .int .i64 a1_1, .int .i64 a1_2, .int .i64 a1_3, .int .i64 a1_4] 27 (0, 0)) (by (with_reducible repeat (first | refine ze ?_ _ | refine zh ?_ | refine zd ?_ _)); exact BK320.out) hb); have n2_ := Aside0.mk (zj (g := gb330) (o := .cells #[.bool t322, .int .i64 t323, .int .i64 t324, .int .i64 t325, .int .i64 t326, .int .i64 t327, .int .i64 t328] 25 (0, 0)) (by (with_reducible repeat (first | refine ze ?_ _ | refine zh ?_ | refine zd ?_ _)); exact BK330.out) hb); have n3_ := Aside0.mk (zj (g := gb339) (o := .cells #[.bool t331, .int .i64 t332, .int .i64 t333, .int .i64 t334, .int .i64 t335, .int .i64 t336, .int .i64 t337] 25 (0, 0)) (by (with_reducible repeat (first | refine ze ?_ _ | refine zh ?_ | refine zd ?_ _)); exact BK339.out) hb); have n4_ := Aside0.mk (zk (by repeat (first | (with_reducible first | exact HB.out | apply zf | apply zc | apply zi | refine zg ?_ GE319.out | refine zg ?_ GE320.out | refine zg ?_ GE330.out | refine zg ?_ GE339.out) | exact HB.out)) hb); clear BK319; clear BK320; clear BK330; clear BK339; clear HB; have BK319 := n0_; have BK320 := n1_; have BK330 := n2_; have BK339 := n3_; have HB := n4_; clear n0_ n1_ n2_ n3_ n4_; (try clear hb); (try clear hb2); (try clear hk); (try clear hi)))
              have n0_ := Aside0.mk (zh BK319.out)
              have n1_ := Aside0.mk (zh BK320.out)
              have n2_ := Aside0.mk (zh BK330.out)
              have n3_ := Aside0.mk (zh BK339.out)
              have n4_ := Aside0.mk (zi HB.out)
              clear BK319
              clear BK320
              clear BK330
              clear BK339
              clear HB
              have BK319 := n0_
              have BK320 := n1_
              have BK330 := n2_
              have BK339 := n3_
              have HB := n4_
              clear n0_ n1_ n2_ n3_ n4_
              refine start_ (n := 38) (S := fun w' => w'.cell? ⟨gb330, 0, none⟩ = some (.bool t322) ∧ w'.cell? ⟨gb330, 1, none⟩ = some (.int .i64 t323) ∧ w'.cell? ⟨gb330, 2, none⟩ = some (.int .i64 t324) ∧ w'.cell? ⟨gb330, 3, none⟩ = some (.int .i64 t325) ∧ w'.cell? ⟨gb330, 4, none⟩ = some (.int .i64 t326) ∧ w'.cell? ⟨gb330, 5, none⟩ = some (.int .i64 t327) ∧ w'.cell? ⟨gb330, 6, none⟩ = some (.int .i64 t328) ∧ w'.cell? ⟨gb339, 0, none⟩ = some (.bool t331) ∧ w'.cell? ⟨gb339, 1, none⟩ = some (.int .i64 t332) ∧ w'.cell? ⟨gb339, 2, none⟩ = some (.int .i64 t333) ∧ w'.cell? ⟨gb339, 3, none⟩ = some (.int .i64 t334) ∧ w'.cell? ⟨gb339, 4, none⟩ = some (.int .i64 t335) ∧ w'.cell? ⟨gb339, 5, none⟩ = some (.int .i64 t336) ∧ w'.cell? ⟨gb339, 6, none⟩ = some (.int .i64 t337) ∧ w'.cell? ⟨gb319, 0, none⟩ = some (.bool a0_0) ∧ w'.cell? ⟨gb319, 1, none⟩ = some (.int .i64 a0_1) ∧ w'.cell? ⟨gb319, 2, none⟩ = some (.int .i64 a0_2) ∧ w'.cell? ⟨gb319, 3, none⟩ = some (.int .i64 a0_3) ∧ w'.cell? ⟨gb319, 4, none⟩ = some (.int .i64 a0_4) ∧ w'.cell? ⟨gb319, 5, none⟩ = some (.int .i64 a0_5) ∧ w'.cell? ⟨gb319, 6, none⟩ = some (.int .i64 a0_6)) (ds := []) #[false, false, false, false, false, false, false, false, false, false, false, false, false, false, false, false, false, false, false, false, false, false, false, false, false, false, false, false, false, false, false, false, false, false, false, false, false, false] (by kernel_rfl) rfl rfl ⟨(zb BK330.out 0).trans rfl, (zb BK330.out 1).trans rfl, (zb BK330.out 2).trans rfl, (zb BK330.out 3).trans rfl, (zb BK330.out 4).trans rfl, (zb BK330.out 5).trans rfl, (zb BK330.out 6).trans rfl, (zb BK339.out 0).trans rfl, (zb BK339.out 1).trans rfl, (zb BK339.out 2).trans rfl, (zb BK339.out 3).trans rfl, (zb BK339.out 4).trans rfl, (zb BK339.out 5).trans rfl, (zb BK339.out 6).trans rfl, (zb BK319.out 0).trans rfl, (zb BK319.out 1).trans rfl, (zb BK319.out 2).trans rfl, (zb BK319.out 3).trans rfl, (zb BK319.out 4).trans rfl, (zb BK319.out 5).trans rfl, (zb BK319.out 6).trans rfl⟩ (fun hHeld => ?_); refine with_tabW L9_TimesyncMatchesReference.tab6 L9_TimesyncMatchesReference.bits6 (fun HT_ HW_ => ?_)
              generalize w42.drew = w43 at BK319 BK320 BK330 BK339 HB hHeld ⊢
              refine pure_ (i := 0) (N := some 43) (v := ?_) (a' := ?_) #[true, false, false, false, false, false, false, false, false, false, false, false, false, false, false, false, false, false, false, false, false, false, false, false, false, false, false, false, false, false, false, false, false, false, false, false, false, false] rfl rfl (any_of HT_.out (by kernel_rfl)) (fun _ _ _ h => h) (Or.inl ⟨by rfl, ?_⟩) ?_ ?_
              rotate_left
              · intro w'
                go_simp
                with_reducible rfl
              rotate_left
              · simp only [Act.put, List.setIfInBounds_toArray, List.set_cons_zero, List.set_cons_succ, i64_w, i32_w]
                rfl
              refine pure_ (i := 1) (N := some 44) (v := ?_) (a' := ?_) #[true, true, false, false, false, false, false, false, false, false, false, false, false, false, false, false, false, false, false, false, false, false, false, false, false, false, false, false, false, false, false, false, false, false, false, false, false, false] rfl rfl (any_of HT_.out (by kernel_rfl)) (fun _ _ _ h => h) (Or.inl ⟨by rfl, ?_⟩) ?_ ?_
              rotate_left
              · intro w'
                go_simp
                with_reducible rfl
              rotate_left
              · simp only [Act.put, List.setIfInBounds_toArray, List.set_cons_zero, List.set_cons_succ, i64_w, i32_w]
                rfl
              refine take_ (i := 2) (N := some 45) (v := ?_) (a' := ?_) #[true, true, true, false, false, false, false, false, false, false, false, false, false, false, false, false, false, false, false, false, false, false, false, false, false, false, false, false, false, false, false, false, false, false, false, false, false, false] rfl rfl (take_ofW HT_.out HW_.out (by kernel_rfl)) (fun _ _ _ h => h) (Or.inl ⟨by rfl, ?_⟩) hHeld ?_ ?_
              rotate_left
              · rintro w' ⟨s0, s1, s2, s3, s4, s5, s6, s7, s8, s9, s10, s11, s12, s13, s14, s15, s16, s17, s18, s19, s20⟩
                go_simp
                with_reducible rfl
              rotate_left
              · simp only [Act.put, List.setIfInBounds_toArray, List.set_cons_zero, List.set_cons_succ, i64_w, i32_w]
                rfl
              refine take_ (i := 3) (N := some 46) (v := ?_) (a' := ?_) #[true, true, true, true, false, false, false, false, false, false, false, false, false, false, false, false, false, false, false, false, false, false, false, false, false, false, false, false, false, false, false, false, false, false, false, false, false, false] rfl rfl (take_ofW HT_.out HW_.out (by kernel_rfl)) (fun _ _ _ h => h) (Or.inl ⟨by rfl, ?_⟩) hHeld ?_ ?_
              rotate_left
              · rintro w' ⟨s0, s1, s2, s3, s4, s5, s6, s7, s8, s9, s10, s11, s12, s13, s14, s15, s16, s17, s18, s19, s20⟩
                go_simp
                with_reducible rfl
              rotate_left
              · simp only [Act.put, List.setIfInBounds_toArray, List.set_cons_zero, List.set_cons_succ, i64_w, i32_w]
                rfl
              refine pure_ (i := 4) (N := some 47) (v := ?_) (a' := ?_) #[true, true, true, true, true, false, false, false, false, false, false, false, false, false, false, false, false, false, false, false, false, false, false, false, false, false, false, false, false, false, false, false, false, false, false, false, false, false] rfl rfl (any_of HT_.out (by kernel_rfl)) (fun _ _ _ h => h) (Or.inl ⟨by rfl, ?_⟩) ?_ ?_
              rotate_left
              · intro w'
                go_simp
                with_reducible rfl
              rotate_left
              · simp only [Act.put, List.setIfInBounds_toArray, List.set_cons_zero, List.set_cons_succ, i64_w, i32_w]
                rfl
              refine pure_ (i := 5) (N := some 48) (v := ?_) (a' := ?_) #[true, true, true, true, true, true, false, false, false, false, false, false, false, false, false, false, false, false, false, false, false, false, false, false, false, false, false, false, false, false, false, false, false, false, false, false, false, false] rfl rfl (any_of HT_.out (by kernel_rfl)) (fun _ _ _ h => h) (Or.inl ⟨by rfl, ?_⟩) ?_ ?_
              rotate_left
              · intro w'
                go_simp
                with_reducible rfl
              rotate_left
              · simp only [Act.put, List.setIfInBounds_toArray, List.set_cons_zero, List.set_cons_succ, i64_w, i32_w]
                rfl
              refine pure_ (i := 6) (N := some 49) (v := ?_) (a' := ?_) #[true, true, true, true, true, true, true, false, false, false, false, false, false, false, false, false, false, false, false, false, false, false, false, false, false, false, false, false, false, false, false, false, false, false, false, false, false, false] rfl rfl (any_of HT_.out (by kernel_rfl)) (fun _ _ _ h => h) (Or.inl ⟨by rfl, ?_⟩) ?_ ?_
              rotate_left
              · intro w'
                go_simp
                with_reducible rfl
              rotate_left
              · simp only [Act.put, List.setIfInBounds_toArray, List.set_cons_zero, List.set_cons_succ, i64_w, i32_w]
                rfl
              refine pure_ (i := 7) (N := some 50) (v := ?_) (a' := ?_) #[true, true, true, true, true, true, true, true, false, false, false, false, false, false, false, false, false, false, false, false, false, false, false, false, false, false, false, false, false, false, false, false, false, false, false, false, false, false] rfl rfl (any_of HT_.out (by kernel_rfl)) (fun _ _ _ h => h) (Or.inl ⟨by rfl, ?_⟩) ?_ ?_
              rotate_left
              · intro w'
                go_simp
                with_reducible rfl
              rotate_left
              · simp only [Act.put, List.setIfInBounds_toArray, List.set_cons_zero, List.set_cons_succ, i64_w, i32_w]
                rfl
              refine pure_ (i := 8) (N := some 51) (v := ?_) (a' := ?_) #[true, true, true, true, true, true, true, true, true, false, false, false, false, false, false, false, false, false, false, false, false, false, false, false, false, false, false, false, false, false, false, false, false, false, false, false, false, false] rfl rfl (any_of HT_.out (by kernel_rfl)) (fun _ _ _ h => h) (Or.inl ⟨by rfl, ?_⟩) ?_ ?_
              rotate_left
              · intro w'
                go_simp
                with_reducible rfl
              rotate_left
              · simp only [Act.put, List.setIfInBounds_toArray, List.set_cons_zero, List.set_cons_succ, i64_w, i32_w]
                rfl
              refine pure_ (i := 9) (N := some 52) (v := ?_) (a' := ?_) #[true, true, true, true, true, true, true, true, true, true, false, false, false, false, false, false, false, false, false, false, false, false, false, false, false, false, false, false, false, false, false, false, false, false, false, false, false, false] rfl rfl (any_of HT_.out (by kernel_rfl)) (fun _ _ _ h => h) (Or.inl ⟨by rfl, ?_⟩) ?_ ?_
              rotate_left
              · intro w'
                go_simp
                with_reducible rfl
              rotate_left
              · simp only [Act.put, List.setIfInBounds_toArray, List.set_cons_zero, List.set_cons_succ, i64_w, i32_w]
                rfl
              refine pure_ (i := 10) (N := some 53) (v := ?_) (a' := ?_) #[true, true, true, true, true, true, true, true, true, true, true, false, false, false, false, false, false, false, false, false, false, false, false, false, false, false, false, false, false, false, false, false, false, false, false, false, false, false] rfl rfl (any_of HT_.out (by kernel_rfl)) (fun _ _ _ h => h) (Or.inl ⟨by rfl, ?_⟩) ?_ ?_
              rotate_left
              · intro w'
                go_simp
                with_reducible rfl
              rotate_left
              · simp only [Act.put, List.setIfInBounds_toArray, List.set_cons_zero, List.set_cons_succ, i64_w, i32_w]
                rfl
              refine pure_ (i := 11) (N := some 54) (v := ?_) (a' := ?_) #[true, true, true, true, true, true, true, true, true, true, true, true, false, false, false, false, false, false, false, false, false, false, false, false, false, false, false, false, false, false, false, false, false, false, false, false, false, false] rfl rfl (any_of HT_.out (by kernel_rfl)) (fun _ _ _ h => h) (Or.inl ⟨by rfl, ?_⟩) ?_ ?_
              rotate_left
              · intro w'
                go_simp
                with_reducible rfl
              rotate_left
              · simp only [Act.put, List.setIfInBounds_toArray, List.set_cons_zero, List.set_cons_succ, i64_w, i32_w]
                rfl
              refine pure_ (i := 12) (N := some 55) (v := ?_) (a' := ?_) #[true, true, true, true, true, true, true, true, true, true, true, true, true, false, false, false, false, false, false, false, false, false, false, false, false, false, false, false, false, false, false, false, false, false, false, false, false, false] rfl rfl (any_of HT_.out (by kernel_rfl)) (fun _ _ _ h => h) (Or.inl ⟨by rfl, ?_⟩) ?_ ?_
              rotate_left
              · intro w'
                go_simp
                with_reducible rfl
              rotate_left
              · simp only [Act.put, List.setIfInBounds_toArray, List.set_cons_zero, List.set_cons_succ, i64_w, i32_w]
                rfl
              refine pure_ (i := 13) (N := some 56) (v := ?_) (a' := ?_) #[true, true, true, true, true, true, true, true, true, true, true, true, true, true, false, false, false, false, false, false, false, false, false, false, false, false, false, false, false, false, false, false, false, false, false, false, false, false] rfl rfl (any_of HT_.out (by kernel_rfl)) (fun _ _ _ h => h) (Or.inl ⟨by rfl, ?_⟩) ?_ ?_
              rotate_left
              · intro w'
                go_simp
                with_reducible rfl
              rotate_left
              · simp only [Act.put, List.setIfInBounds_toArray, List.set_cons_zero, List.set_cons_succ, i64_w, i32_w]
                rfl
              refine pure_ (i := 14) (N := some 57) (v := ?_) (a' := ?_) #[true, true, true, true, true, true, true, true, true, true, true, true, true, true, true, false, false, false, false, false, false, false, false, false, false, false, false, false, false, false, false, false, false, false, false, false, false, false] rfl rfl (any_of HT_.out (by kernel_rfl)) (fun _ _ _ h => h) (Or.inl ⟨by rfl, ?_⟩) ?_ ?_
              rotate_left
              · intro w'
                go_simp
                with_reducible rfl
              rotate_left
              · simp only [Act.put, List.setIfInBounds_toArray, List.set_cons_zero, List.set_cons_succ, i64_w, i32_w]
                rfl
              refine pure_ (i := 15) (N := some 58) (v := ?_) (a' := ?_) #[true, true, true, true, true, true, true, true, true, true, true, true, true, true, true, true, false, false, false, false, false, false, false, false, false, false, false, false, false, false, false, false, false, false, false, false, false, false] rfl rfl (any_of HT_.out (by kernel_rfl)) (fun _ _ _ h => h) (Or.inl ⟨by rfl, ?_⟩) ?_ ?_
              rotate_left
              · intro w'
                go_simp
                with_reducible rfl
              rotate_left
              · simp only [Act.put, List.setIfInBounds_toArray, List.set_cons_zero, List.set_cons_succ, i64_w, i32_w]
                rfl
              refine pure_ (i := 16) (N := some 59) (v := ?_) (a' := ?_) #[true, true, true, true, true, true, true, true, true, true, true, true, true, true, true, true, true, false, false, false, false, false, false, false, false, false, false, false, false, false, false, false, false, false, false, false, false, false] rfl rfl (any_of HT_.out (by kernel_rfl)) (fun _ _ _ h => h) (Or.inl ⟨by rfl, ?_⟩) ?_ ?_
              rotate_left
              · intro w'
                go_simp
                with_reducible rfl
              rotate_left
              · simp only [Act.put, List.setIfInBounds_toArray, List.set_cons_zero, List.set_cons_succ, i64_w, i32_w]
                rfl
              refine pure_ (i := 17) (N := some 60) (v := ?_) (a' := ?_) #[true, true, true, true, true, true, true, true, true, true, true, true, true, true, true, true, true, true, false, false, false, false, false, false, false, false, false, false, false, false, false, false, false, false, false, false, false, false] rfl rfl (any_of HT_.out (by kernel_rfl)) (fun _ _ _ h => h) (Or.inl ⟨by rfl, ?_⟩) ?_ ?_
              rotate_left
              · intro w'
                go_simp
                with_reducible rfl
              rotate_left
              · simp only [Act.put, List.setIfInBounds_toArray, List.set_cons_zero, List.set_cons_succ, i64_w, i32_w]
                rfl
              refine pure_ (i := 18) (N := some 61) (v := ?_) (a' := ?_) #[true, true, true, true, true, true, true, true, true, true, true, true, true, true, true, true, true, true, true, false, false, false, false, false, false, false, false, false, false, false, false, false, false, false, false, false, false, false] rfl rfl (any_of HT_.out (by kernel_rfl)) (fun _ _ _ h => h) (Or.inl ⟨by rfl, ?_⟩) ?_ ?_
              rotate_left
              · intro w'
                go_simp
                with_reducible rfl
              rotate_left
              · simp only [Act.put, List.setIfInBounds_toArray, List.set_cons_zero, List.set_cons_succ, i64_w, i32_w]
                rfl
              refine pure_ (i := 19) (N := some 62) (v := ?_) (a' := ?_) #[true, true, true, true, true, true, true, true, true, true, true, true, true, true, true, true, true, true, true, true, false, false, false, false, false, false, false, false, false, false, false, false, false, false, false, false, false, false] rfl rfl (any_of HT_.out (by kernel_rfl)) (fun _ _ _ h => h) (Or.inl ⟨by rfl, ?_⟩) ?_ ?_
              rotate_left
              · intro w'
                go_simp
                with_reducible rfl
              rotate_left
              · simp only [Act.put, List.setIfInBounds_toArray, List.set_cons_zero, List.set_cons_succ, i64_w, i32_w]
                rfl
              refine pure_ (i := 20) (N := some 63) (v := ?_) (a' := ?_) #[true, true, true, true, true, true, true, true, true, true, true, true, true, true, true, true, true, true, true, true, true, false, false, false, false, false, false, false, false, false, false, false, false, false, false, false, false, false] rfl rfl (any_of HT_.out (by kernel_rfl)) (fun _ _ _ h => h) (Or.inl ⟨by rfl, ?_⟩) ?_ ?_
              rotate_left
              · intro w'
                go_simp
                with_reducible rfl
              rotate_left
              · simp only [Act.put, List.setIfInBounds_toArray, List.set_cons_zero, List.set_cons_succ, i64_w, i32_w]
                rfl
              refine pure_ (i := 21) (N := some 64) (v := ?_) (a' := ?_) #[true, true, true, true, true, true, true, true, true, true, true, true, true, true, true, true, true, true, true, true, true, true, false, false, false, false, false, false, false, false, false, false, false, false, false, false, false, false] rfl rfl (any_of HT_.out (by kernel_rfl)) (fun _ _ _ h => h) (Or.inl ⟨by rfl, ?_⟩) ?_ ?_
              rotate_left
              · intro w'
                go_simp
                with_reducible rfl
              rotate_left
              · simp only [Act.put, List.setIfInBounds_toArray, List.set_cons_zero, List.set_cons_succ, i64_w, i32_w]
                rfl
              refine pure_ (i := 23) (N := some 66) (v := ?_) (a' := ?_) #[true, true, true, true, true, true, true, true, true, true, true, true, true, true, true, true, true, true, true, true, true, true, false, true, false, false, false, false, false, false, false, false, false, false, false, false, false, false] rfl rfl (any_of HT_.out (by kernel_rfl)) (fun _ _ _ h => h) (Or.inl ⟨by rfl, ?_⟩) ?_ ?_
              rotate_left
              · intro w'
                go_simp
                with_reducible rfl
              rotate_left
              · simp only [Act.put, List.setIfInBounds_toArray, List.set_cons_zero, List.set_cons_succ, i64_w, i32_w]
                rfl
              refine pure_ (i := 26) (N := some 69) (v := ?_) (a' := ?_) #[true, true, true, true, true, true, true, true, true, true, true, true, true, true, true, true, true, true, true, true, true, true, false, true, false, false, true, false, false, false, false, false, false, false, false, false, false, false] rfl rfl (any_of HT_.out (by kernel_rfl)) (fun _ _ _ h => h) (Or.inl ⟨by rfl, ?_⟩) ?_ ?_
              rotate_left
              · intro w'
                go_simp
                with_reducible rfl
              rotate_left
              · simp only [Act.put, List.setIfInBounds_toArray, List.set_cons_zero, List.set_cons_succ, i64_w, i32_w]
                rfl
              refine take_ (i := 22) (N := some 65) (v := ?_) (a' := ?_) #[true, true, true, true, true, true, true, true, true, true, true, true, true, true, true, true, true, true, true, true, true, true, true, true, false, false, true, false, false, false, false, false, false, false, false, false, false, false] rfl rfl (take_ofW HT_.out HW_.out (by kernel_rfl)) (fun _ _ _ h => h) (Or.inl ⟨by rfl, ?_⟩) hHeld ?_ ?_
              rotate_left
              · rintro w' ⟨s0, s1, s2, s3, s4, s5, s6, s7, s8, s9, s10, s11, s12, s13, s14, s15, s16, s17, s18, s19, s20⟩
                go_simp
                with_reducible rfl
              rotate_left
              · simp only [Act.put, List.setIfInBounds_toArray, List.set_cons_zero, List.set_cons_succ, i64_w, i32_w]
                rfl
              refine take_ (i := 25) (N := some 68) (v := ?_) (a' := ?_) #[true, true, true, true, true, true, true, true, true, true, true, true, true, true, true, true, true, true, true, true, true, true, true, true, false, true, true, false, false, false, false, false, false, false, false, false, false, false] rfl rfl (take_ofW HT_.out HW_.out (by kernel_rfl)) (fun _ _ _ h => h) (Or.inl ⟨by rfl, ?_⟩) hHeld ?_ ?_
              rotate_left
              · rintro w' ⟨s0, s1, s2, s3, s4, s5, s6, s7, s8, s9, s10, s11, s12, s13, s14, s15, s16, s17, s18, s19, s20⟩
                go_simp
                with_reducible rfl
              rotate_left
              · simp only [Act.put, List.setIfInBounds_toArray, List.set_cons_zero, List.set_cons_succ, i64_w, i32_w]
                rfl
              refine one_ (i := 24) (N := some 67) #[true, true, true, true, true, true, true, true, true, true, true, true, true, true, true, true, true, true, true, true, true, true, true, true, true, true, true, false, false, false, false, false, false, false, false, false, false, false] rfl rfl (one_of HT_.out (by kernel_rfl)) (by decide) (fun K hK => ?_)
              refine goes_ Try.func16 (by kernel_rfl) rfl #[.agg #[.bool a0_0, .int .i64 a0_1, .int .i64 a0_2, .int .i64 a0_3, .int .i64 a0_4, .int .i64 a0_5, .int .i64 a0_6], .int .i64 a2] (by rfl) rfl rfl (by (try simp only [List.map_toArray, List.map_cons, List.map_nil]); first | done | rfl | (simp only [List.length_drop, List.length_take]; rfl)) ?_
              with_reducible refine (timesync_Tick.calls k a0_0 a0_1 a0_2 a0_3 a0_4 a0_5 a0_6 a2 t344 t345 t346 t347 t348 t349 t350 _ A15.out).mono ?_
              rintro e w44 ⟨rfl, hb⟩
              refine ⟨_, rfl, ?_⟩
              have n0_ := Aside0.mk (zj (g := gb319) (o := .cells #[.bool a0_0, .int .i64 a0_1, .int .i64 a0_2, .int .i64 a0_3, .int .i64 a0_4, .int .i64 a0_5, .int .i64 a0_6] 25 (0, 0)) (by (with_reducible repeat (first | refine ze ?_ _ | refine zh ?_ | refine zd ?_ _)); exact BK319.out) hb)
              have n1_ := Aside0.mk (zj (g := gb320) (o := .cells #[.int .i64 a1_0, .int .i64 a1_1, .int .i64 a1_2, .int .i64 a1_3, .int .i64 a1_4] 27 (0, 0)) (by (with_reducible repeat (first | refine ze ?_ _ | refine zh ?_ | refine zd ?_ _)); exact BK320.out) hb)
              have n2_ := Aside0.mk (zj (g := gb330) (o := .cells #[.bool t322, .int .i64 t323, .int .i64 t324, .int .i64 t325, .int .i64 t326, .int .i64 t327, .int .i64 t328] 25 (0, 0)) (by (with_reducible repeat (first | refine ze ?_ _ | refine zh ?_ | refine zd ?_ _)); exact BK330.out) hb)
              have n3_ := Aside0.mk (zj (g := gb339) (o := .cells #[.bool t331, .int .i64 t332, .int .i64 t333, .int .i64 t334, .int .i64 t335, .int .i64 t336, .int .i64 t337] 25 (0, 0)) (by (with_reducible repeat (first | refine ze ?_ _ | refine zh ?_ | refine zd ?_ _)); exact BK339.out) hb)
              have n4_ := Aside0.mk (zk (by repeat (first | (with_reducible first | exact HB.out | apply zf | apply zc | apply zi | refine zg ?_ GE319.out | refine zg ?_ GE320.out | refine zg ?_ GE330.out | refine zg ?_ GE339.out) | exact HB.out)) hb)
              clear BK319
              clear BK320
              clear BK330
              clear BK339
              clear HB
              have BK319 := n0_
              have BK320 := n1_
              have BK330 := n2_
              have BK339 := n3_
              have HB := n4_
              clear n0_ n1_ n2_ n3_ n4_
              (try clear hb)
              (try clear hb2)
              (try clear hk)
              (try clear hi)
              refine hK.out _ _ ⟨(zb BK330.out 0).trans rfl, (zb BK330.out 1).trans rfl, (zb BK330.out 2).trans rfl, (zb BK330.out 3).trans rfl, (zb BK330.out 4).trans rfl, (zb BK330.out 5).trans rfl, (zb BK330.out 6).trans rfl, (zb BK339.out 0).trans rfl, (zb BK339.out 1).trans rfl, (zb BK339.out 2).trans rfl, (zb BK339.out 3).trans rfl, (zb BK339.out 4).trans rfl, (zb BK339.out 5).trans rfl, (zb BK339.out 6).trans rfl, (zb BK319.out 0).trans rfl, (zb BK319.out 1).trans rfl, (zb BK319.out 2).trans rfl, (zb BK319.out 3).trans rfl, (zb BK319.out 4).trans rfl, (zb BK319.out 5).trans rfl, (zb BK319.out 6).trans rfl⟩ (fun hHeld => ?_)
              clear hK K
              refine norm_ (a' := ?_) ?_ ?_
              rotate_left
              · show Act.put _ (some 67) _ = _
                simp only [Act.put, List.setIfInBounds_toArray, List.set_cons_zero, List.set_cons_succ, i64_w, i32_w]
                rfl
              refine one_ (i := 27) (N := some 70) #[true, true, true, true, true, true, true, true, true, true, true, true, true, true, true, true, true, true, true, true, true, true, true, true, true, true, true, true, false, false, false, false, false, false, false, false, false, false] rfl rfl (one_of HT_.out (by kernel_rfl)) (by decide) (fun K hK => ?_)
              refine goes_ Try.func17 (by kernel_rfl) rfl #[.agg #[.bool a0_0, .int .i64 a0_1, .int .i64 a0_2, .int .i64 a0_3, .int .i64 a0_4, .int .i64 a0_5, .int .i64 a0_6], .int .i64 a2] (by rfl) rfl rfl (by (try simp only [List.map_toArray, List.map_cons, List.map_nil]); first | done | rfl | (simp only [List.length_drop, List.length_take]; rfl)) ?_
              with_reducible refine (R9_Tick.calls k a0_0 a0_1 a0_2 a0_3 a0_4 a0_5 a0_6 a2 t351 t352 t353 t354 t355 t356 t357 _ A16.out).mono ?_
              rintro e w45 ⟨rfl, hb⟩
              refine ⟨_, rfl, ?_⟩
              have n0_ := Aside0.mk (zj (g := gb319) (o := .cells #[.bool a0_0, .int .i64 a0_1, .int .i64 a0_2, .int .i64 a0_3, .int .i64 a0_4, .int .i64 a0_5, .int .i64 a0_6] 25 (0, 0)) (by (with_reducible repeat (first | refine ze ?_ _ | refine zh ?_ | refine zd ?_ _)); exact BK319.out) hb)
              have n1_ := Aside0.mk (zj (g := gb320) (o := .cells #[.int .i64 a1_0, .int .i64 a1_1, .int .i64 a1_2, .int .i64 a1_3, .int .i64 a1_4] 27 (0, 0)) (by (with_reducible repeat (first | refine ze ?_ _ | refine zh ?_ | refine zd ?_ _)); exact BK320.out) hb)
              have n2_ := Aside0.mk (zj (g := gb330) (o := .cells #[.bool t322, .int .i64 t323, .int .i64 t324, .int .i64 t325, .int .i64 t326, .int .i64 t327, .int .i64 t328] 25 (0, 0)) (by (with_reducible repeat (first | refine ze ?_ _ | refine zh ?_ | refine zd ?_ _)); exact BK330.out) hb)
              have n3_ := Aside0.mk (zj (g := gb339) (o := .cells #[.bool t331, .int .i64 t332, .int .i64 t333, .int .i64 t334, .int .i64 t335, .int .i64 t336, .int .i64 t337] 25 (0, 0)) (by (with_reducible repeat (first | refine ze ?_ _ | refine zh ?_ | refine zd ?_ _)); exact BK339.out) hb)
              have n4_ := Aside0.mk (zk (by repeat (first | (with_reducible first | exact HB.out | apply zf | apply zc | apply zi | refine zg ?_ GE319.out | refine zg ?_ GE320.out | refine zg ?_ GE330.out | refine zg ?_ GE339.out) | exact HB.out)) hb)
              clear BK319
              clear BK320
              clear BK330
              clear BK339
              clear HB
              have BK319 := n0_
              have BK320 := n1_
              have BK330 := n2_
              have BK339 := n3_
              have HB := n4_
              clear n0_ n1_ n2_ n3_ n4_
              (try clear hb)
              (try clear hb2)
              (try clear hk)
              (try clear hi)
              refine hK.out _ _ ⟨(zb BK330.out 0).trans rfl, (zb BK330.out 1).trans rfl, (zb BK330.out 2).trans rfl, (zb BK330.out 3).trans rfl, (zb BK330.out 4).trans rfl, (zb BK330.out 5).trans rfl, (zb BK330.out 6).trans rfl, (zb BK339.out 0).trans rfl, (zb BK339.out 1).trans rfl, (zb BK339.out 2).trans rfl, (zb BK339.out 3).trans rfl, (zb BK339.out 4).trans rfl, (zb BK339.out 5).trans rfl, (zb BK339.out 6).trans rfl, (zb BK319.out 0).trans rfl, (zb BK319.out 1).trans rfl, (zb BK319.out 2).trans rfl, (zb BK319.out 3).trans rfl, (zb BK319.out 4).trans rfl, (zb BK319.out 5).trans rfl, (zb BK319.out 6).trans rfl⟩ (fun hHeld => ?_)
              clear hK K
              refine norm_ (a' := ?_) ?_ ?_
              rotate_left
              · show Act.put _ (some 70) _ = _
                simp only [Act.put, List.setIfInBounds_toArray, List.set_cons_zero, List.set_cons_succ, i64_w, i32_w]
                rfl
              refine pure_ (i := 28) (N := some 71) (v := ?_) (a' := ?_) #[true, true, true, true, true, true, true, true, true, true, true, true, true, true, true, true, true, true, true, true, true, true, true, true, true, true, true, true, true, false, false, false, false, false, false, false, false, false] rfl rfl (any_of HT_.out (by kernel_rfl)) (fun _ _ _ h => h) (Or.inl ⟨by rfl, ?_⟩) ?_ ?_
              rotate_left
              · intro w'
                go_simp
                with_reducible rfl
              rotate_left
              · simp only [Act.put, List.setIfInBounds_toArray, List.set_cons_zero, List.set_cons_succ, i64_w, i32_w]
                rfl
              refine pure_ (i := 29) (N := some 72) (v := ?_) (a' := ?_) #[true, true, true, true, true, true, true, true, true, true, true, true, true, true, true, true, true, true, true, true, true, true, true, true, true, true, true, true, true, true, false, false, false, false, false, false, false, false] rfl rfl (any_of HT_.out (by kernel_rfl)) (fun _ _ _ h => h) (Or.inl ⟨by rfl, ?_⟩) ?_ ?_
              rotate_left
              · intro w'
                go_simp
                with_reducible rfl
              rotate_left
              · simp only [Act.put, List.setIfInBounds_toArray, List.set_cons_zero, List.set_cons_succ, i64_w, i32_w]
                rfl
              refine pure_ (i := 30) (N := some 73) (v := ?_) (a' := ?_) #[true, true, true, true, true, true, true, true, true, true, true, true, true, true, true, true, true, true, true, true, true, true, true, true, true, true, true, true, true, true, true, false, false, false, false, false, false, false] rfl rfl (any_of HT_.out (by kernel_rfl)) (fun _ _ _ h => h) (Or.inl ⟨by rfl, ?_⟩) ?_ ?_
              rotate_left
              · intro w'
                go_simp
                with_reducible rfl
              rotate_left
              · simp only [Act.put, List.setIfInBounds_toArray, List.set_cons_zero, List.set_cons_succ, i64_w, i32_w]
                rfl
              refine pure_ (i := 31) (N := some 74) (v := ?_) (a' := ?_) #[true, true, true, true, true, true, true, true, true, true, true, true, true, true, true, true, true, true, true, true, true, true, true, true, true, true, true, true, true, true, true, true, false, false, false, false, false, false] rfl rfl (any_of HT_.out (by kernel_rfl)) (fun _ _ _ h => h) (Or.inl ⟨by rfl, ?_⟩) ?_ ?_
              rotate_left
              · intro w'
                go_simp
                with_reducible rfl
              rotate_left
              · simp only [Act.put, List.setIfInBounds_toArray, List.set_cons_zero, List.set_cons_succ, i64_w, i32_w]
                rfl
              refine pure_ (i := 33) (N := some 76) (v := ?_) (a' := ?_) #[true, true, true, true, true, true, true, true, true, true, true, true, true, true, true, true, true, true, true, true, true, true, true, true, true, true, true, true, true, true, true, true, false, true, false, false, false, false] rfl rfl (any_of HT_.out (by kernel_rfl)) (fun _ _ _ h => h) (Or.inl ⟨by rfl, ?_⟩) ?_ ?_
              rotate_left
              · intro w'
                go_simp
                with_reducible rfl
              rotate_left
              · simp only [Act.put, List.setIfInBounds_toArray, List.set_cons_zero, List.set_cons_succ, i64_w, i32_w]
                rfl
              refine one_ (i := 32) (N := some 75) #[true, true, true, true, true, true, true, true, true, true, true, true, true, true, true, true, true, true, true, true, true, true, true, true, true, true, true, true, true, true, true, true, true, true, false, false, false, false] rfl rfl (one_of HT_.out (by kernel_rfl)) (by decide) (fun K hK => ?_)
              refine goes_ Try.func18 (by kernel_rfl) rfl #[.bool a3] (by rfl) rfl rfl (by (try simp only [List.map_toArray, List.map_cons, List.map_nil]); first | done | rfl | (simp only [List.length_drop, List.length_take]; rfl)) ?_
              with_reducible refine (timesync_Start.calls a3 t358 t359 t360 t361 t362 t363 t364 _ A18.out).mono ?_
              rintro e w46 ⟨rfl, hb⟩
              refine ⟨_, rfl, ?_⟩
              have n0_ := Aside0.mk (zj (g := gb319) (o := .cells #[.bool a0_0, .int .i64 a0_1, .int .i64 a0_2, .int .i64 a0_3, .int .i64 a0_4, .int .i64 a0_5, .int .i64 a0_6] 25 (0, 0)) (by (with_reducible repeat (first | refine ze ?_ _ | refine zh ?_ | refine zd ?_ _)); exact BK319.out) hb)
              have n1_ := Aside0.mk (zj (g := gb320) (o := .cells #[.int .i64 a1_0, .int .i64 a1_1, .int .i64 a1_2, .int .i64 a1_3, .int .i64 a1_4] 27 (0, 0)) (by (with_reducible repeat (first | refine ze ?_ _ | refine zh ?_ | refine zd ?_ _)); exact BK320.out) hb)
              have n2_ := Aside0.mk (zj (g := gb330) (o := .cells #[.bool t322, .int .i64 t323, .int .i64 t324, .int .i64 t325, .int .i64 t326, .int .i64 t327, .int .i64 t328] 25 (0, 0)) (by (with_reducible repeat (first | refine ze ?_ _ | refine zh ?_ | refine zd ?_ _)); exact BK330.out) hb)
              have n3_ := Aside0.mk (zj (g := gb339) (o := .cells #[.bool t331, .int .i64 t332, .int .i64 t333, .int .i64 t334, .int .i64 t335, .int .i64 t336, .int .i64 t337] 25 (0, 0)) (by (with_reducible repeat (first | refine ze ?_ _ | refine zh ?_ | refine zd ?_ _)); exact BK339.out) hb)
              have n4_ := Aside0.mk (zk (by repeat (first | (with_reducible first | exact HB.out | apply zf | apply zc | apply zi | refine zg ?_ GE319.out | refine zg ?_ GE320.out | refine zg ?_ GE330.out | refine zg ?_ GE339.out) | exact HB.out)) hb)
              clear BK319
              clear BK320
              clear BK330
              clear BK339
              clear HB
              have BK319 := n0_
              have BK320 := n1_
              have BK330 := n2_
              have BK339 := n3_
              have HB := n4_
              clear n0_ n1_ n2_ n3_ n4_
              (try clear hb)
              (try clear hb2)
              (try clear hk)
              (try clear hi)
              refine hK.out _ _ ⟨(zb BK330.out 0).trans rfl, (zb BK330.out 1).trans rfl, (zb BK330.out 2).trans rfl, (zb BK330.out 3).trans rfl, (zb BK330.out 4).trans rfl, (zb BK330.out 5).trans rfl, (zb BK330.out 6).trans rfl, (zb BK339.out 0).trans rfl, (zb BK339.out 1).trans rfl, (zb BK339.out 2).trans rfl, (zb BK339.out 3).trans rfl, (zb BK339.out 4).trans rfl, (zb BK339.out 5).trans rfl, (zb BK339.out 6).trans rfl, (zb BK319.out 0).trans rfl, (zb BK319.out 1).trans rfl, (zb BK319.out 2).trans rfl, (zb BK319.out 3).trans rfl, (zb BK319.out 4).trans rfl, (zb BK319.out 5).trans rfl, (zb BK319.out 6).trans rfl⟩ (fun hHeld => ?_)
              clear hK K
              refine norm_ (a' := ?_) ?_ ?_
              rotate_left
              · show Act.put _ (some 75) _ = _
                simp only [Act.put, List.setIfInBounds_toArray, List.set_cons_zero, List.set_cons_succ, i64_w, i32_w]
                rfl
              refine one_ (i := 34) (N := some 77) #[true, true, true, true, true, true, true, true, true, true, true, true, true, true, true, true, true, true, true, true, true, true, true, true, true, true, true, true, true, true, true, true, true, true, true, false, false, false] rfl rfl (one_of HT_.out (by kernel_rfl)) (by decide) (fun K hK => ?_)
              refine goes_ Try.func19 (by kernel_rfl) rfl #[.bool a3] (by rfl) rfl rfl (by (try simp only [List.map_toArray, List.map_cons, List.map_nil]); first | done | rfl | (simp only [List.length_drop, List.length_take]; rfl)) ?_
              with_reducible refine (R9_Start.calls a3 t365 t366 t367 t368 t369 t370 t371 _ A19.out).mono ?_
              rintro e w47 ⟨rfl, hb⟩
              refine ⟨_, rfl, ?_⟩
              have n0_ := Aside0.mk (zj (g := gb319) (o := .cells #[.bool a0_0, .int .i64 a0_1, .int .i64 a0_2, .int .i64 a0_3, .int .i64 a0_4, .int .i64 a0_5, .int .i64 a0_6] 25 (0, 0)) (by (with_reducible repeat (first | refine ze ?_ _ | refine zh ?_ | refine zd ?_ _)); exact BK319.out) hb)
              have n1_ := Aside0.mk (zj (g := gb320) (o := .cells #[.int .i64 a1_0, .int .i64 a1_1, .int .i64 a1_2, .int .i64 a1_3, .int .i64 a1_4] 27 (0, 0)) (by (with_reducible repeat (first | refine ze ?_ _ | refine zh ?_ | refine zd ?_ _)); exact BK320.out) hb)
              have n2_ := Aside0.mk (zj (g := gb330) (o := .cells #[.bool t322, .int .i64 t323, .int .i64 t324, .int .i64 t325, .int .i64 t326, .int .i64 t327, .int .i64 t328] 25 (0, 0)) (by (with_reducible repeat (first | refine ze ?_ _ | refine zh ?_ | refine zd ?_ _)); exact BK330.out) hb)
              have n3_ := Aside0.mk (zj (g := gb339) (o := .cells #[.bool t331, .int .i64 t332, .int .i64 t333, .int .i64 t334, .int .i64 t335, .int .i64 t336, .int .i64 t337] 25 (0, 0)) (by (with_reducible repeat (first | refine ze ?_ _ | refine zh ?_ | refine zd ?_ _)); exact BK339.out) hb)
              have n4_ := Aside0.mk (zk (by repeat (first | (with_reducible first | exact HB.out | apply zf | apply zc | apply zi | refine zg ?_ GE319.out | refine zg ?_ GE320.out | refine zg ?_ GE330.out | refine zg ?_ GE339.out) | exact HB.out)) hb)
              clear BK319
              clear BK320
              clear BK330
              clear BK339
              clear HB
              have BK319 := n0_
              have BK320 := n1_
              have BK330 := n2_
              have BK339 := n3_
              have HB := n4_
              clear n0_ n1_ n2_ n3_ n4_
              (try clear hb)
              (try clear hb2)
              (try clear hk)
              (try clear hi)
              refine hK.out _ _ ⟨(zb BK330.out 0).trans rfl, (zb BK330.out 1).trans rfl, (zb BK330.out 2).trans rfl, (zb BK330.out 3).trans rfl, (zb BK330.out 4).trans rfl, (zb BK330.out 5).trans rfl, (zb BK330.out 6).trans rfl, (zb BK339.out 0).trans rfl, (zb BK339.out 1).trans rfl, (zb BK339.out 2).trans rfl, (zb BK339.out 3).trans rfl, (zb BK339.out 4).trans rfl, (zb BK339.out 5).trans rfl, (zb BK339.out 6).trans rfl, (zb BK319.out 0).trans rfl, (zb BK319.out 1).trans rfl, (zb BK319.out 2).trans rfl, (zb BK319.out 3).trans rfl, (zb BK319.out 4).trans rfl, (zb BK319.out 5).trans rfl, (zb BK319.out 6).trans rfl⟩ (fun hHeld => ?_)
              clear hK K
              refine norm_ (a' := ?_) ?_ ?_
              rotate_left
              · show Act.put _ (some 77) _ = _
                simp only [Act.put, List.setIfInBounds_toArray, List.set_cons_zero, List.set_cons_succ, i64_w, i32_w]
                rfl
              refine pure_ (i := 35) (N := some 78) (v := ?_) (a' := ?_) #[true, true, true, true, true, true, true, true, true, true, true, true, true, true, true, true, true, true, true, true, true, true, true, true, true, true, true, true, true, true, true, true, true, true, true, true, false, false] rfl rfl (any_of HT_.out (by kernel_rfl)) (fun _ _ _ h => h) (Or.inl ⟨by rfl, ?_⟩) ?_ ?_
              rotate_left
              · intro w'
                go_simp
                with_reducible rfl
              rotate_left
              · simp only [Act.put, List.setIfInBounds_toArray, List.set_cons_zero, List.set_cons_succ, i64_w, i32_w]
                rfl
              refine pure_ (i := 36) (N := some 79) (v := ?_) (a' := ?_) #[true, true, true, true, true, true, true, true, true, true, true, true, true, true, true, true, true, true, true, true, true, true, true, true, true, true, true, true, true, true, true, true, true, true, true, true, true, false] rfl rfl (any_of HT_.out (by kernel_rfl)) (fun _ _ _ h => h) (Or.inl ⟨by rfl, ?_⟩) ?_ ?_
              rotate_left
              · intro w'
                go_simp
                with_reducible rfl
              rotate_left
              · simp only [Act.put, List.setIfInBounds_toArray, List.set_cons_zero, List.set_cons_succ, i64_w, i32_w]
                rfl
              refine pure_ (i := 37) (N := some 8) (v := ?_) (a' := ?_) #[true, true, true, true, true, true, true, true, true, true, true, true, true, true, true, true, true, true, true, true, true, true, true, true, true, true, true, true, true, true, true, true, true, true, true, true, true, true] rfl rfl (any_of HT_.out (by kernel_rfl)) (fun _ _ _ h => h) (Or.inl ⟨by rfl, ?_⟩) ?_ ?_
              rotate_left
              · intro w'
                go_simp
                with_reducible rfl
              rotate_left
              · simp only [Act.put, List.setIfInBounds_toArray, List.set_cons_zero, List.set_cons_succ, i64_w, i32_w]
                rfl
              refine done_ (done_of HT_.out (by kernel_rfl)) ?_
              try go_wp2
              go_ret
              exact ⟨by first | rfl | (simp [errW_none, errW_some] <;> rfl) | (simp [*, errW_none, errW_some] <;> rfl), by repeat (first | (with_reducible first | exact HB.out | apply zf | apply zc | apply zi | refine zg ?_ GE319.out | refine zg ?_ GE320.out | refine zg ?_ GE330.out | refine zg ?_ GE339.out) | exact HB.out)⟩
            · rw [if_neg c17] at H
              have c17b0 : (t344 == t351 && ((t345 == t352 && (t346 == t353 && (t347 == t354))) && (t348 == t355 && (t349 == t356 && (t350 == t357))))) = false := by simpa using c17
              (try (have c17b1 : decide (t344 = t351 && ((t345 == t352 && (t346 == t353 && (t347 == t354))) && (t348 == t355 && (t349 == t356 && (t350 == t357))))) = false := by simpa using c17))
              (try (have c17b2 : (t344 == t351 && ((t345 == t352 && (t346 == t353 && (t347 == t354))) && (t348 == t355 && (t349 == t356 && (t350 == t357))))) = false := by simpa using c17))
              (try (have c17b3 : ¬ (t344 = t351 && ((t345 == t352 && (t346 == t353 && (t347 == t354))) && (t348 == t355 && (t349 == t356 && (t350 == t357))))) := by simpa using c17))
              clear c17
              exact absurd H (by simp)
          · rw [if_neg c14] at H
            have c14b0 : (t341 == t343) = false := beq_eq_false_iff_ne.mpr c14
            have c14b1 : (t341 != t343) = true := bne_iff_ne.mpr c14
            exact absurd H (by simp)
        · rw [if_neg c13] at H
          have c13b0 : (t340 == t342) = false := beq_eq_false_iff_ne.mpr c13
          have c13b1 : (t340 != t342) = true := bne_iff_ne.mpr c13
          exact absurd H (by simp)
      · rw [if_neg c12] at H
        have c12b0 : (t329 == t338) = false := beq_eq_false_iff_ne.mpr c12
        have c12b1 : (t329 != t338) = true := bne_iff_ne.mpr c12
        exact absurd H (by simp)
    · rw [if_neg c11] at H
      have c11b0 : (t322 == t331 && ((t323 == t332 && (t324 == t333 && (t325 == t334))) && (t326 == t335 && (t327 == t336 && (t328 == t337))))) = false := by simpa using c11
      (try (have c11b1 : decide (t322 = t331 && ((t323 == t332 && (t324 == t333 && (t325 == t334))) && (t326 == t335 && (t327 == t336 && (t328 == t337))))) = false := by simpa using c11))
      (try (have c11b2 : (t322 == t331 && ((t323 == t332 && (t324 == t333 && (t325 == t334))) && (t326 == t335 && (t327 == t336 && (t328 == t337))))) = false := by simpa using c11))
      (try (have c11b3 : ¬ (t322 = t331 && ((t323 == t332 && (t324 == t333 && (t325 == t334))) && (t326 == t335 && (t327 == t336 && (t328 == t337))))) := by simpa using c11))
      clear c11
      exact absurd H (by simp)
  · replace c10 := Bool.eq_false_iff.mpr c10
    subst c10
    have H1 : (none) = some r := by rw [if_neg (show ¬ (false = true) by decide)] at H; exact H
    clear H
    have H := H1
    clear H1
    exact absurd H (by simp)
end Go.Proofs.Ytkbfhonoamgjgaa.P
end
