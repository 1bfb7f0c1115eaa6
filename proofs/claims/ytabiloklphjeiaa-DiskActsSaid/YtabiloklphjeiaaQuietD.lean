/-
  Len, Left, Safe of a disk: they only read.
-/
import Derived.Test.YtabiloklphjeiaaProg
import Derived.Test.YtabiloklphjeiaaDisk
import Derived.BigQuiet
import Derived.Below
import Derived.Deep.Draws
import Derived.Deep.AppendLies
import Derived.Maps.AppendAt
import Derived.OwnWalk
import Derived.Laws.BytesArg
import Derived.Laws.MakeOwn
import Derived.Laws.OwnMore
import Derived.Deep.OwnRows
import Derived.Tactics
import Derived.Lib.ConvBytes
import Derived.Laws.Slices
import Derived.WalkKit
import Derived.KernelRfl
import Derived.RowKit3
import Derived.Deep.LoopGhost
import Derived.Deep.QuietTactic
import Derived.BigQuiet
import Derived.WideLaws
import Derived.Deep.DeepCutAuto
import Derived.Deep.CutBlock
import Derived.Deep.RegionHeld3
import Derived.Laws.Rows
import Derived.Lib.AppendStr
import Derived.ArgAppend
import Derived.Laws.IdiomCopy
import Derived.OrdersHeld
import Derived.Laws.BitsLemmas
import Derived.RowKit
import Derived.Lib.SliceRun
import Derived.Test.YtabiloklphjeiaaWWords
import Derived.Test.YtabiloklphjeiaaWLast
import Derived.Test.YtabiloklphjeiaaWTab
import Derived.Test.YtabiloklphjeiaaWFour
import Derived.Test.YtabiloklphjeiaaWQPut
import Derived.Test.YtabiloklphjeiaaWApart
import Derived.Test.YtabiloklphjeiaaWArr
import Derived.Test.YtabiloklphjeiaaWZeros
import Derived.Test.YtabiloklphjeiaaWFoot
import Derived.Test.YtabiloklphjeiaaWKept
import Derived.Test.YtabiloklphjeiaaWShare
import Derived.Test.YtabiloklphjeiaaWN
import Derived.Test.YtabiloklphjeiaaWFootNe
import Derived.Test.YtabiloklphjeiaaWAt
import Derived.Test.YtabiloklphjeiaaWEqStruct
import Derived.Test.YtabiloklphjeiaaWRepsOne
import Derived.Test.YtabiloklphjeiaaWInv
import Derived.Test.YtabiloklphjeiaaWInvWords
import Derived.Test.YtabiloklphjeiaaWGuard
import Derived.Test.YtabiloklphjeiaaWNEv
import Derived.Test.YtabiloklphjeiaaWMore
namespace Go.Proofs.Ytabiloklphjeiaa.QuietD
open Go.RowKit Go.Proofs.YtabiloklphjeiaaW.PrintWords Go.Proofs.YtabiloklphjeiaaW.PrintLast Go.Proofs.YtabiloklphjeiaaW.PrintMore
set_option linter.unusedVariables false
set_option linter.unusedSimpArgs false
open Disk
set_option maxHeartbeats 1000000 in
set_option maxRecDepth 100000 in
theorem len (g n c : Nat) (room safe : Int) (A : Option Addr) (w : World) (hb : w.heap[g]? = some (.cells #[.int .i64 room, .int .i64 safe, .slice A n c] 48 (0, 0))) :
    Calls Try.prog 13 #[.pointer (some ⟨g, 0, none⟩)] w fun e w' => e = .returned (.int .i64 (n : Int)) ∧ Drawn0 w w' := by
  have hc0 := cellD0 hb
  have hc1 := cellD1 hb
  have hc2 := cellD2 hb
  clear hb
  go_enter Try.func13, Try.ntmps13
  go_wp2
  repeat (go_quiet (fail); try go_wp2)
  go_ret
  exact ⟨rfl, by first | exact Drawn0.refl _ | exact (Drawn0.refl _).step _⟩

set_option maxHeartbeats 1000000 in
set_option maxRecDepth 100000 in
theorem left (g n c : Nat) (room safe : Int) (A : Option Addr) (w : World) (hb : w.heap[g]? = some (.cells #[.int .i64 room, .int .i64 safe, .slice A n c] 48 (0, 0))) :
    Calls Try.prog 14 #[.pointer (some ⟨g, 0, none⟩)] w fun e w' => e = .returned (.int .i64 (wrap64 (room - (n : Int)))) ∧ Drawn0 w w' := by
  have hc0 := cellD0 hb
  have hc1 := cellD1 hb
  have hc2 := cellD2 hb
  clear hb
  go_enter Try.func14, Try.ntmps14
  go_wp2
  repeat (go_quiet (fail); try go_wp2)
  go_ret
  exact ⟨rfl, by first | exact Drawn0.refl _ | exact (Drawn0.refl _).step _⟩

set_option maxHeartbeats 1000000 in
set_option maxRecDepth 100000 in
theorem safe_ (g n c : Nat) (room safe : Int) (A : Option Addr) (w : World) (hb : w.heap[g]? = some (.cells #[.int .i64 room, .int .i64 safe, .slice A n c] 48 (0, 0))) :
    Calls Try.prog 15 #[.pointer (some ⟨g, 0, none⟩)] w fun e w' => e = .returned (.int .i64 safe) ∧ Drawn0 w w' := by
  have hc0 := cellD0 hb
  have hc1 := cellD1 hb
  have hc2 := cellD2 hb
  clear hb
  go_enter Try.func15, Try.ntmps15
  go_wp2
  repeat (go_quiet (fail); try go_wp2)
  go_ret
  exact ⟨rfl, by first | exact Drawn0.refl _ | exact (Drawn0.refl _).step _⟩

end Go.Proofs.Ytabiloklphjeiaa.QuietD
