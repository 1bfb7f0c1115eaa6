/-
  awake: the document's example.
-/
import Derived.Test.YtabiloklphjeiaaProg
import Derived.Test.YtabiloklphjeiaaDisk
import Derived.Test.YtabiloklphjeiaaDskB
import Derived.Test.YtabiloklphjeiaaDskC
import Derived.Test.YtabiloklphjeiaaMem
import Derived.Below
import Derived.Deep.Draws
import Derived.Deep.AppendLies
import Derived.Maps.AppendAt
import Derived.OwnWalk
import Derived.Laws.BytesArg
import Derived.Laws.MakeOwn
import Derived.Laws.OwnMore
import Derived.Deep.OwnRows
import Derived.Tactics
import Derived.Lib.ConvBytes
import Derived.Laws.Slices
import Derived.WalkKit
import Derived.KernelRfl
import Derived.RowKit3
import Derived.Deep.LoopGhost
import Derived.Deep.QuietTactic
import Derived.BigQuiet
import Derived.WideLaws
import Derived.Deep.DeepCutAuto
import Derived.Deep.CutBlock
import Derived.Deep.RegionHeld3
import Derived.Laws.Rows
import Derived.Lib.AppendStr
import Derived.ArgAppend
import Derived.Laws.IdiomCopy
import Derived.OrdersHeld
import Derived.Laws.BitsLemmas
import Derived.RowKit
import Derived.Lib.SliceRun
import Derived.Test.YtabiloklphjeiaaWWords
import Derived.Test.YtabiloklphjeiaaWLast
import Derived.Test.YtabiloklphjeiaaWTab
import Derived.Test.YtabiloklphjeiaaWFour
import Derived.Test.YtabiloklphjeiaaWQPut
import Derived.Test.YtabiloklphjeiaaWApart
import Derived.Test.YtabiloklphjeiaaWArr
import Derived.Test.YtabiloklphjeiaaWZeros
import Derived.Test.YtabiloklphjeiaaWFoot
import Derived.Test.YtabiloklphjeiaaWKept
import Derived.Test.YtabiloklphjeiaaWShare
import Derived.Test.YtabiloklphjeiaaWN
import Derived.Test.YtabiloklphjeiaaWFootNe
import Derived.Test.YtabiloklphjeiaaWAt
import Derived.Test.YtabiloklphjeiaaWEqStruct
import Derived.Test.YtabiloklphjeiaaWRepsOne
import Derived.Test.YtabiloklphjeiaaWInv
import Derived.Test.YtabiloklphjeiaaWInvWords
import Derived.Test.YtabiloklphjeiaaWGuard
import Derived.Test.YtabiloklphjeiaaWNEv
import Derived.Test.YtabiloklphjeiaaWMore
namespace Go.Proofs.Ytabiloklphjeiaa.Awake
open Go.RowKit Go.Proofs.YtabiloklphjeiaaW.PrintWords Go.Proofs.YtabiloklphjeiaaW.PrintLast Go.Proofs.YtabiloklphjeiaaW.PrintMore
set_option linter.unusedVariables false
set_option linter.unusedSimpArgs false
open Disk DskB DskC Mem
theorem abc_text : (strOfNums [97, 98, 99]).toList = [97, 98, 99] := by decide +kernel
set_option maxHeartbeats 4000000 in
set_option maxRecDepth 100000 in
theorem awake (w : World) : Calls Try.prog 7 #[] w fun e w' => e = .returned (.bool true) ∧ Below w.heap.size w w' := by
  have kc := fun (w : World) (C : Array Value) (n c : Nat) => Lib.run_convert_bytes_const (P := Try.prog) w 28 5 C n c Try.underlying28 Try.underlying5
  go_enter Try.func7, Try.ntmps7
  go_wp2_with fail
  refine Calls.mono (new_ok 9 w (by decide) (by decide)) ?_
  rintro e w1 ⟨rfl, hI, hB⟩
  have HI := Aside0.mk hI
  have HB := Aside0.mk hB
  clear hI hB
  go_wp2_with fail
  refine Calls.mono (append_ok w.heap.size 9 0 [] (some ⟨w1.heap.size + 1, 0, none⟩) 1 [[97, 98]] (fun k => k < w1.heap.size) w _ ((HI.out.mono (fun k h => by have := blk_lt HI.out.choose_spec.choose_spec.1; omega)).below (ins2 (Below.refl _ _) (Nat.le_refl _) _ _)) (ins2 HB.out HB.out.size _ _)
    (lit_args (t := 5) (t' := 28) (mk := (2, 3)) (mk' := (0, 0)) (p := w1.heap.size) (l := [97, 98]) (c := 2) (by simp) (blk_alloc (heap_alloc_new w1 _) _) (new1 w1 _ _) (by simp) (by simp) (by simp)) (by simp) (by simp) (by omega) (by decide)) ?_
  rintro e w2 ⟨rfl, hI2, hB2, -⟩
  have HI2 := Aside0.mk (IsD_bound hI2)
  have HB2 := Aside0.mk hB2
  clear hI2 hB2 HI HB
  go_wp2_with fail
  refine Calls.mono (flush w.heap.size 9 0 _ _ w _ HI2.out HB2.out) ?_
  rintro e w3 ⟨rfl, hI3, hB3, -⟩
  have HI3 := Aside0.mk ((IsD_bound hI3).mono (fun k h => h.2))
  have HB3 := Aside0.mk hB3
  clear hI3 hB3 HI2 HB2
  go_wp2_with fail
  refine Calls.mono (append_ok w.heap.size 9 2 [97, 98] (some ⟨w3.heap.size + 1, 0, none⟩) 1 [[99, 100]] (fun k => k < w3.heap.size) w _ (HI3.out.below (ins2 (Below.refl _ _) (Nat.le_refl _) _ _)) (ins2 HB3.out HB3.out.size _ _)
    (lit_args (t := 5) (t' := 28) (mk := (2, 3)) (mk' := (0, 0)) (p := w3.heap.size) (l := [99, 100]) (c := 2) (by simp) (blk_alloc (heap_alloc_new w3 _) _) (new1 w3 _ _) (by simp) (by simp) (by simp)) (by simp) (by simp) (by omega) (by decide)) ?_
  rintro e w4 ⟨rfl, hI4, hB4, -⟩
  have HI4 := Aside0.mk hI4
  have HB4 := Aside0.mk hB4
  clear hI4 hB4 HI3 HB3
  go_wp2_with fail
  refine Calls.mono (crash w.heap.size 9 2 _ 1 _ w _ HI4.out HB4.out (by decide) (by decide) (by decide)) ?_
  rintro e w5 ⟨rfl, hI5, hB5, -⟩
  have HI5 := Aside0.mk (show IsD w.heap.size _ w5 w.heap.size 9 3 [97, 98, 99] from hI5)
  have HB5 := Aside0.mk hB5
  clear hI5 hB5 HI4 HB4
  have hl : left' 2 (([97, 98] ++ [[99, 100]].flatten : List Int).length : Nat) 1 = 3 := by decide
  rw [hl]
  go_wp2_with fail
  refine Calls.mono (Disk.bytes w.heap.size 9 3 [97, 98, 99] _ w _ HI5.out HB5.out (by decide)) ?_
  rintro e w6 ⟨v0, rfl, hR, -, hB6, -⟩
  obtain ⟨A6, c6, rfl⟩ := Kd.R_slice hR
  obtain ⟨_, hcap, hC⟩ := Kd.R_reads' hR
  have HB6 := Aside0.mk hB6
  have hcv := Kd.C_string (P := Try.prog) (c := c6) Try.underlying28 Try.underlying5 Try.underlying9 hC
  obtain ⟨tx, htx⟩ : ∃ tx, tx = strOfNums [97, 98, 99] := ⟨_, rfl⟩
  rw [← htx] at hcv
  simp only [List.length_cons, List.length_nil, Nat.zero_add, Nat.reduceAdd] at hcv
  have hte : tx.toList = [97, 98, 99] := by rw [htx]; exact abc_text
  clear htx hR hC hcap hB6 HI5 HB5
  go_wp2
  go_ret
  exact ⟨rfl, HB6.out⟩

end Go.Proofs.Ytabiloklphjeiaa.Awake
