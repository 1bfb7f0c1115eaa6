/-
  Crash
-/
import Derived.Test.YtabiloklphjeiaaProg
import Derived.Test.YtabiloklphjeiaaDisk
import Derived.BigRegion
import Derived.Below
import Derived.Deep.Draws
import Derived.Deep.AppendLies
import Derived.Maps.AppendAt
import Derived.OwnWalk
import Derived.Laws.BytesArg
import Derived.Laws.MakeOwn
import Derived.Laws.OwnMore
import Derived.Deep.OwnRows
import Derived.Tactics
import Derived.Lib.ConvBytes
import Derived.Laws.Slices
import Derived.WalkKit
import Derived.KernelRfl
import Derived.RowKit3
import Derived.Deep.LoopGhost
import Derived.Deep.QuietTactic
import Derived.BigQuiet
import Derived.WideLaws
import Derived.Deep.DeepCutAuto
import Derived.Deep.CutBlock
import Derived.Deep.RegionHeld3
import Derived.Laws.Rows
import Derived.Lib.AppendStr
import Derived.ArgAppend
import Derived.Laws.IdiomCopy
import Derived.OrdersHeld
import Derived.Laws.BitsLemmas
import Derived.RowKit
import Derived.Lib.SliceRun
import Derived.Test.YtabiloklphjeiaaWWords
import Derived.Test.YtabiloklphjeiaaWLast
import Derived.Test.YtabiloklphjeiaaWTab
import Derived.Test.YtabiloklphjeiaaWFour
import Derived.Test.YtabiloklphjeiaaWQPut
import Derived.Test.YtabiloklphjeiaaWApart
import Derived.Test.YtabiloklphjeiaaWArr
import Derived.Test.YtabiloklphjeiaaWZeros
import Derived.Test.YtabiloklphjeiaaWFoot
import Derived.Test.YtabiloklphjeiaaWKept
import Derived.Test.YtabiloklphjeiaaWShare
import Derived.Test.YtabiloklphjeiaaWN
import Derived.Test.YtabiloklphjeiaaWFootNe
import Derived.Test.YtabiloklphjeiaaWAt
import Derived.Test.YtabiloklphjeiaaWEqStruct
import Derived.Test.YtabiloklphjeiaaWRepsOne
import Derived.Test.YtabiloklphjeiaaWInv
import Derived.Test.YtabiloklphjeiaaWInvWords
import Derived.Test.YtabiloklphjeiaaWGuard
import Derived.Test.YtabiloklphjeiaaWNEv
import Derived.Test.YtabiloklphjeiaaWMore
namespace Go.Proofs.Ytabiloklphjeiaa.DskB
open Go.RowKit Go.Proofs.YtabiloklphjeiaaW.PrintWords Go.Proofs.YtabiloklphjeiaaW.PrintLast Go.Proofs.YtabiloklphjeiaaW.PrintMore
set_option linter.unusedVariables false
set_option linter.unusedSimpArgs false
attribute [local go_sem] max2_int min2_int max_two min_two
open Disk
theorem wrap64_of (x : Int) (h0 : -9223372036854775808 ≤ x) (h1 : x < 9223372036854775808) : IntKind.i64.wrap x = x := by rw [IntKind.wrap_i64]; omega

set_option maxHeartbeats 4000000 in
set_option maxRecDepth 100000 in
theorem crash (g : Nat) (room safe : Int) (xs : List Int) (keep : Int) (ok : Nat → Prop) (w0 w : World) (hI : IsD w0.heap.size ok w g room safe xs) (hB : Below w0.heap.size w0 w) (hs0 : 0 ≤ safe) (hs1 : safe ≤ xs.length) (hsz : (xs.length : Int) < 4611686018427387904) :
    Calls Try.prog 11 #[.pointer (some ⟨g, 0, none⟩), .int .i64 keep] w fun e w' => e = .returned (.int .i64 (left' safe xs.length keep)) ∧ IsD w0.heap.size ok w' g room (left' safe xs.length keep) (xs.take (left' safe xs.length keep).toNat) ∧ Below w0.heap.size w0 w' ∧ Kept w w' ok := by
  have HI := Aside0.mk hI
  have HB := Aside0.mk hB
  have HK := Aside0.mk (Kept.refl w ok)
  clear hI hB
  obtain ⟨A, c, hb, hg, ho, hr⟩ := HI.out
  have hc1 := cellD1 hb
  have hc2 := cellD2 hb
  have hf2 := blk_frozen hb 2
  obtain ⟨-, hcap, hC⟩ := Kd.R_reads' hr
  obtain ⟨i5, hi5, hsz5⟩ := info5'
  obtain ⟨n, hn⟩ : ∃ n, n = left' safe xs.length keep := ⟨_, rfl⟩
  have hn0 : 0 ≤ n ∧ n ≤ xs.length := by
    rw [hn]; unfold left'; split <;> split <;> omega
  have hsub : IntKind.i64.wrap ((xs.length : Int) - safe) = (xs.length : Int) - safe := wrap64_of _ (by omega) (by omega)
  have hadd : IntKind.i64.wrap (safe + if (xs.length : Int) - safe < if keep < 0 then 0 else keep then (xs.length : Int) - safe else if keep < 0 then 0 else keep) = n := by
    rw [hn]; unfold left'; refine wrap64_of _ ?_ ?_ <;> split <;> split <;> omega
  rw [← hn]
  obtain ⟨hnl, hnu⟩ := hn0
  have hnc : n ≤ (c : Int) := by omega
  clear hn
  have hm : n.toNat ≤ xs.length := by omega
  have hN : (((xs.take n.toNat).length : Nat) : Int) = n := by rw [List.length_take, Nat.min_eq_left hm]; omega
  have hcut := cut_to (P := Try.prog) 28 5 .i64 Try.underlying28 hi5 A xs.length c n (by omega) (by omega) hcap
  have HI2 := Aside0.mk (IsD.set_row hb hg ho hr hm)
  have HB2 := Aside0.mk (below_set (j := 2) (v := .slice A n.toNat c) HB.out hg)
  have HK2 := Aside0.mk (HK.out.setCell (p := ⟨g, 2, none⟩) (.inl ho) (.slice A n.toNat c))
  have HN := Aside0.mk hN
  have HM := Aside0.mk hm
  clear hb hr hg ho hC hcap hN hm
  go_enter Try.func11, Try.ntmps11
  go_wp2
  go_region
  clear hadd hsub hcut
  generalize (if (xs.length : Int) - safe < if keep < 0 then 0 else keep then (xs.length : Int) - safe else if keep < 0 then 0 else keep) = k1
  generalize (if keep < 0 then 0 else keep) = k2
  go_wp2_with (fail)
  refine Calls.mono (flush g room safe (xs.take n.toNat) ok w0 _ (IsD.drew HI2.out) (below_drew1 HB2.out)) ?_
  rintro e w1 ⟨he, hI1, hB1, hK1⟩
  rw [HN.out] at he hI1
  subst he
  have HI1 := Aside0.mk hI1
  have HB1 := Aside0.mk hB1
  have HK1 := Aside0.mk hK1
  clear hI1 hB1 hK1
  go_wp2
  go_ret
  exact ⟨rfl, HI1.out, HB1.out, HK2.out.then_ HK1.out (fun k hk => .inl hk)⟩


end Go.Proofs.Ytabiloklphjeiaa.DskB
