/-
  The document's example, seen from outside.
-/
import Derived.Test.YtlmeeafppigphaaProg
import Derived.Test.YtlmeeafppigphaaAMap
import Derived.Test.YtlmeeafppigphaaArena
import Derived.Test.YtlmeeafppigphaaAFree
import Derived.Test.YtlmeeafppigphaaAFree2
import Derived.Test.YtlmeeafppigphaaRegH
import Derived.Test.YtlmeeafppigphaaAPlain
import Derived.Test.YtlmeeafppigphaaAMany
import Derived.Test.YtlmeeafppigphaaAMany2
import Derived.Test.YtlmeeafppigphaaPArenaActsx0
import Derived.Test.YtlmeeafppigphaaPArenaActsx2
import Derived.Below
import Derived.Deep.Draws
import Derived.Deep.AppendLies
import Derived.Maps.AppendAt
import Derived.OwnWalk
import Derived.Laws.BytesArg
import Derived.Laws.MakeOwn
import Derived.Laws.OwnMore
import Derived.Deep.OwnRows
import Derived.Tactics
import Derived.Lib.ConvBytes
import Derived.Laws.Slices
import Derived.WalkKit
import Derived.KernelRfl
import Derived.RowKit3
import Derived.Deep.LoopGhost
import Derived.Deep.QuietTactic
import Derived.BigQuiet
import Derived.WideLaws
import Derived.Deep.DeepCutAuto
import Derived.Deep.CutBlock
import Derived.Deep.RegionHeld3
import Derived.Laws.Rows
import Derived.Lib.AppendStr
import Derived.ArgAppend
import Derived.Laws.IdiomCopy
import Derived.OrdersHeld
import Derived.Laws.BitsLemmas
import Derived.RowKit
import Derived.Lib.SliceRun
import Derived.Test.YtlmeeafppigphaaWWords
import Derived.Test.YtlmeeafppigphaaWLast
import Derived.Test.YtlmeeafppigphaaWTab
import Derived.Test.YtlmeeafppigphaaWFour
import Derived.Test.YtlmeeafppigphaaWQPut
import Derived.Test.YtlmeeafppigphaaWApart
import Derived.Test.YtlmeeafppigphaaWArr
import Derived.Test.YtlmeeafppigphaaWZeros
import Derived.Test.YtlmeeafppigphaaWFoot
import Derived.Test.YtlmeeafppigphaaWKept
import Derived.Test.YtlmeeafppigphaaWShare
import Derived.Test.YtlmeeafppigphaaWN
import Derived.Test.YtlmeeafppigphaaWFootNe
import Derived.Test.YtlmeeafppigphaaWAt
import Derived.Test.YtlmeeafppigphaaWEqStruct
import Derived.Test.YtlmeeafppigphaaWRepsOne
import Derived.Test.YtlmeeafppigphaaWInv
import Derived.Test.YtlmeeafppigphaaWInvWords
import Derived.Test.YtlmeeafppigphaaWGuard
import Derived.Test.YtlmeeafppigphaaWNEv
import Derived.Test.YtlmeeafppigphaaWMore
namespace Go.Proofs.Ytlmeeafppigphaa.AAwake
open Go.RowKit Go.Proofs.YtlmeeafppigphaaW.PrintWords Go.Proofs.YtlmeeafppigphaaW.PrintLast Go.Proofs.YtlmeeafppigphaaW.PrintMore
set_option linter.unusedVariables false
set_option linter.unusedSimpArgs false
open Go.Proofs.Ytlmeeafppigphaa.AMap (GM TM Wf)
open Arena AFree AFree2 APlain AMany AMany2
def s0 : Ar := ⟨2, fun _ => 0, fun _ => false, 0, [], 0⟩
def s1 : Ar := tk { s0 with fresh := 1 } 0
def s2 : Ar := tk { s1 with fresh := 2 } 1
def s5 : Ar := fr s2 ⟨0, 0⟩
def s6 : Ar := tk { s5 with free := [] } 0
theorem t1 : takeA s0 = some (⟨0, 0⟩, s1) := takeA_fresh rfl (by decide)
theorem t2 : takeA s1 = some (⟨1, 0⟩, s2) := takeA_fresh rfl (by decide)
theorem t3 : takeA s2 = none := takeA_full rfl rfl
theorem t5 : takeA s5 = some (⟨0, 1⟩, s6) := takeA_free (xs := []) rfl
theorem i0 : Inv 0 s0 := Inv_new 2 (by decide) (by decide)
theorem i1 : Inv 0 s1 := (Inv_take i0 t1).1
theorem i2 : Inv 0 s2 := (Inv_take i1 t2).1
theorem i5 : Inv 1 s5 := (Inv_free i2 rfl).1
theorem c2 : chk s2 (fun _ => false) [⟨0, 0⟩] = true := by decide
theorem l6 : (s6.taken 0 && decide (s6.gens 0 = 0)) = false := by decide

set_option maxHeartbeats 4000000 in
set_option maxRecDepth 100000 in
theorem awake (w : World) : Calls Try.prog 7 #[] w fun e w' => e = .returned (.bool true) ∧ Below w.heap.size w w' := by
  obtain ⟨ok, hok⟩ : ∃ ok : Nat → Prop, ok = fun k => w.heap.size ≤ k ∧ k ≤ w.heap.size + 2 := ⟨_, rfl⟩
  go_enter Try.func7, Try.ntmps7
  go_wp2_with fail
  refine Calls.mono (new_ok 2 w (by decide) (by decide)) ?_
  rintro e w1 ⟨rfl, hI, hB⟩
  rw [← hok] at hI
  obtain ⟨g, hg⟩ : ∃ g, g = w.heap.size + 2 := ⟨_, rfl⟩
  rw [← hg] at hI ⊢
  have HI := Aside0.mk (show IsA w.heap.size ok w1 g 0 s0 from hI)
  have HB := Aside0.mk hB
  clear hI hB hg hok
  go_wp2_with fail
  refine Calls.mono (show Calls Try.prog 9 _ _ (fun e w' => e = R30 0 0 0 ∧ IsA w.heap.size ok w' g 0 s1 ∧ Below w.heap.size w w' ∧ Kept _ w' ok) from take_some g 0 ok w _ HI.out HB.out i0 t1) ?_
  rintro e w2 ⟨rfl, hI, hB, -⟩
  have HI2 := Aside0.mk hI
  have HB2 := Aside0.mk hB
  clear hI hB HI HB
  go_wp2_with fail
  refine Calls.mono (show Calls Try.prog 9 _ _ (fun e w' => e = R30 1 0 0 ∧ IsA w.heap.size ok w' g 0 s2 ∧ Below w.heap.size w w' ∧ Kept _ w' ok) from take_some g 0 ok w _ (HI2.out.below (below_alloc (Below.refl _ _) _)) (ins1 HB2.out HB2.out.size _) i1 t2) ?_
  rintro e w3 ⟨rfl, hI, hB, hK⟩
  have HP3 := Aside0.mk (blk_kept (heap_alloc_new w2 _) hK (fun h => Nat.lt_irrefl _ (HI2.out.lt h)))
  have HI3 := Aside0.mk hI
  have HB3 := Aside0.mk hB
  clear hI hB hK HB2
  go_wp2_with fail
  refine Calls.mono (take_none g 0 ok w _ (HI3.out.below (below_alloc (Below.refl _ _) _)) t3) ?_
  rintro e w4 ⟨rfl, hb⟩
  have HP4 := Aside0.mk ((hb.block _ (blk_lt (blk_alloc HP3.out _))).trans (blk_alloc HP3.out _))
  have HQ4 := Aside0.mk ((hb.block _ (blk_lt (heap_alloc_new w3 _))).trans (heap_alloc_new w3 _))
  have HI4 := Aside0.mk ((HI3.out.below (below_alloc (Below.refl _ _) _)).below hb)
  have HB4 := Aside0.mk (below_step (ins1 HB3.out HB3.out.size _) hb)
  have HN3 := Aside0.mk (show w2.heap.size < w3.heap.size from blk_lt HP3.out)
  have hz0 : ∀ o, (w4.alloc o).cell? ⟨w2.heap.size, 0, none⟩ = some (.int .i64 0) := fun o => (blk_cell (blk_alloc HP4.out o) 0).trans rfl
  have hz1 : ∀ o, (w4.alloc o).cell? ⟨w2.heap.size, 1, none⟩ = some (.int .i64 0) := fun o => (blk_cell (blk_alloc HP4.out o) 1).trans rfl
  clear hb HB3 HP3
  go_wp2_with fail
  obtain ⟨wf, hwf⟩ : ∃ wf, wf = (w4.alloc (.cells #[.int .i64 0, .int .i64 0] 30)).alloc (.cells #[.int .i64 0, .int .i64 0] 30) := ⟨_, rfl⟩
  have hif := (HI4.out.below (below_alloc (Below.refl _ _) (.cells #[.int .i64 0, .int .i64 0] 30))).below (below_alloc (Below.refl _ _) (.cells #[.int .i64 0, .int .i64 0] 30))
  have hbf := ins1 (ins1 HB4.out HB4.out.size (.cells #[.int .i64 0, .int .i64 0] 30)) (by have := HB4.out.size; simp; omega) (.cells #[.int .i64 0, .int .i64 0] 30)
  have haf := heap_alloc2_new w4 (.cells #[.int .i64 0, .int .i64 0] 30) (.cells #[.int .i64 0, .int .i64 0] 30)
  have hpf := blk_alloc (blk_alloc HP4.out (.cells #[.int .i64 0, .int .i64 0] 30)) (.cells #[.int .i64 0, .int .i64 0] 30)
  have hqf := blk_alloc (blk_alloc HQ4.out (.cells #[.int .i64 0, .int .i64 0] 30)) (.cells #[.int .i64 0, .int .i64 0] 30)
  rw [← hwf] at hif hbf haf hpf hqf ⊢
  have hn4 : ¬ ok (w4.heap.size + 1) := fun h => by have := HI4.out.lt h; omega
  refine Calls.mono (free_ok g 0 s2 (some ⟨w4.heap.size + 1, 0, none⟩) 1 [⟨0, 0⟩] ok w wf hif hbf (fun W' hk => handle_blk (h := ⟨0, 0⟩) (t := 30) (mk := (0, 0)) (blk_kept haf hk hn4)) (fun i h => by
    match i, h with
    | 0, _ => exact AMap.wf_of (show (-9223372036854775808 : Int) ≤ 0 by decide) (show (0 : Int) ≤ 9223372036854775807 by decide)) (by decide) c2 i2.gb (by decide) (by decide)) ?_
  rintro e w5 ⟨rfl, hI, hB, hK⟩
  have HP5 := Aside0.mk (blk_kept hpf hK (fun h => Nat.lt_irrefl _ (HI2.out.lt h)))
  have HQ5 := Aside0.mk (blk_kept hqf hK (fun h => Nat.lt_irrefl _ (HI3.out.lt h)))
  have HI5 := Aside0.mk (show IsA w.heap.size (fun q => ok q ∨ wf.heap.size ≤ q ∧ q < w5.heap.size) w5 g 1 s5 from hI)
  have HB5 := Aside0.mk hB
  have HN5 := Aside0.mk (show w2.heap.size < wf.heap.size ∧ w3.heap.size < wf.heap.size from ⟨blk_lt hpf, blk_lt hqf⟩)
  clear hI hB hK hif hbf haf hpf hqf hz0 hz1 hn4 hwf HI4 HB4 HP4 HQ4
  go_wp2_with fail
  refine Calls.mono (show Calls Try.prog 9 _ _ (fun e w' => e = R30 0 1 0 ∧ IsA w.heap.size _ w' g 1 s6 ∧ Below w.heap.size w w' ∧ Kept _ w' _) from take_some g 1 _ w _ HI5.out HB5.out i5 t5) ?_
  rintro e w6 ⟨rfl, hI, hB, hK⟩
  have HP6 := Aside0.mk (blk_kept HP5.out hK (fun h => h.elim (fun h => Nat.lt_irrefl _ (HI2.out.lt h)) (fun h => by have := HN5.out.1; have := h.1; omega)))
  have HQ6 := Aside0.mk (blk_kept HQ5.out hK (fun h => h.elim (fun h => Nat.lt_irrefl _ (HI3.out.lt h)) (fun h => by have := HN5.out.2; have := h.1; omega)))
  have HI6 := Aside0.mk hI
  have HB6 := Aside0.mk hB
  clear hI hB hK HP5 HQ5 HI5 HB5 HN5 HI2 HI3 HN3
  go_wp2_with fail
  obtain ⟨w7, hw7⟩ : ∃ w7, w7 = w6.alloc (.cells #[.int .i64 0, .int .i64 1] 30) := ⟨_, rfl⟩
  have hp7 := blk_alloc HP6.out (.cells #[.int .i64 0, .int .i64 1] 30)
  have hq7 := blk_alloc HQ6.out (.cells #[.int .i64 0, .int .i64 1] 30)
  have hr7 := heap_alloc_new w6 (.cells #[.int .i64 0, .int .i64 1] 30)
  have hi7 := HI6.out.below (below_alloc (Below.refl _ _) (.cells #[.int .i64 0, .int .i64 1] 30))
  have hb7 := ins1 HB6.out HB6.out.size (.cells #[.int .i64 0, .int .i64 1] 30)
  rw [← hw7] at hp7 hq7 hr7 hi7 hb7 ⊢
  have hp0 : ∀ W, Below w7.heap.size w7 W → W.cell? ⟨w2.heap.size, 0, none⟩ = some (.int .i64 0) := fun W h => (blk_cell (blk_below hp7 h) 0).trans rfl
  have hp1 : ∀ W, Below w7.heap.size w7 W → W.cell? ⟨w2.heap.size, 1, none⟩ = some (.int .i64 0) := fun W h => (blk_cell (blk_below hp7 h) 1).trans rfl
  have hq0 : ∀ W, Below w7.heap.size w7 W → W.cell? ⟨w3.heap.size, 0, none⟩ = some (.int .i64 1) := fun W h => (blk_cell (blk_below hq7 h) 0).trans rfl
  have hq1 : ∀ W, Below w7.heap.size w7 W → W.cell? ⟨w3.heap.size, 1, none⟩ = some (.int .i64 0) := fun W h => (blk_cell (blk_below hq7 h) 1).trans rfl
  have hr0 : ∀ W, Below w7.heap.size w7 W → W.cell? ⟨w6.heap.size, 0, none⟩ = some (.int .i64 0) := fun W h => (blk_cell (blk_below hr7 h) 0).trans rfl
  have hr1 : ∀ W, Below w7.heap.size w7 W → W.cell? ⟨w6.heap.size, 1, none⟩ = some (.int .i64 1) := fun W h => (blk_cell (blk_below hr7 h) 1).trans rfl
  have HI7 := Aside0.mk hi7
  have HB7 := Aside0.mk hb7
  have hu30 := Try.underlying30
  clear hp7 hq7 hr7 hi7 hb7 hw7 HP6 HQ6 HI6 HB6
  refine RegH.startH (fun W => Below w7.heap.size w7 W) (by kernel_rfl) rfl (below_drew1 (Below.refl _ _)) (fun hS => ?_)
  (refine RegH.tkH (i := 0) (d := 46) (oi := ⟨_, _, _, _, _, _⟩) (v := ?_) rfl rfl (by kernel_rfl) (by kernel_rfl) (by kernel_rfl) (fun _ _ _ h => h) (Or.inl ⟨by rfl, ?_⟩) hS ?_; rotate_left; (intro w hSw; (try dsimp only at hSw); go_simp); try (with_reducible rfl))
  try simp only [Act.put, List.setIfInBounds_toArray, List.set_cons_zero, List.set_cons_succ]
  refine RegH.oneH (i := 1) (o := ⟨_, _, _, _, _, _⟩) (by kernel_rfl) rfl (fun K hK => ?_)
  go_simp
  refine Calls.mono (PArenaActs.cobweblaw05_handle.calls 0 0 _ _ _ rfl) ?_
  rintro e v ⟨rfl, hb⟩
  have hS := below_step hS hb
  go_wp2_with (fail)
  refine hK.out _ _ (hS) (fun hS => ?_)
  clear hK K
  try simp only [Act.put, List.setIfInBounds_toArray, List.set_cons_zero, List.set_cons_succ]
  refine RegH.oneH (i := 2) (o := ⟨_, _, _, _, _, _⟩) (by kernel_rfl) rfl (fun K hK => ?_)
  go_simp
  refine hK.out _ _ (hS) (fun hS => ?_)
  clear hK K
  try simp only [Act.put, List.setIfInBounds_toArray, List.set_cons_zero, List.set_cons_succ]
  refine RegH.oneH (i := 3) (o := ⟨_, _, _, _, _, _⟩) (by kernel_rfl) rfl (fun K hK => ?_)
  go_simp
  refine hK.out _ _ (hS) (fun hS => ?_)
  clear hK K
  try simp only [Act.put, List.setIfInBounds_toArray, List.set_cons_zero, List.set_cons_succ]
  (refine RegH.tkH (i := 4) (d := 50) (oi := ⟨_, _, _, _, _, _⟩) (v := ?_) rfl rfl (by kernel_rfl) (by kernel_rfl) (by kernel_rfl) (fun _ _ _ h => h) (Or.inl ⟨by rfl, ?_⟩) hS ?_; rotate_left; (intro w hSw; (try dsimp only at hSw); go_simp); try (with_reducible rfl))
  try simp only [Act.put, List.setIfInBounds_toArray, List.set_cons_zero, List.set_cons_succ]
  refine RegH.oneH (i := 5) (o := ⟨_, _, _, _, _, _⟩) (by kernel_rfl) rfl (fun K hK => ?_)
  go_simp
  refine Calls.mono (PArenaActs.cobweblaw05_handle.calls 1 0 _ _ _ rfl) ?_
  rintro e v ⟨rfl, hb⟩
  have hS := below_step hS hb
  go_wp2_with (fail)
  refine hK.out _ _ (hS) (fun hS => ?_)
  clear hK K
  try simp only [Act.put, List.setIfInBounds_toArray, List.set_cons_zero, List.set_cons_succ]
  refine RegH.oneH (i := 6) (o := ⟨_, _, _, _, _, _⟩) (by kernel_rfl) rfl (fun K hK => ?_)
  go_simp
  refine hK.out _ _ (hS) (fun hS => ?_)
  clear hK K
  try simp only [Act.put, List.setIfInBounds_toArray, List.set_cons_zero, List.set_cons_succ]
  refine RegH.oneH (i := 7) (o := ⟨_, _, _, _, _, _⟩) (by kernel_rfl) rfl (fun K hK => ?_)
  go_simp
  refine hK.out _ _ (hS) (fun hS => ?_)
  clear hK K
  try simp only [Act.put, List.setIfInBounds_toArray, List.set_cons_zero, List.set_cons_succ]
  refine RegH.oneH (i := 8) (o := ⟨_, _, _, _, _, _⟩) (by kernel_rfl) rfl (fun K hK => ?_)
  go_simp
  refine hK.out _ _ (hS) (fun hS => ?_)
  clear hK K
  try simp only [Act.put, List.setIfInBounds_toArray, List.set_cons_zero, List.set_cons_succ]
  refine RegH.oneH (i := 9) (o := ⟨_, _, _, _, _, _⟩) (by kernel_rfl) rfl (fun K hK => ?_)
  go_simp
  refine hK.out _ _ (hS) (fun hS => ?_)
  clear hK K
  try simp only [Act.put, List.setIfInBounds_toArray, List.set_cons_zero, List.set_cons_succ]
  refine RegH.oneH (i := 10) (o := ⟨_, _, _, _, _, _⟩) (by kernel_rfl) rfl (fun K hK => ?_)
  go_simp
  refine hK.out _ _ (hS) (fun hS => ?_)
  clear hK K
  try simp only [Act.put, List.setIfInBounds_toArray, List.set_cons_zero, List.set_cons_succ]
  refine RegH.oneH (i := 11) (o := ⟨_, _, _, _, _, _⟩) (by kernel_rfl) rfl (fun K hK => ?_)
  go_simp
  refine hK.out _ _ (hS) (fun hS => ?_)
  clear hK K
  try simp only [Act.put, List.setIfInBounds_toArray, List.set_cons_zero, List.set_cons_succ]
  refine RegH.oneH (i := 12) (o := ⟨_, _, _, _, _, _⟩) (by kernel_rfl) rfl (fun K hK => ?_)
  go_simp
  refine hK.out _ _ (hS) (fun hS => ?_)
  clear hK K
  try simp only [Act.put, List.setIfInBounds_toArray, List.set_cons_zero, List.set_cons_succ]
  refine RegH.oneH (i := 13) (o := ⟨_, _, _, _, _, _⟩) (by kernel_rfl) rfl (fun K hK => ?_)
  go_simp
  refine hK.out _ _ (hS) (fun hS => ?_)
  clear hK K
  try simp only [Act.put, List.setIfInBounds_toArray, List.set_cons_zero, List.set_cons_succ]
  refine RegH.oneH (i := 14) (o := ⟨_, _, _, _, _, _⟩) (by kernel_rfl) rfl (fun K hK => ?_)
  go_simp
  refine hK.out _ _ (hS) (fun hS => ?_)
  clear hK K
  try simp only [Act.put, List.setIfInBounds_toArray, List.set_cons_zero, List.set_cons_succ]
  refine RegH.oneH (i := 15) (o := ⟨_, _, _, _, _, _⟩) (by kernel_rfl) rfl (fun K hK => ?_)
  go_simp
  refine hK.out _ _ (hS) (fun hS => ?_)
  clear hK K
  try simp only [Act.put, List.setIfInBounds_toArray, List.set_cons_zero, List.set_cons_succ]
  refine RegH.oneH (i := 16) (o := ⟨_, _, _, _, _, _⟩) (by kernel_rfl) rfl (fun K hK => ?_)
  go_simp
  refine hK.out _ _ (hS) (fun hS => ?_)
  clear hK K
  try simp only [Act.put, List.setIfInBounds_toArray, List.set_cons_zero, List.set_cons_succ]
  (refine RegH.tkH (i := 17) (d := 63) (oi := ⟨_, _, _, _, _, _⟩) (v := ?_) rfl rfl (by kernel_rfl) (by kernel_rfl) (by kernel_rfl) (fun _ _ _ h => h) (Or.inl ⟨by rfl, ?_⟩) hS ?_; rotate_left; (intro w hSw; (try dsimp only at hSw); go_simp); try (with_reducible rfl))
  try simp only [Act.put, List.setIfInBounds_toArray, List.set_cons_zero, List.set_cons_succ]
  refine RegH.oneH (i := 18) (o := ⟨_, _, _, _, _, _⟩) (by kernel_rfl) rfl (fun K hK => ?_)
  go_simp
  refine Calls.mono (PArenaActs.cobweblaw05_handle.calls 0 1 _ _ _ rfl) ?_
  rintro e v ⟨rfl, hb⟩
  have hS := below_step hS hb
  go_wp2_with (fail)
  refine hK.out _ _ (hS) (fun hS => ?_)
  clear hK K
  try simp only [Act.put, List.setIfInBounds_toArray, List.set_cons_zero, List.set_cons_succ]
  refine RegH.oneH (i := 19) (o := ⟨_, _, _, _, _, _⟩) (by kernel_rfl) rfl (fun K hK => ?_)
  go_simp
  refine hK.out _ _ (hS) (fun hS => ?_)
  clear hK K
  try simp only [Act.put, List.setIfInBounds_toArray, List.set_cons_zero, List.set_cons_succ]
  refine RegH.oneH (i := 20) (o := ⟨_, _, _, _, _, _⟩) (by kernel_rfl) rfl (fun K hK => ?_)
  go_simp
  refine hK.out _ _ (hS) (fun hS => ?_)
  clear hK K
  try simp only [Act.put, List.setIfInBounds_toArray, List.set_cons_zero, List.set_cons_succ]
  refine RegH.oneH (i := 21) (o := ⟨_, _, _, _, _, _⟩) (by kernel_rfl) rfl (fun K hK => ?_)
  go_simp
  refine hK.out _ _ (hS) (fun hS => ?_)
  clear hK K
  try simp only [Act.put, List.setIfInBounds_toArray, List.set_cons_zero, List.set_cons_succ]
  (refine RegH.tkH (i := 22) (d := 68) (oi := ⟨_, _, _, _, _, _⟩) (v := ?_) rfl rfl (by kernel_rfl) (by kernel_rfl) (by kernel_rfl) (fun _ _ _ h => h) (Or.inl ⟨by rfl, ?_⟩) hS ?_; rotate_left; (intro w hSw; (try dsimp only at hSw); go_simp); try (with_reducible rfl))
  try simp only [Act.put, List.setIfInBounds_toArray, List.set_cons_zero, List.set_cons_succ]
  (refine RegH.tkH (i := 23) (d := 69) (oi := ⟨_, _, _, _, _, _⟩) (v := ?_) rfl rfl (by kernel_rfl) (by kernel_rfl) (by kernel_rfl) (fun _ _ _ h => h) (Or.inl ⟨by rfl, ?_⟩) hS ?_; rotate_left; (intro w hSw; (try dsimp only at hSw); go_simp); try (with_reducible rfl))
  try simp only [Act.put, List.setIfInBounds_toArray, List.set_cons_zero, List.set_cons_succ]
  refine RegH.oneH (i := 24) (o := ⟨_, _, _, _, _, _⟩) (by kernel_rfl) rfl (fun K hK => ?_)
  go_simp
  refine Calls.mono (live g 1 s6 0 0 (AMap.wf_of (by decide) (by decide)) _ w _ (HI7.out.below hS)) ?_
  rintro e v ⟨rfl, hb⟩
  rw [l6]
  have hS := below_step hS hb
  go_wp2_with (fail)
  refine hK.out _ _ (hS) (fun hS => ?_)
  clear hK K
  try simp only [Act.put, List.setIfInBounds_toArray, List.set_cons_zero, List.set_cons_succ]
  refine RegH.oneH (i := 25) (o := ⟨_, _, _, _, _, _⟩) (by kernel_rfl) rfl (fun K hK => ?_)
  go_simp
  refine hK.out _ _ (hS) (fun hS => ?_)
  clear hK K
  try simp only [Act.put, List.setIfInBounds_toArray, List.set_cons_zero, List.set_cons_succ]
  refine RegH.oneH (i := 26) (o := ⟨_, _, _, _, _, _⟩) (by kernel_rfl) rfl (fun K hK => ?_)
  go_simp
  refine hK.out _ _ (hS) (fun hS => ?_)
  clear hK K
  try simp only [Act.put, List.setIfInBounds_toArray, List.set_cons_zero, List.set_cons_succ]
  refine RegH.oneH (i := 27) (o := ⟨_, _, _, _, _, _⟩) (by kernel_rfl) rfl (fun K hK => ?_)
  go_simp
  refine hK.out _ _ (hS) (fun hS => ?_)
  clear hK K
  try simp only [Act.put, List.setIfInBounds_toArray, List.set_cons_zero, List.set_cons_succ]
  refine wpAnyH_done (by kernel_rfl) ?_ _
  go_wp2
  go_ret
  exact ⟨rfl, below_step HB7.out hS⟩

end Go.Proofs.Ytlmeeafppigphaa.AAwake
