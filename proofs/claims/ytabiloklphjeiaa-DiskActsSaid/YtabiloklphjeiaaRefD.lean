/-
  The reference's disk: All, Append, Crash walked.
-/
import Derived.Test.YtabiloklphjeiaaProg
import Derived.Test.YtabiloklphjeiaaDisk
import Derived.Test.YtabiloklphjeiaaDskB
import Derived.Test.YtabiloklphjeiaaDskC
import Derived.Test.YtabiloklphjeiaaMem
import Derived.Test.YtabiloklphjeiaaRegH
import Derived.Test.YtabiloklphjeiaaCrashes
import Derived.BigQuiet
import Derived.Below
import Derived.Deep.Draws
import Derived.Deep.AppendLies
import Derived.Maps.AppendAt
import Derived.OwnWalk
import Derived.Laws.BytesArg
import Derived.Laws.MakeOwn
import Derived.Laws.OwnMore
import Derived.Deep.OwnRows
import Derived.Tactics
import Derived.Lib.ConvBytes
import Derived.Laws.Slices
import Derived.WalkKit
import Derived.KernelRfl
import Derived.RowKit3
import Derived.Deep.LoopGhost
import Derived.Deep.QuietTactic
import Derived.BigQuiet
import Derived.WideLaws
import Derived.Deep.DeepCutAuto
import Derived.Deep.CutBlock
import Derived.Deep.RegionHeld3
import Derived.Laws.Rows
import Derived.Lib.AppendStr
import Derived.ArgAppend
import Derived.Laws.IdiomCopy
import Derived.OrdersHeld
import Derived.Laws.BitsLemmas
import Derived.RowKit
import Derived.Lib.SliceRun
import Derived.Test.YtabiloklphjeiaaWWords
import Derived.Test.YtabiloklphjeiaaWLast
import Derived.Test.YtabiloklphjeiaaWTab
import Derived.Test.YtabiloklphjeiaaWFour
import Derived.Test.YtabiloklphjeiaaWQPut
import Derived.Test.YtabiloklphjeiaaWApart
import Derived.Test.YtabiloklphjeiaaWArr
import Derived.Test.YtabiloklphjeiaaWZeros
import Derived.Test.YtabiloklphjeiaaWFoot
import Derived.Test.YtabiloklphjeiaaWKept
import Derived.Test.YtabiloklphjeiaaWShare
import Derived.Test.YtabiloklphjeiaaWN
import Derived.Test.YtabiloklphjeiaaWFootNe
import Derived.Test.YtabiloklphjeiaaWAt
import Derived.Test.YtabiloklphjeiaaWEqStruct
import Derived.Test.YtabiloklphjeiaaWRepsOne
import Derived.Test.YtabiloklphjeiaaWInv
import Derived.Test.YtabiloklphjeiaaWInvWords
import Derived.Test.YtabiloklphjeiaaWGuard
import Derived.Test.YtabiloklphjeiaaWNEv
import Derived.Test.YtabiloklphjeiaaWMore
namespace Go.Proofs.Ytabiloklphjeiaa.RefD
open Go.RowKit Go.Proofs.YtabiloklphjeiaaW.PrintWords Go.Proofs.YtabiloklphjeiaaW.PrintLast Go.Proofs.YtabiloklphjeiaaW.PrintMore
set_option linter.unusedVariables false
set_option linter.unusedSimpArgs false
open Disk DskB DskC Mem Crashes
/-- The reference's disk at block g: room, safe bytes, others. -/
def IsE (base : Nat) (ok : Nat → Prop) (W : World) (g : Nat) (room : Int) (sa re : List Int) : Prop :=
  ∃ v1 v2, W.heap[g]? = some (.cells #[.int .i64 room, v1, v2] 41 (0, 0)) ∧ base ≤ g ∧ ok g ∧ Kd.R (Kd.int .u8) 5 W base (fun k => (ok k ∧ k ≠ g) ∧ some k ≠ v2.ownBlock) v1 sa ∧ Kd.R (Kd.int .u8) 5 W base (fun k => (ok k ∧ k ≠ g) ∧ some k ≠ v1.ownBlock) v2 re
section
variable {base : Nat} {ok ok' S : Nat → Prop} {W W' : World} {g : Nat} {room : Int} {sa re : List Int}
theorem IsE.mono (h : IsE base ok W g room sa re) (hm : ∀ k, ok k → ok' k) : IsE base ok' W g room sa re := by
  obtain ⟨v1, v2, hb, hg, ho, h1, h2⟩ := h
  exact ⟨v1, v2, hb, hg, hm g ho, Kd.R_mono h1 (fun k hk => ⟨⟨hm k hk.1.1, hk.1.2⟩, hk.2⟩), Kd.R_mono h2 (fun k hk => ⟨⟨hm k hk.1.1, hk.1.2⟩, hk.2⟩)⟩
theorem IsE.kept (h : IsE base ok W g room sa re) (hk : Kept W W' S) (hS : ∀ k, ok k → ¬ S k) : IsE base ok W' g room sa re := by
  obtain ⟨v1, v2, hb, hg, ho, h1, h2⟩ := h
  exact ⟨v1, v2, blk_kept hb hk (hS g ho), hg, ho, Kd.R_kept h1 hk (fun k hk => hS k hk.1.1), Kd.R_kept h2 hk (fun k hk => hS k hk.1.1)⟩
theorem IsE.below (h : IsE base ok W g room sa re) (hw : Below W.heap.size W W') : IsE base ok W' g room sa re :=
  h.kept (Kept.of_below hw (fun _ => False)) (fun _ _ h => h)
theorem IsE.drew (h : IsE base ok W g room sa re) : IsE base ok W.drew g room sa re := h.below (below_drew (Below.refl _ _))
theorem IsE.ge (h : IsE base ok W g room sa re) : base ≤ g := by
  obtain ⟨_, _, _, hg, _⟩ := h
  exact hg
theorem IsE.own (h : IsE base ok W g room sa re) : ok g := by
  obtain ⟨_, _, _, _, ho, _⟩ := h
  exact ho
theorem IsE.lt (h : IsE base ok W g room sa re) : g < W.heap.size := by
  obtain ⟨_, _, hb, _⟩ := h
  exact blk_lt hb
theorem IsE.bound (h : IsE base ok W g room sa re) : IsE base (fun k => ok k ∧ base ≤ k ∧ k < W.heap.size) W g room sa re := by
  obtain ⟨v1, v2, hb, hg, ho, h1, h2⟩ := h
  exact ⟨v1, v2, hb, hg, ⟨ho, hg, blk_lt hb⟩, Kd.R_mono (Kd.R_bound h1) (fun k hk => ⟨⟨⟨hk.1.1.1, hk.2.1, hk.2.2.1⟩, hk.1.1.2⟩, hk.1.2⟩), Kd.R_mono (Kd.R_bound h2) (fun k hk => ⟨⟨⟨hk.1.1.1, hk.2.1, hk.2.2.1⟩, hk.1.1.2⟩, hk.1.2⟩)⟩
end

set_option maxHeartbeats 4000000 in
set_option maxRecDepth 100000 in
theorem all (g : Nat) (base : Nat) (room : Int) (sa re : List Int) (ok : Nat → Prop) (w : World) (hI : IsE base ok w g room sa re) (hm : sa.length + re.length ≤ 100000000000) :
    Calls Try.prog 19 #[.pointer (some ⟨g, 0, none⟩)] w fun e w' => ∃ v : Value, e = .returned v ∧ Kd.R (Kd.int .u8) 5 w' w.heap.size (fun _ => True) v (sa ++ re) ∧ Below w.heap.size w w' := by
  obtain ⟨v1, v2, hb, hg, ho, h1, h2⟩ := hI
  obtain ⟨A1, c1, rfl⟩ := Kd.R_slice h1
  obtain ⟨A2, c2, rfl⟩ := Kd.R_slice h2
  have HC1 := Aside0.mk (Kd.R_reads' h1).2.2
  have HC2 := Aside0.mk (Kd.R_reads' h2).2.2
  have hc1 : ∀ W, Below w.heap.size w W → W.cell? ⟨g, 1, none⟩ = some (.slice A1 sa.length c1) := fun W h => (blk_cell (blk_below hb h) 1).trans rfl
  have hc2 : ∀ W, Below w.heap.size w W → W.cell? ⟨g, 2, none⟩ = some (.slice A2 re.length c2) := fun W h => (blk_cell (blk_below hb h) 2).trans rfl
  clear hb hg ho h1 h2
  go_enter Try.func19, Try.ntmps19
  go_wp2
  refine RegH.startH (fun W => Below w.heap.size w W) (by kernel_rfl) rfl (below_drew1 (Below.refl _ _)) (fun hS => ?_)
  (refine RegH.tkH (i := 1) (d := 4) (v := ?_) rfl rfl (by kernel_rfl) (by kernel_rfl) (by kernel_rfl) (fun _ _ _ h => h) (Or.inl ⟨by rfl, ?_⟩) hS ?_; rotate_left; (intro w hSw; (try dsimp only at hSw); go_simp); try (with_reducible rfl))
  try simp only [Act.put, List.setIfInBounds_toArray, List.set_cons_zero, List.set_cons_succ]
  (refine RegH.tkH (i := 2) (d := 5) (v := ?_) rfl rfl (by kernel_rfl) (by kernel_rfl) (by kernel_rfl) (fun _ _ _ h => h) (Or.inl ⟨by rfl, ?_⟩) hS ?_; rotate_left; (intro w hSw; (try dsimp only at hSw); go_simp); try (with_reducible rfl))
  try simp only [Act.put, List.setIfInBounds_toArray, List.set_cons_zero, List.set_cons_succ]
  (refine RegH.tkH (i := 3) (d := 6) (v := ?_) rfl rfl (by kernel_rfl) (by kernel_rfl) (by kernel_rfl) (fun _ _ _ h => h) (Or.inl ⟨by rfl, ?_⟩) hS ?_; rotate_left; (intro w hSw; (try dsimp only at hSw); go_simp); try (with_reducible rfl))
  try simp only [Act.put, List.setIfInBounds_toArray, List.set_cons_zero, List.set_cons_succ]
  (refine RegH.tkH (i := 4) (d := 7) (v := ?_) rfl rfl (by kernel_rfl) (by kernel_rfl) (by kernel_rfl) (fun _ _ _ h => h) (Or.inl ⟨by rfl, ?_⟩) hS ?_; rotate_left; (intro w hSw; (try dsimp only at hSw); go_simp); try (with_reducible rfl))
  try simp only [Act.put, List.setIfInBounds_toArray, List.set_cons_zero, List.set_cons_succ]
  (refine RegH.tkH (i := 6) (d := 9) (v := ?_) rfl rfl (by kernel_rfl) (by kernel_rfl) (by kernel_rfl) (fun _ _ _ h => h) (Or.inl ⟨by rfl, ?_⟩) hS ?_; rotate_left; (intro w hSw; (try dsimp only at hSw); go_simp); try (with_reducible rfl))
  try simp only [Act.put, List.setIfInBounds_toArray, List.set_cons_zero, List.set_cons_succ]
  (refine RegH.tkH (i := 7) (d := 10) (v := ?_) rfl rfl (by kernel_rfl) (by kernel_rfl) (by kernel_rfl) (fun _ _ _ h => h) (Or.inl ⟨by rfl, ?_⟩) hS ?_; rotate_left; (intro w hSw; (try dsimp only at hSw); go_simp); try (with_reducible rfl))
  try simp only [Act.put, List.setIfInBounds_toArray, List.set_cons_zero, List.set_cons_succ]
  (refine RegH.tkH (i := 8) (d := 11) (v := ?_) rfl rfl (by kernel_rfl) (by kernel_rfl) (by kernel_rfl) (fun _ _ _ h => h) (Or.inl ⟨by rfl, ?_⟩) hS ?_; rotate_left; (intro w hSw; (try dsimp only at hSw); go_simp); try (with_reducible rfl))
  try simp only [Act.put, List.setIfInBounds_toArray, List.set_cons_zero, List.set_cons_succ]
  (refine RegH.tkH (i := 9) (d := 12) (v := ?_) rfl rfl (by kernel_rfl) (by kernel_rfl) (by kernel_rfl) (fun _ _ _ h => h) (Or.inl ⟨by rfl, ?_⟩) hS ?_; rotate_left; (intro w hSw; (try dsimp only at hSw); go_simp); try (with_reducible rfl))
  try simp only [Act.put, List.setIfInBounds_toArray, List.set_cons_zero, List.set_cons_succ]
  refine RegH.oneH (i := 0) (by kernel_rfl) rfl (fun K hK => ?_)
  refine Kd.R_lit_step (Kd.int .u8) (w0 := w) w.heap.size 5 (by rfl) (N := 3) rfl (xs := ([] : List Int)) (inner := []) (ok := fun _ => True) (okp := fun _ => True) (by first | (go_simp; done) | (go_simp; rfl)) (Reps.none _ _) (fun _ h => h) trivial hS (hS.size) (by simp) ?_
  intro v3 w3 hr3 hb3 hg3 _
  obtain ⟨A3, c3, rfl⟩ := Kd.R_slice hr3
  have HR3 := Aside0.mk hr3
  have HB3 := Aside0.mk hb3
  clear hr3 hb3 hg3
  refine hK.out (Act.put _ (some 3) _) _ (HB3.out) (fun hS => ?_)
  clear hK K
  try simp only [Act.put, List.setIfInBounds_toArray, List.set_cons_zero, List.set_cons_succ]
  refine RegH.oneH (i := 5) (by kernel_rfl) rfl (fun K hK => ?_)
  refine Kd.R_append_rows_step (Kd.int .u8) (w0 := w) w.heap.size (by rfl) (.tmp 3) (.tmp 7) 28 5 (.int .u8 0) 1 rfl Try.underlying28 Clone.info5 rfl (by decide) (by decide) (.slice A3 ([] : List Int).length c3) (([] : List Int)) (sa) A1 sa.length c1 (fun _ => True) (fun _ => False) rfl rfl (HR3.out) (Kd.C_below HC1.out HB3.out) (fun _ _ h => h) (fun _ h => h.elim) (fun _ _ => trivial) (HB3.out) (HB3.out.size) (by simp only [List.length_nil]; omega) ?_
  intro v4 w4 hr4 hb4 hg4 _
  rw [List.nil_append] at hr4
  obtain ⟨A4, c4, rfl⟩ := Kd.R_slice hr4
  have HR4 := Aside0.mk hr4
  have HB4 := Aside0.mk hb4
  clear hr4 hb4 hg4
  refine hK.out (Act.put _ (some 8) _) _ (HB4.out) (fun hS => ?_)
  clear hK K
  try simp only [Act.put, List.setIfInBounds_toArray, List.set_cons_zero, List.set_cons_succ]
  refine RegH.oneH (i := 10) (by kernel_rfl) rfl (fun K hK => ?_)
  refine Kd.R_append_rows_step (Kd.int .u8) (w0 := w) w.heap.size (by rfl) (.tmp 8) (.tmp 12) 28 5 (.int .u8 0) 1 rfl Try.underlying28 Clone.info5 rfl (by decide) (by decide) (.slice A4 sa.length c4) (sa) (re) A2 re.length c2 (fun _ => True) (fun _ => False) rfl rfl (HR4.out) (Kd.C_below HC2.out HB4.out) (fun _ _ h => h) (fun _ h => h.elim) (fun _ _ => trivial) (HB4.out) (HB4.out.size) (by omega) ?_
  intro v5 w5 hr5 hb5 hg5 _
  have HR5 := Aside0.mk hr5
  have HB5 := Aside0.mk hb5
  clear hr5 hb5 hg5
  refine hK.out (Act.put _ (some 13) _) _ (HB5.out) (fun hS => ?_)
  clear hK K
  try simp only [Act.put, List.setIfInBounds_toArray, List.set_cons_zero, List.set_cons_succ]
  (refine RegH.tkH (i := 11) (d := 2) (v := ?_) rfl rfl (by kernel_rfl) (by kernel_rfl) (by kernel_rfl) (fun _ _ _ h => h) (Or.inl ⟨by rfl, ?_⟩) hS ?_; rotate_left; (intro w hSw; (try dsimp only at hSw); go_simp); try (with_reducible rfl))
  try simp only [Act.put, List.setIfInBounds_toArray, List.set_cons_zero, List.set_cons_succ]
  refine wpAnyH_done (by kernel_rfl) ?_ _
  go_wp2
  go_ret
  exact ⟨_, rfl, HR5.out, HB5.out⟩

theorem cellE {W : World} {g t : Nat} {cs : Array Value} (h : W.heap[g]? = some (.cells cs t (0, 0))) (j : Nat) {v : Value} (hv : cs[j]? = some v) : W.cell? ⟨g, j, none⟩ = some v := (blk_cell h j).trans hv
/-- The reference's rest was written. -/
theorem IsE_put2 {base : Nat} {ok : Nat → Prop} {W : World} {g : Nat} {room : Int} {u v1 v2 : Value} {sa re : List Int} (hb : W.heap[g]? = some (.cells #[.int .i64 room, v1, u] 41 (0, 0))) (hg : base ≤ g) (ho : ok g)
    (h1 : Kd.R (Kd.int .u8) 5 W base (fun k => (ok k ∧ k ≠ g) ∧ some k ≠ v2.ownBlock) v1 sa) (h2 : Kd.R (Kd.int .u8) 5 W base (fun k => (ok k ∧ k ≠ g) ∧ some k ≠ v1.ownBlock) v2 re) : IsE base ok (W.setCell ⟨g, 2, none⟩ v2) g room sa re :=
  ⟨v1, v2, by simpa using blk_set hb 2 v2, hg, ho, Kd.R_far h1 (fun k hk => hk.1.2) _, Kd.R_far h2 (fun k hk => hk.1.2) _⟩
theorem IsE_put1 {base : Nat} {ok : Nat → Prop} {W : World} {g : Nat} {room : Int} {u v1 v2 : Value} {sa re : List Int} (hb : W.heap[g]? = some (.cells #[.int .i64 room, u, v2] 41 (0, 0))) (hg : base ≤ g) (ho : ok g)
    (h1 : Kd.R (Kd.int .u8) 5 W base (fun k => (ok k ∧ k ≠ g) ∧ some k ≠ v2.ownBlock) v1 sa) (h2 : Kd.R (Kd.int .u8) 5 W base (fun k => (ok k ∧ k ≠ g) ∧ some k ≠ v1.ownBlock) v2 re) : IsE base ok (W.setCell ⟨g, 1, none⟩ v1) g room sa re :=
  ⟨v1, v2, by simpa using blk_set hb 1 v1, hg, ho, Kd.R_far h1 (fun k hk => hk.1.2) _, Kd.R_far h2 (fun k hk => hk.1.2) _⟩

set_option maxHeartbeats 4000000 in
set_option maxRecDepth 100000 in
theorem append_ok (g : Nat) (room : Int) (sa re : List Int) (A0 : Option Addr) (c0 : Nat) (bs : List (List Int)) (ok : Nat → Prop) (w0 w : World) (hI : IsE w0.heap.size ok w g room sa re) (hB : Below w0.heap.size w0 w)
    (hA : Kd.C (Kd.slice 5 (Kd.int .u8)) w0 A0 bs.length bs) (hm : bs.length ≤ 4611686018427387904) (hr1 : room ≤ 1073741824) (hfit : (sa.length : Int) + (re.length : Int) + (tot bs : Nat) ≤ room) :
    Calls Try.prog 17 #[.pointer (some ⟨g, 0, none⟩), .slice A0 bs.length c0] w fun e w' => e = .returned (.bool true) ∧ IsE w0.heap.size (fun k => ok k ∨ w.heap.size ≤ k ∧ k < w'.heap.size) w' g room sa (re ++ bs.flatten) ∧ Below w0.heap.size w0 w' ∧ Kept w w' ok := by
  have HA := Aside0.mk hA
  have HI := Aside0.mk hI
  have HB := Aside0.mk hB
  have HGE := Aside0.mk hI.ge
  have HOWN := Aside0.mk hI.own
  have HLT := Aside0.mk hI.lt
  obtain ⟨v1, v2, hb, hg, ho, h1, h2⟩ := hI
  obtain ⟨A1, c1, rfl⟩ := Kd.R_slice h1
  obtain ⟨A2, c2, rfl⟩ := Kd.R_slice h2
  have hc0 := cellE hb 0 rfl
  have hc1 := cellE hb 1 rfl
  have hc2 := cellE hb 2 rfl
  have hs1 : IntKind.i64.wrap (room - (sa.length : Int)) = room - (sa.length : Int) := by rw [IntKind.wrap_i64]; omega
  have hs2 : IntKind.i64.wrap (room - (sa.length : Int) - (re.length : Int)) = room - (sa.length : Int) - (re.length : Int) := by rw [IntKind.wrap_i64]; omega
  clear hb hg ho h1 h2 hA hB
  go_enter Try.func17, Try.ntmps17
  go_wp2
  go_quiet (fail)
  clear hc0 hc1 hc2
  go_wp2
  go_loopg [5, 6] (bs.length) (fun kq v5 v6 wr => ∃ (k : Nat) (L : Int) (nd : Nat), v5 = .int .i64 L ∧ v6 = .int .i64 k ∧ Aside0 (k + kq = bs.length) ∧ k ≤ bs.length ∧ Aside0 (L = room - (sa.length : Int) - (re.length : Int) - (tot (bs.take k) : Nat)) ∧ Aside0 (wr = w.drewN nd))
  case atStart => exact ⟨0, _, _, rfl, rfl, ⟨by omega⟩, Nat.zero_le _, ⟨by simp [tot]⟩, ⟨rfl⟩⟩
  case round =>
    obtain ⟨k, L, nd, rfl, rfl, HQ, hk, HL, HW⟩ := hrel
    have HBW := Aside0.mk (show Below w0.heap.size w0 wr by rw [HW.out]; exact pw_below_drewN HB.out _)
    by_cases hlt : k < bs.length
    · obtain ⟨ad, A3, c3, e1, hx, hl1, hC⟩ := at_piece (Kd.C_below HA.out HBW.out) (k : Int) (by omega) (by omega)
      have htl := tot_le bs k hlt
      have hts := tot_succ bs k hlt
      rw [piece_nat bs k hlt] at hx hl1 hC
      obtain ⟨m, hmm⟩ : ∃ m, m = bs[k].length := ⟨_, rfl⟩
      rw [← hmm] at hx htl hts
      rw [Int.toNat_natCast] at hx
      have hL0 := HL.out
      have h1 : (m : Int) ≤ L := by rw [hL0]; omega
      have h2 : L ≤ 1073741824 := by rw [hL0]; omega
      have HTS := Aside0.mk hts
      clear hL0 hts hC htl hmm hl1 hs1 hs2
      cases e1
      go_wp2
      go_roundg (bs.length - (k + 1))
      case measure => have := HQ.out; omega
      case rel => exact ⟨k + 1, _, nd, rfl, by go_num, ⟨by omega⟩, by omega, ⟨by rw [HL.out, HTS.out]; omega⟩, HW⟩
    · clear HL HQ hs1 hs2
      go_wp2
      have HI1 := Aside0.mk (show IsE w0.heap.size ok wr g room sa re by rw [HW.out]; exact HI.out.below (pw_below_drewN (Below.refl _ _) _))
      have HK1 := Aside0.mk (show Kept w wr ok by rw [HW.out]; exact (Kept.refl w ok).drewN _)
      clear HI HB HW
      go_loopg [7] (bs.length) (fun kq v7 wr => ∃ (k : Nat), v7 = .int .i64 k ∧ Aside0 (k + kq = bs.length) ∧ k ≤ bs.length ∧ Aside0 (IsE w0.heap.size (fun k => ok k ∨ w.heap.size ≤ k) wr g room sa (re ++ (bs.take k).flatten)) ∧ Aside0 (Below w0.heap.size w0 wr) ∧ Aside0 (Kept w wr ok))
      case atStart => exact ⟨0, rfl, ⟨by omega⟩, Nat.zero_le _, ⟨by simpa using HI1.out.mono (fun k h => .inl h)⟩, HBW, HK1⟩
      case round =>
        clear HI1 HBW HK1
        obtain ⟨k, rfl, HQ, hk, HI, HB, HK⟩ := hrel
        by_cases hlt : k < bs.length
        · obtain ⟨ad, A3, c3, e1, hx, hl1, hC⟩ := at_piece HA.out (k : Int) (by omega) (by omega)
          have htl := tot_le bs k hlt
          rw [piece_nat bs k hlt] at hx hl1 hC
          have hfs := flat_succ bs k hlt
          obtain ⟨b, hb0⟩ : ∃ b, b = bs[k] := ⟨_, rfl⟩
          rw [← hb0] at hx hl1 hC htl hfs
          rw [Int.toNat_natCast] at hx
          have hx' : ∀ W, Below w0.heap.size w0 W → W.cell? (ad.add k) = some (.slice A3 b.length c3) := fun W h => pw_cell_below h hx
          have HFS := Aside0.mk hfs
          obtain ⟨ys, hys⟩ : ∃ ys, ys = re ++ (bs.take k).flatten := ⟨_, rfl⟩
          have hyl : ys.length = re.length + tot (bs.take k) := by rw [hys, List.length_append]; rfl
          have HI2 := Aside0.mk HI.out
          rw [← hys] at HI2
          have HYS := Aside0.mk hys
          have hcap : (ys.length + b.length) * 1 ≤ 140737488355328 := by rw [hyl]; omega
          have HCAP := Aside0.mk hcap
          obtain ⟨u1, u2, hb, hg, ho, h1, h2⟩ := HI2.out
          obtain ⟨A4, c4, rfl⟩ := Kd.R_slice h1
          obtain ⟨A5, c5, rfl⟩ := Kd.R_slice h2
          have hc2 := cellE hb 2 rfl
          have HBLK := Aside0.mk hb
          have HR1 := Aside0.mk h1
          have HR2 := Aside0.mk h2
          have HC := Aside0.mk hC
          clear hb hg ho h1 h2 hC hfs hb0 hys hyl hcap htl hl1 HI HI2 hx
          cases e1
          go_wp2
          refine RegH.startH (fun W => Below w0.heap.size w0 W) (by kernel_rfl) rfl (below_drew1 HB.out) (fun hS => ?_)
          (refine RegH.tkH (i := 0) (d := 50) (v := ?_) rfl rfl (by kernel_rfl) (by kernel_rfl) (by kernel_rfl) (fun _ _ _ h => h) (Or.inl ⟨by rfl, ?_⟩) hS ?_; rotate_left; (intro w hSw; (try dsimp only at hSw); go_simp); try (with_reducible rfl))
          try simp only [Act.put, List.setIfInBounds_toArray, List.set_cons_zero, List.set_cons_succ]
          (refine RegH.tkH (i := 1) (d := 51) (v := ?_) rfl rfl (by kernel_rfl) (by kernel_rfl) (by kernel_rfl) (fun _ _ _ h => h) (Or.inl ⟨by rfl, ?_⟩) hS ?_; rotate_left; (intro w hSw; (try dsimp only at hSw); go_simp); try (with_reducible rfl))
          try simp only [Act.put, List.setIfInBounds_toArray, List.set_cons_zero, List.set_cons_succ]
          (refine RegH.tkH (i := 2) (d := 52) (v := ?_) rfl rfl (by kernel_rfl) (by kernel_rfl) (by kernel_rfl) (fun _ _ _ h => h) (Or.inl ⟨by rfl, ?_⟩) hS ?_; rotate_left; (intro w hSw; (try dsimp only at hSw); go_simp); try (with_reducible rfl))
          try simp only [Act.put, List.setIfInBounds_toArray, List.set_cons_zero, List.set_cons_succ]
          (refine RegH.tkH (i := 3) (d := 53) (v := ?_) rfl rfl (by kernel_rfl) (by kernel_rfl) (by kernel_rfl) (fun _ _ _ h => h) (Or.inl ⟨by rfl, ?_⟩) hS ?_; rotate_left; (intro w hSw; (try dsimp only at hSw); go_simp); try (with_reducible rfl))
          try simp only [Act.put, List.setIfInBounds_toArray, List.set_cons_zero, List.set_cons_succ]
          (refine RegH.tkH (i := 5) (d := 55) (v := ?_) rfl rfl (by kernel_rfl) (by kernel_rfl) (by kernel_rfl) (fun _ _ _ h => h) (Or.inl ⟨by rfl, ?_⟩) hS ?_; rotate_left; (intro w hSw; (try dsimp only at hSw); go_simp); try (with_reducible rfl))
          try simp only [Act.put, List.setIfInBounds_toArray, List.set_cons_zero, List.set_cons_succ]
          (refine RegH.tkH (i := 6) (d := 56) (v := ?_) rfl rfl (by kernel_rfl) (by kernel_rfl) (by kernel_rfl) (fun _ _ _ h => h) (Or.inl ⟨by rfl, ?_⟩) hS ?_; rotate_left; (intro w hSw; (try dsimp only at hSw); go_simp); try (with_reducible rfl))
          try simp only [Act.put, List.setIfInBounds_toArray, List.set_cons_zero, List.set_cons_succ]
          (refine RegH.tkH (i := 7) (d := 57) (v := ?_) rfl rfl (by kernel_rfl) (by kernel_rfl) (by kernel_rfl) (fun _ _ _ h => h) (Or.inl ⟨by rfl, ?_⟩) hS ?_; rotate_left; (intro w hSw; (try dsimp only at hSw); go_simp); try (with_reducible rfl))
          try simp only [Act.put, List.setIfInBounds_toArray, List.set_cons_zero, List.set_cons_succ]
          (refine RegH.tkH (i := 8) (d := 58) (v := ?_) rfl rfl (by kernel_rfl) (by kernel_rfl) (by kernel_rfl) (fun _ _ _ h => h) (Or.inl ⟨by rfl, ?_⟩) hS ?_; rotate_left; (intro w hSw; (try dsimp only at hSw); go_simp); try (with_reducible rfl))
          try simp only [Act.put, List.setIfInBounds_toArray, List.set_cons_zero, List.set_cons_succ]
          refine RegH.oneH (i := 4) (by kernel_rfl) rfl (fun K hK => ?_)
          go_simp
          refine hK.out _ _ (hS) (fun hS => ?_)
          clear hK K
          try simp only [Act.put, List.setIfInBounds_toArray, List.set_cons_zero, List.set_cons_succ]
          refine RegH.oneH (i := 9) (by kernel_rfl) rfl (fun K hK => ?_)
          refine Kd.R_append_rows_step (Kd.int .u8) (w0 := w0) w0.heap.size (by rfl) (.tmp 54) (.tmp 58) 28 5 (.int .u8 0) 1 rfl Try.underlying28 Clone.info5 rfl (by decide) (by decide) (.slice A5 ys.length c5) (ys) (b) A3 b.length c3 (fun k => ((ok k ∨ w.heap.size ≤ k) ∧ k ≠ g) ∧ some k ≠ (Value.slice A4 sa.length c4).ownBlock) (fun _ => False) rfl rfl (Kd.R_drew HR2.out) (Kd.C_below HC.out hS) (fun _ _ h => h) (fun _ h => h.elim) (fun k hk => ⟨⟨.inr (Nat.le_trans HK.out.1 hk), fun he => by have h1 := blk_lt HBLK.out; have h2 : wr.drew.heap.size = wr.heap.size := rfl; omega⟩, fun he => by have h1 := Kd.R_lt HR1.out k he.symm; have h2 : wr.drew.heap.size = wr.heap.size := rfl; omega⟩) (hS) (hS.size) (HCAP.out) ?_
          intro v5 w2 hr2 hb2 hg2 hat2
          have hr1 := Kd.R_after (Kd.R_drew HR1.out) hg2 hat2
          obtain ⟨A6, c6, rfl⟩ := Kd.R_slice hr2
          have HR3 := Aside0.mk hr2
          have HR4 := Aside0.mk hr1
          have HB2 := Aside0.mk hb2
          have HG2 := Aside0.mk hg2
          have hblk2 := (hg2.block g (blk_lt HBLK.out) (fun he => (HR2.out.1 g he.symm).1.2 rfl)).trans HBLK.out
          have hd2 := cellE hblk2 2 rfl
          have hf2 := blk_frozen hblk2 2
          have HBLK2 := Aside0.mk hblk2
          clear hr2 hr1 hb2 hg2 hat2 hblk2
          refine hK.out (Act.put _ (some 59) _) _ (HB2.out) (fun hS => ?_)
          clear hK K
          try simp only [Act.put, List.setIfInBounds_toArray, List.set_cons_zero, List.set_cons_succ]
          (refine RegH.tkH (i := 10) (d := 60) (v := ?_) rfl rfl (by kernel_rfl) (by kernel_rfl) (by kernel_rfl) (fun _ _ _ h => h) (Or.inl ⟨by rfl, ?_⟩) hS ?_; rotate_left; (intro w hSw; (try dsimp only at hSw); go_simp); try (with_reducible rfl))
          try simp only [Act.put, List.setIfInBounds_toArray, List.set_cons_zero, List.set_cons_succ]
          (refine RegH.tkH (i := 11) (d := 61) (v := ?_) rfl rfl (by kernel_rfl) (by kernel_rfl) (by kernel_rfl) (fun _ _ _ h => h) (Or.inl ⟨by rfl, ?_⟩) hS ?_; rotate_left; (intro w hSw; (try dsimp only at hSw); go_simp); try (with_reducible rfl))
          try simp only [Act.put, List.setIfInBounds_toArray, List.set_cons_zero, List.set_cons_succ]
          refine RegH.oneH (i := 12) (by kernel_rfl) rfl (fun K hK => ?_)
          go_simp
          refine hK.out _ _ (below_set HB2.out HGE.out) (fun hS => ?_)
          clear hK K
          try simp only [Act.put, List.setIfInBounds_toArray, List.set_cons_zero, List.set_cons_succ]
          refine wpAnyH_done (by kernel_rfl) ?_ _
          go_wp2
          have HI3 := Aside0.mk (IsE_put2 HBLK2.out HGE.out (.inl HOWN.out) HR4.out HR3.out)
          have HB3 := Aside0.mk (below_set (j := 2) (v := .slice A6 (ys ++ b).length c6) HB2.out HGE.out)
          have HK3 := Aside0.mk ((Kept.of_grown HG2.out HK.out.drew (fun k hk => (HR2.out.1 k hk).1.1)).setCell (p := ⟨g, 2, none⟩) (.inl HOWN.out) (.slice A6 (ys ++ b).length c6))
          rw [List.length_append] at HI3 HB3 HK3
          clear HBLK2 HR3 HR4 HB2 HG2 hd2 hf2
          go_roundg (bs.length - (k + 1))
          case measure => have := HQ.out; omega
          case rel => exact ⟨k + 1, by go_num, ⟨by omega⟩, by omega, ⟨by rw [HFS.out, ← List.append_assoc, ← HYS.out]; exact HI3.out⟩, HB3, HK3⟩
        · go_wp2
          go_ret
          have hI := HI.out
          rw [List.take_of_length_le (by omega)] at hI
          exact ⟨rfl, hI.bound.mono (fun k hk => hk.1.imp id (fun h => ⟨h, hk.2.2⟩)), HB.out, HK.out⟩

set_option maxHeartbeats 4000000 in
set_option maxRecDepth 100000 in
theorem append_full (g : Nat) (room : Int) (sa re : List Int) (A0 : Option Addr) (c0 : Nat) (bs : List (List Int)) (ok : Nat → Prop) (w0 w : World) (hI : IsE w0.heap.size ok w g room sa re) (hB : Below w0.heap.size w0 w)
    (hA : Kd.C (Kd.slice 5 (Kd.int .u8)) w0 A0 bs.length bs) (hm : bs.length ≤ 4611686018427387904) (hm2 : ∀ b ∈ bs, b.length ≤ 4611686018427387904) (hr0 : (sa.length : Int) + (re.length : Int) ≤ room) (hr1 : room ≤ 1073741824) (hfit : ¬ (sa.length : Int) + (re.length : Int) + (tot bs : Nat) ≤ room) :
    Calls Try.prog 17 #[.pointer (some ⟨g, 0, none⟩), .slice A0 bs.length c0] w fun e w' => e = .returned (.bool false) ∧ IsE w0.heap.size ok w' g room sa re ∧ Below w0.heap.size w0 w' ∧ Kept w w' ok := by
  have HA := Aside0.mk hA
  have HM2 := Aside0.mk hm2
  have HF := Aside0.mk hfit
  have HI := Aside0.mk hI
  have HB := Aside0.mk hB
  have HGE := Aside0.mk hI.ge
  have HOWN := Aside0.mk hI.own
  have HLT := Aside0.mk hI.lt
  obtain ⟨v1, v2, hb, hg, ho, h1, h2⟩ := hI
  obtain ⟨A1, c1, rfl⟩ := Kd.R_slice h1
  obtain ⟨A2, c2, rfl⟩ := Kd.R_slice h2
  have hc0 := cellE hb 0 rfl
  have hc1 := cellE hb 1 rfl
  have hc2 := cellE hb 2 rfl
  have hs1 : IntKind.i64.wrap (room - (sa.length : Int)) = room - (sa.length : Int) := by rw [IntKind.wrap_i64]; omega
  have hs2 : IntKind.i64.wrap (room - (sa.length : Int) - (re.length : Int)) = room - (sa.length : Int) - (re.length : Int) := by rw [IntKind.wrap_i64]; omega
  clear hb hg ho h1 h2 hA hB hm2 hfit
  go_enter Try.func17, Try.ntmps17
  go_wp2
  go_quiet (fail)
  clear hc0 hc1 hc2
  go_wp2
  go_loopg [5, 6] (bs.length) (fun kq v5 v6 wr => ∃ (k : Nat) (L : Int) (nd : Nat), v5 = .int .i64 L ∧ v6 = .int .i64 k ∧ Aside0 (k + kq = bs.length) ∧ k ≤ bs.length ∧ Aside0 (L = room - (sa.length : Int) - (re.length : Int) - (tot (bs.take k) : Nat)) ∧ 0 ≤ L ∧ Aside0 (wr = w.drewN nd))
  case atStart => exact ⟨0, _, _, rfl, rfl, ⟨by omega⟩, Nat.zero_le _, ⟨by simp [tot]⟩, by omega, ⟨rfl⟩⟩
  case round =>
    obtain ⟨k, L, nd, rfl, rfl, HQ, hk, HL, hl0, HW⟩ := hrel
    have HBW := Aside0.mk (show Below w0.heap.size w0 wr by rw [HW.out]; exact pw_below_drewN HB.out _)
    by_cases hlt : k < bs.length
    · obtain ⟨ad, A3, c3, e1, hx, hl1, hC⟩ := at_piece (Kd.C_below HA.out HBW.out) (k : Int) (by omega) (by omega)
      have hbm := HM2.out _ (List.getElem_mem hlt)
      have hts := tot_succ bs k hlt
      rw [piece_nat bs k hlt] at hx hl1 hC
      obtain ⟨m, hmm⟩ : ∃ m, m = bs[k].length := ⟨_, rfl⟩
      rw [← hmm] at hx hts hbm
      rw [Int.toNat_natCast] at hx
      have hL0 := HL.out
      have h2 : L ≤ 1073741824 := by rw [hL0]; omega
      have HTS := Aside0.mk hts
      clear hL0 hts hC hmm hl1 hs1 hs2
      cases e1
      by_cases h1 : (m : Int) ≤ L
      · go_wp2
        go_roundg (bs.length - (k + 1))
        case measure => have := HQ.out; omega
        case rel => exact ⟨k + 1, _, nd, rfl, by go_num, ⟨by omega⟩, by omega, ⟨by rw [HL.out, HTS.out]; omega⟩, by omega, HW⟩
      · have h3 : L < (m : Int) := by omega
        go_wp2
        go_ret
        exact ⟨rfl, by rw [HW.out]; exact HI.out.below (pw_below_drewN (Below.refl _ _) _), HBW.out, by rw [HW.out]; exact (Kept.refl w ok).drewN _⟩
    · exfalso
      have h1 := HL.out
      rw [List.take_of_length_le (by omega)] at h1
      have := HF.out
      omega

open Classical in
theorem append_any (g : Nat) (room : Int) (sa re : List Int) (A0 : Option Addr) (c0 : Nat) (bs : List (List Int)) (ok : Nat → Prop) (w0 w : World) (hI : IsE w0.heap.size ok w g room sa re) (hB : Below w0.heap.size w0 w)
    (hA : Kd.C (Kd.slice 5 (Kd.int .u8)) w0 A0 bs.length bs) (hm : bs.length ≤ 4611686018427387904) (hm2 : ∀ b ∈ bs, b.length ≤ 4611686018427387904) (hr0 : (sa.length : Int) + (re.length : Int) ≤ room) (hr1 : room ≤ 1073741824) :
    Calls Try.prog 17 #[.pointer (some ⟨g, 0, none⟩), .slice A0 bs.length c0] w fun e w' => e = .returned (.bool (decide (Fits room (sa.length + re.length) bs))) ∧ IsE w0.heap.size (fun k => ok k ∨ w.heap.size ≤ k ∧ k < w'.heap.size) w' g room sa (if Fits room (sa.length + re.length) bs then re ++ bs.flatten else re) ∧ Below w0.heap.size w0 w' ∧ Kept w w' ok := by
  by_cases h : Fits room (sa.length + re.length) bs
  · simp only [if_pos h, decide_eq_true h]
    exact append_ok g room sa re A0 c0 bs ok w0 w hI hB hA hm hr1 (by unfold Fits at h; omega)
  · simp only [if_neg h, decide_eq_false h]
    exact (append_full g room sa re A0 c0 bs ok w0 w hI hB hA hm hm2 hr0 hr1 (by unfold Fits at h; omega)).mono (fun e w' hh => ⟨hh.1, hh.2.1.mono (fun k h => .inl h), hh.2.2⟩)

theorem S_of {W : World} {g base c : Nat} {ad : Addr} {ok : Nat → Prop} {room x : Int} {u1 : Value} {re : List Int} {i : Nat} (hb : W.heap[g]? = some (.cells #[.int .i64 room, u1, .slice (some ad) re.length c] 41 (0, 0)))
    (hR : Kd.R (Kd.int .u8) 5 W base ok (.slice (some ad) re.length c) re) (hi : i < re.length) (hx : x = rd re (i : Int)) : W.cell? ⟨g, 2, none⟩ = some (.slice (some ad) re.length c) ∧ W.cell? (ad.add i) = some (.int .u8 x) := by
  obtain ⟨ad2, e, hc⟩ := Kd.at_int (Kd.R_reads' hR).2.2 (i : Int) (by omega) (by omega)
  cases e
  exact ⟨cellE hb 2 rfl, by rw [hx]; simpa using hc⟩
/-- How many of the others a crash keeps. -/
def kept' (keep : Int) (n : Nat) : Nat := min n keep.toNat

set_option maxHeartbeats 4000000 in
set_option maxRecDepth 100000 in
theorem crash (g : Nat) (room : Int) (sa re : List Int) (keep : Int) (ok : Nat → Prop) (w0 w : World) (hI : IsE w0.heap.size ok w g room sa re) (hB : Below w0.heap.size w0 w) (hm : sa.length + re.length ≤ 10000000000) :
    Calls Try.prog 18 #[.pointer (some ⟨g, 0, none⟩), .int .i64 keep] w fun e w' => e = .returned (.tuple #[]) ∧ IsE w0.heap.size (fun k => ok k ∨ w.heap.size ≤ k ∧ k < w'.heap.size) w' g room (sa ++ re.take (kept' keep re.length)) [] ∧ Below w0.heap.size w0 w' ∧ Kept w w' ok := by
  have HI := Aside0.mk hI
  have HB := Aside0.mk hB
  have HGE := Aside0.mk hI.ge
  have HOWN := Aside0.mk hI.own
  clear hI hB
  go_enter Try.func18, Try.ntmps18
  go_wp2
  go_loopg [4] (re.length) (fun kq v4 wr => ∃ (i : Nat), v4 = .int .i64 i ∧ Aside0 (i + kq = re.length) ∧ i ≤ re.length ∧ Aside0 (i ≤ kept' keep re.length) ∧ Aside0 (IsE w0.heap.size (fun k => ok k ∨ w.heap.size ≤ k) wr g room (sa ++ re.take i) re) ∧ Aside0 (Below w0.heap.size w0 wr) ∧ Aside0 (Kept w wr ok))
  case atStart => exact ⟨0, rfl, ⟨by omega⟩, Nat.zero_le _, ⟨Nat.zero_le _⟩, ⟨by simpa using HI.out.mono (fun k h => .inl h)⟩, HB, ⟨Kept.refl w ok⟩⟩
  case round =>
    clear HI HB
    obtain ⟨i, rfl, HQ, hi, HN, HI, HB, HK⟩ := hrel
    obtain ⟨u1, u2, hb, hg, ho, h1, h2⟩ := HI.out
    obtain ⟨A4, c4, rfl⟩ := Kd.R_slice h1
    obtain ⟨A5, c5, rfl⟩ := Kd.R_slice h2
    have hc2 := cellE hb 2 rfl
    by_cases hlt : i < re.length
    · by_cases hkp : (i : Int) < keep
      · have HCr := Aside0.mk (Kd.R_reads' h2).2.2
        obtain ⟨ad, e1, _⟩ := Kd.at_int HCr.out (i : Int) (by omega) (by omega)
        cases e1
        obtain ⟨x, hx⟩ : ∃ x, x = rd re (i : Int) := ⟨_, rfl⟩
        have HX := Aside0.mk hx
        have HS0 := Aside0.mk (S_of hb h2 hlt hx)
        have hc1 := cellE hb 1 rfl
        have hf1 := blk_frozen hb 1
        obtain ⟨ys, hys⟩ : ∃ ys, ys = sa ++ re.take i := ⟨_, rfl⟩
        rw [← hys] at h1 h2 hb hc1
        have hc1' : ∀ o, (wr.alloc o).cell? ⟨g, 1, none⟩ = some (.slice A4 ys.length c4) := fun o => cellE (blk_alloc hb o) 1 rfl
        have HYS := Aside0.mk hys
        have HCAP := Aside0.mk (show (ys.length + 1) * 1 ≤ 140737488355328 by rw [hys, List.length_append, List.length_take]; omega)
        have HBLK := Aside0.mk hb
        have HR1 := Aside0.mk h1
        have HR2 := Aside0.mk h2
        clear hb h1 h2 hx hys HI
        go_wp2
        refine RegH.startH (fun W => W.cell? ⟨g, 2, none⟩ = some (.slice (some ad) re.length c5) ∧ W.cell? (ad.add i) = some (.int .u8 x)) (by kernel_rfl) rfl (HS0.out) (fun hS => ?_)
        (refine RegH.tkH (i := 0) (d := 19) (v := ?_) rfl rfl (by kernel_rfl) (by kernel_rfl) (by kernel_rfl) (fun _ _ _ h => h) (Or.inl ⟨by rfl, ?_⟩) hS ?_; rotate_left; (intro w hSw; (try dsimp only at hSw); go_simp); try (with_reducible rfl))
        try simp only [Act.put, List.setIfInBounds_toArray, List.set_cons_zero, List.set_cons_succ]
        (refine RegH.tkH (i := 1) (d := 20) (v := ?_) rfl rfl (by kernel_rfl) (by kernel_rfl) (by kernel_rfl) (fun _ _ _ h => h) (Or.inl ⟨by rfl, ?_⟩) hS ?_; rotate_left; (intro w hSw; (try dsimp only at hSw); go_simp); try (with_reducible rfl))
        try simp only [Act.put, List.setIfInBounds_toArray, List.set_cons_zero, List.set_cons_succ]
        (refine RegH.tkH (i := 2) (d := 21) (v := ?_) rfl rfl (by kernel_rfl) (by kernel_rfl) (by kernel_rfl) (fun _ _ _ h => h) (Or.inl ⟨by rfl, ?_⟩) hS ?_; rotate_left; (intro w hSw; (try dsimp only at hSw); go_simp); try (with_reducible rfl))
        try simp only [Act.put, List.setIfInBounds_toArray, List.set_cons_zero, List.set_cons_succ]
        (refine RegH.tkH (i := 3) (d := 22) (v := ?_) rfl rfl (by kernel_rfl) (by kernel_rfl) (by kernel_rfl) (fun _ _ _ h => h) (Or.inl ⟨by rfl, ?_⟩) hS ?_; rotate_left; (intro w hSw; (try dsimp only at hSw); go_simp); try (with_reducible rfl))
        try simp only [Act.put, List.setIfInBounds_toArray, List.set_cons_zero, List.set_cons_succ]
        (refine RegH.tkH (i := 5) (d := 24) (v := ?_) rfl rfl (by kernel_rfl) (by kernel_rfl) (by kernel_rfl) (fun _ _ _ h => h) (Or.inl ⟨by rfl, ?_⟩) hS ?_; rotate_left; (intro w hSw; (try dsimp only at hSw); go_simp); try (with_reducible rfl))
        try simp only [Act.put, List.setIfInBounds_toArray, List.set_cons_zero, List.set_cons_succ]
        (refine RegH.tkH (i := 6) (d := 25) (v := ?_) rfl rfl (by kernel_rfl) (by kernel_rfl) (by kernel_rfl) (fun _ _ _ h => h) (Or.inl ⟨by rfl, ?_⟩) hS ?_; rotate_left; (intro w hSw; (try dsimp only at hSw); go_simp); try (with_reducible rfl))
        try simp only [Act.put, List.setIfInBounds_toArray, List.set_cons_zero, List.set_cons_succ]
        (refine RegH.tkH (i := 7) (d := 26) (v := ?_) rfl rfl (by kernel_rfl) (by kernel_rfl) (by kernel_rfl) (fun _ _ _ h => h) (Or.inl ⟨by rfl, ?_⟩) hS ?_; rotate_left; (intro w hSw; (try dsimp only at hSw); go_simp); try (with_reducible rfl))
        try simp only [Act.put, List.setIfInBounds_toArray, List.set_cons_zero, List.set_cons_succ]
        (refine RegH.tkH (i := 8) (d := 27) (v := ?_) rfl rfl (by kernel_rfl) (by kernel_rfl) (by kernel_rfl) (fun _ _ _ h => h) (Or.inl ⟨by rfl, ?_⟩) hS ?_; rotate_left; (intro w hSw; (try dsimp only at hSw); go_simp); try (with_reducible rfl))
        try simp only [Act.put, List.setIfInBounds_toArray, List.set_cons_zero, List.set_cons_succ]
        (refine RegH.tkH (i := 9) (d := 28) (v := ?_) rfl rfl (by kernel_rfl) (by kernel_rfl) (by kernel_rfl) (fun _ _ _ h => h) (Or.inl ⟨by rfl, ?_⟩) hS ?_; rotate_left; (intro w hSw; (try dsimp only at hSw); go_simp); try (with_reducible rfl))
        try simp only [Act.put, List.setIfInBounds_toArray, List.set_cons_zero, List.set_cons_succ]
        (refine RegH.tkH (i := 10) (d := 29) (v := ?_) rfl rfl (by kernel_rfl) (by kernel_rfl) (by kernel_rfl) (fun _ _ _ h => h) (Or.inl ⟨by rfl, ?_⟩) hS ?_; rotate_left; (intro w hSw; (try dsimp only at hSw); go_simp); try (with_reducible rfl))
        try simp only [Act.put, List.setIfInBounds_toArray, List.set_cons_zero, List.set_cons_succ]
        (refine RegH.tkH (i := 11) (d := 30) (v := ?_) rfl rfl (by kernel_rfl) (by kernel_rfl) (by kernel_rfl) (fun _ _ _ h => h) (Or.inl ⟨by rfl, ?_⟩) hS ?_; rotate_left; (intro w hSw; (try dsimp only at hSw); go_simp); try (with_reducible rfl))
        try simp only [Act.put, List.setIfInBounds_toArray, List.set_cons_zero, List.set_cons_succ]
        refine RegH.twoH (i := 4) (j := 12) (by kernel_rfl) rfl rfl (fun K hK => ?_) (fun K hK => ?_)
        · go_simp
          refine hK.out _ _ (HS0.out) (fun hS => ?_)
          clear hK K
          try simp only [Act.put, List.setIfInBounds_toArray, List.set_cons_zero, List.set_cons_succ]
          refine RegH.oneH (i := 12) (by kernel_rfl) rfl (fun K hK => ?_)
          go_simp
          refine hK.out _ _ (S_of (blk_alloc HBLK.out _) (Kd.R_alloc HR2.out _) hlt HX.out) (fun hS => ?_)
          clear hK K
          try simp only [Act.put, List.setIfInBounds_toArray, List.set_cons_zero, List.set_cons_succ]
          refine RegH.oneH (i := 13) (by kernel_rfl) rfl (fun K hK => ?_)
          refine Kd.R_append_rows_step (Kd.int .u8) (w0 := w0) w0.heap.size (by rfl) (.tmp 23) (.tmp 31) 28 5 (.int .u8 0) 1 rfl Try.underlying28 Clone.info5 rfl (by decide) (by decide) (.slice A4 ys.length c4) (ys) ([x]) (some ⟨wr.heap.size, 0, none⟩) 1 1 (fun k => ((ok k ∨ w.heap.size ≤ k) ∧ k ≠ g) ∧ some k ≠ (Value.slice (some ad) re.length c5).ownBlock) (fun _ => False) rfl rfl (Kd.R_drew (Kd.R_alloc HR1.out (.cells #[.int .u8 x] 5))) (ints_blk (l := [x]) (t := 5) (mk := (0, 0)) (by simp) (heap_alloc_new wr (.cells #[.int .u8 x] 5))) (fun _ _ h => h) (fun _ h => h.elim) (fun k hk => by have h0 : wr.heap.size ≤ k := Nat.le_of_succ_le (by simpa using hk); exact ⟨⟨.inr (Nat.le_trans HK.out.1 h0), fun he => by have h1 := blk_lt HBLK.out; omega⟩, fun he => by have h1 := Kd.R_lt HR2.out k he.symm; omega⟩) (below_drew1 (ins1 HB.out HB.out.size _)) ((ins1 HB.out HB.out.size _).size) (HCAP.out) ?_
          intro v6 w2 hr2 hb2 hg2 hat2
          have hr1 := Kd.R_after (Kd.R_drew (Kd.R_alloc HR2.out (.cells #[.int .u8 x] 5))) hg2 hat2
          obtain ⟨A6, c6, rfl⟩ := Kd.R_slice hr2
          have HR3 := Aside0.mk hr2
          have HR4 := Aside0.mk hr1
          have HB2 := Aside0.mk hb2
          have HG2 := Aside0.mk hg2
          have hblk2 := (hg2.block g (blk_lt (blk_alloc HBLK.out (.cells #[.int .u8 x] 5))) (fun he => (HR1.out.1 g he.symm).1.2 rfl)).trans (blk_alloc HBLK.out (.cells #[.int .u8 x] 5))
          have hd1 := cellE hblk2 1 rfl
          have hf2 := blk_frozen hblk2 1
          have HBLK2 := Aside0.mk hblk2
          clear hr2 hr1 hb2 hg2 hat2 hblk2
          refine hK.out (Act.put _ (some 32) _) _ (S_of HBLK2.out HR4.out hlt HX.out) (fun hS => ?_)
          clear hK K
          try simp only [Act.put, List.setIfInBounds_toArray, List.set_cons_zero, List.set_cons_succ]
          (refine RegH.tkH (i := 14) (d := 33) (v := ?_) rfl rfl (by kernel_rfl) (by kernel_rfl) (by kernel_rfl) (fun _ _ _ h => h) (Or.inl ⟨by rfl, ?_⟩) hS ?_; rotate_left; (intro w hSw; (try dsimp only at hSw); go_simp); try (with_reducible rfl))
          try simp only [Act.put, List.setIfInBounds_toArray, List.set_cons_zero, List.set_cons_succ]
          (refine RegH.tkH (i := 15) (d := 34) (v := ?_) rfl rfl (by kernel_rfl) (by kernel_rfl) (by kernel_rfl) (fun _ _ _ h => h) (Or.inl ⟨by rfl, ?_⟩) hS ?_; rotate_left; (intro w hSw; (try dsimp only at hSw); go_simp); try (with_reducible rfl))
          try simp only [Act.put, List.setIfInBounds_toArray, List.set_cons_zero, List.set_cons_succ]
          refine RegH.oneH (i := 16) (by kernel_rfl) rfl (fun K hK => ?_)
          go_simp
          refine hK.out _ _ (S_of (by simpa using blk_set HBLK2.out 1 (.slice A6 (ys ++ [x]).length c6)) (Kd.R_far HR4.out (fun k hk => hk.1.2) _) hlt HX.out) (fun hS => ?_)
          clear hK K
          try simp only [Act.put, List.setIfInBounds_toArray, List.set_cons_zero, List.set_cons_succ]
          refine wpAnyH_done (by kernel_rfl) ?_ _
          go_wp2
          have HI3 := Aside0.mk (IsE_put1 HBLK2.out HGE.out (.inl HOWN.out) HR3.out HR4.out)
          have HB3 := Aside0.mk (below_set (j := 1) (v := .slice A6 (ys ++ [x]).length c6) HB2.out HGE.out)
          have HK3 := Aside0.mk ((Kept.of_grown HG2.out ((HK.out.alloc (.cells #[.int .u8 x] 5)).drew) (fun k hk => (HR1.out.1 k hk).1.1)).setCell (p := ⟨g, 1, none⟩) (.inl HOWN.out) (.slice A6 (ys ++ [x]).length c6))
          rw [List.length_append] at HI3 HB3 HK3
          clear HBLK2 HR3 HR4 HB2 HG2 hd1 hf2
          go_roundg (re.length - (i + 1))
          case measure => have := HQ.out; omega
          case rel => exact ⟨i + 1, by go_num, ⟨by omega⟩, by omega, ⟨by unfold kept'; omega⟩, ⟨by rw [List.take_succ_eq_append_getElem hlt, ← List.append_assoc, ← HYS.out, show re[i] = x by rw [HX.out]; simp [rd, hlt]]; exact HI3.out⟩, HB3, HK3⟩
        · go_simp
          refine hK.out _ _ (S_of (blk_alloc HBLK.out _) (Kd.R_alloc HR2.out _) hlt HX.out) (fun hS => ?_)
          clear hK K
          try simp only [Act.put, List.setIfInBounds_toArray, List.set_cons_zero, List.set_cons_succ]
          refine RegH.oneH (i := 4) (by kernel_rfl) rfl (fun K hK => ?_)
          go_simp
          refine hK.out _ _ (S_of (blk_alloc HBLK.out _) (Kd.R_alloc HR2.out _) hlt HX.out) (fun hS => ?_)
          clear hK K
          try simp only [Act.put, List.setIfInBounds_toArray, List.set_cons_zero, List.set_cons_succ]
          refine RegH.oneH (i := 13) (by kernel_rfl) rfl (fun K hK => ?_)
          refine Kd.R_append_rows_step (Kd.int .u8) (w0 := w0) w0.heap.size (by rfl) (.tmp 23) (.tmp 31) 28 5 (.int .u8 0) 1 rfl Try.underlying28 Clone.info5 rfl (by decide) (by decide) (.slice A4 ys.length c4) (ys) ([x]) (some ⟨wr.heap.size, 0, none⟩) 1 1 (fun k => ((ok k ∨ w.heap.size ≤ k) ∧ k ≠ g) ∧ some k ≠ (Value.slice (some ad) re.length c5).ownBlock) (fun _ => False) rfl rfl (Kd.R_drew (Kd.R_alloc HR1.out (.cells #[.int .u8 x] 5))) (ints_blk (l := [x]) (t := 5) (mk := (0, 0)) (by simp) (heap_alloc_new wr (.cells #[.int .u8 x] 5))) (fun _ _ h => h) (fun _ h => h.elim) (fun k hk => by have h0 : wr.heap.size ≤ k := Nat.le_of_succ_le (by simpa using hk); exact ⟨⟨.inr (Nat.le_trans HK.out.1 h0), fun he => by have h1 := blk_lt HBLK.out; omega⟩, fun he => by have h1 := Kd.R_lt HR2.out k he.symm; omega⟩) (below_drew1 (ins1 HB.out HB.out.size _)) ((ins1 HB.out HB.out.size _).size) (HCAP.out) ?_
          intro v6 w2 hr2 hb2 hg2 hat2
          have hr1 := Kd.R_after (Kd.R_drew (Kd.R_alloc HR2.out (.cells #[.int .u8 x] 5))) hg2 hat2
          obtain ⟨A6, c6, rfl⟩ := Kd.R_slice hr2
          have HR3 := Aside0.mk hr2
          have HR4 := Aside0.mk hr1
          have HB2 := Aside0.mk hb2
          have HG2 := Aside0.mk hg2
          have hblk2 := (hg2.block g (blk_lt (blk_alloc HBLK.out (.cells #[.int .u8 x] 5))) (fun he => (HR1.out.1 g he.symm).1.2 rfl)).trans (blk_alloc HBLK.out (.cells #[.int .u8 x] 5))
          have hd1 := cellE hblk2 1 rfl
          have hf2 := blk_frozen hblk2 1
          have HBLK2 := Aside0.mk hblk2
          clear hr2 hr1 hb2 hg2 hat2 hblk2
          refine hK.out (Act.put _ (some 32) _) _ (S_of HBLK2.out HR4.out hlt HX.out) (fun hS => ?_)
          clear hK K
          try simp only [Act.put, List.setIfInBounds_toArray, List.set_cons_zero, List.set_cons_succ]
          (refine RegH.tkH (i := 14) (d := 33) (v := ?_) rfl rfl (by kernel_rfl) (by kernel_rfl) (by kernel_rfl) (fun _ _ _ h => h) (Or.inl ⟨by rfl, ?_⟩) hS ?_; rotate_left; (intro w hSw; (try dsimp only at hSw); go_simp); try (with_reducible rfl))
          try simp only [Act.put, List.setIfInBounds_toArray, List.set_cons_zero, List.set_cons_succ]
          (refine RegH.tkH (i := 15) (d := 34) (v := ?_) rfl rfl (by kernel_rfl) (by kernel_rfl) (by kernel_rfl) (fun _ _ _ h => h) (Or.inl ⟨by rfl, ?_⟩) hS ?_; rotate_left; (intro w hSw; (try dsimp only at hSw); go_simp); try (with_reducible rfl))
          try simp only [Act.put, List.setIfInBounds_toArray, List.set_cons_zero, List.set_cons_succ]
          refine RegH.oneH (i := 16) (by kernel_rfl) rfl (fun K hK => ?_)
          go_simp
          refine hK.out _ _ (S_of (by simpa using blk_set HBLK2.out 1 (.slice A6 (ys ++ [x]).length c6)) (Kd.R_far HR4.out (fun k hk => hk.1.2) _) hlt HX.out) (fun hS => ?_)
          clear hK K
          try simp only [Act.put, List.setIfInBounds_toArray, List.set_cons_zero, List.set_cons_succ]
          refine wpAnyH_done (by kernel_rfl) ?_ _
          go_wp2
          have HI3 := Aside0.mk (IsE_put1 HBLK2.out HGE.out (.inl HOWN.out) HR3.out HR4.out)
          have HB3 := Aside0.mk (below_set (j := 1) (v := .slice A6 (ys ++ [x]).length c6) HB2.out HGE.out)
          have HK3 := Aside0.mk ((Kept.of_grown HG2.out ((HK.out.alloc (.cells #[.int .u8 x] 5)).drew) (fun k hk => (HR1.out.1 k hk).1.1)).setCell (p := ⟨g, 1, none⟩) (.inl HOWN.out) (.slice A6 (ys ++ [x]).length c6))
          rw [List.length_append] at HI3 HB3 HK3
          clear HBLK2 HR3 HR4 HB2 HG2 hd1 hf2
          go_roundg (re.length - (i + 1))
          case measure => have := HQ.out; omega
          case rel => exact ⟨i + 1, by go_num, ⟨by omega⟩, by omega, ⟨by unfold kept'; omega⟩, ⟨by rw [List.take_succ_eq_append_getElem hlt, ← List.append_assoc, ← HYS.out, show re[i] = x by rw [HX.out]; simp [rd, hlt]]; exact HI3.out⟩, HB3, HK3⟩
      · have hkk : kept' keep re.length = i := by have := HN.out; unfold kept' at *; omega
        have hf2 := blk_frozen hb 2
        have h3 : keep ≤ (i : Int) := by omega
        have HI3 := Aside0.mk (IsE_put2 (ok := fun k => ok k ∨ w.heap.size ≤ k) (v2 := .slice none 0 0) hb hg ho (Kd.R_apart_nil (Kd.R_mono h1 (fun k hk => hk.1))) (Kd.R_nil _ _ _ _ _))
        have HB3 := Aside0.mk (below_set (j := 2) (v := .slice none 0 0) HB.out HGE.out)
        have HK3 := Aside0.mk (HK.out.setCell (p := ⟨g, 2, none⟩) (.inl HOWN.out) (.slice none 0 0))
        clear hb hg ho h1 h2 HI
        go_wp2
        go_end0
        try rw [hkk]
        exact ⟨rfl, HI3.out.bound.mono (fun k hk => hk.1.imp id (fun h => ⟨h, hk.2.2⟩)), HB3.out, HK3.out⟩
    · have hkk : kept' keep re.length = i := by have := HN.out; unfold kept' at *; omega
      have hf2 := blk_frozen hb 2
      have HI3 := Aside0.mk (IsE_put2 (ok := fun k => ok k ∨ w.heap.size ≤ k) (v2 := .slice none 0 0) hb hg ho (Kd.R_apart_nil (Kd.R_mono h1 (fun k hk => hk.1))) (Kd.R_nil _ _ _ _ _))
      have HB3 := Aside0.mk (below_set (j := 2) (v := .slice none 0 0) HB.out HGE.out)
      have HK3 := Aside0.mk (HK.out.setCell (p := ⟨g, 2, none⟩) (.inl HOWN.out) (.slice none 0 0))
      clear hb hg ho h1 h2 HI
      go_wp2
      go_end0
      try rw [hkk]
      exact ⟨rfl, HI3.out.bound.mono (fun k hk => hk.1.imp id (fun h => ⟨h, hk.2.2⟩)), HB3.out, HK3.out⟩

end Go.Proofs.Ytabiloklphjeiaa.RefD
