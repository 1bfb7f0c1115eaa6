/-
  A disk's walks: New, Len, Safe, Left, Flush, Crash, Cut, Bytes, Append over a state of a disk (its block, its own row of bytes), each once.
-/
import Derived.Test.YtabiloklphjeiaaProg
import Derived.Test.YtabiloklphjeiaaClone
import Derived.Below
import Derived.Deep.Draws
import Derived.Deep.AppendLies
import Derived.Maps.AppendAt
import Derived.OwnWalk
import Derived.Laws.BytesArg
import Derived.Laws.MakeOwn
import Derived.Laws.OwnMore
import Derived.Deep.OwnRows
import Derived.Tactics
import Derived.Lib.ConvBytes
import Derived.Laws.Slices
import Derived.WalkKit
import Derived.KernelRfl
import Derived.RowKit3
import Derived.Deep.LoopGhost
import Derived.Deep.QuietTactic
import Derived.BigQuiet
import Derived.WideLaws
import Derived.Deep.DeepCutAuto
import Derived.Deep.CutBlock
import Derived.Deep.RegionHeld3
import Derived.Laws.Rows
import Derived.Lib.AppendStr
import Derived.ArgAppend
import Derived.Laws.IdiomCopy
import Derived.OrdersHeld
import Derived.Laws.BitsLemmas
import Derived.RowKit
import Derived.Lib.SliceRun
import Derived.Test.YtabiloklphjeiaaWWords
import Derived.Test.YtabiloklphjeiaaWLast
import Derived.Test.YtabiloklphjeiaaWTab
import Derived.Test.YtabiloklphjeiaaWFour
import Derived.Test.YtabiloklphjeiaaWQPut
import Derived.Test.YtabiloklphjeiaaWApart
import Derived.Test.YtabiloklphjeiaaWArr
import Derived.Test.YtabiloklphjeiaaWZeros
import Derived.Test.YtabiloklphjeiaaWFoot
import Derived.Test.YtabiloklphjeiaaWKept
import Derived.Test.YtabiloklphjeiaaWShare
import Derived.Test.YtabiloklphjeiaaWN
import Derived.Test.YtabiloklphjeiaaWFootNe
import Derived.Test.YtabiloklphjeiaaWAt
import Derived.Test.YtabiloklphjeiaaWEqStruct
import Derived.Test.YtabiloklphjeiaaWRepsOne
import Derived.Test.YtabiloklphjeiaaWInv
import Derived.Test.YtabiloklphjeiaaWInvWords
import Derived.Test.YtabiloklphjeiaaWGuard
import Derived.Test.YtabiloklphjeiaaWNEv
import Derived.Test.YtabiloklphjeiaaWMore
namespace Go.Proofs.Ytabiloklphjeiaa.Disk
open Go.RowKit Go.Proofs.YtabiloklphjeiaaW.PrintWords Go.Proofs.YtabiloklphjeiaaW.PrintLast Go.Proofs.YtabiloklphjeiaaW.PrintMore
set_option linter.unusedVariables false
set_option linter.unusedSimpArgs false

/-- A disk at block g: room, safe, bytes; what it owns lies among ok, behind base. -/
def IsD (base : Nat) (ok : Nat → Prop) (W : World) (g : Nat) (room safe : Int) (xs : List Int) : Prop :=
  ∃ A c, W.heap[g]? = some (.cells #[.int .i64 room, .int .i64 safe, .slice A xs.length c] 48 (0, 0)) ∧ base ≤ g ∧ ok g ∧ Kd.R (Kd.int .u8) 5 W base (fun k => ok k ∧ k ≠ g) (.slice A xs.length c) xs

section
variable {base : Nat} {ok ok' S : Nat → Prop} {W W' : World} {g : Nat} {room safe : Int} {xs : List Int}

theorem IsD.drewN (h : IsD base ok W g room safe xs) (m : Nat) : IsD base ok (W.drewN m) g room safe xs := by
  obtain ⟨A, c, hb, hg, ho, hr⟩ := h
  exact ⟨A, c, hb, hg, ho, Kd.R_drewN hr m⟩
theorem IsD.drew (h : IsD base ok W g room safe xs) : IsD base ok W.drew g room safe xs := by
  obtain ⟨A, c, hb, hg, ho, hr⟩ := h
  exact ⟨A, c, hb, hg, ho, Kd.R_drew hr⟩
theorem IsD.mono (h : IsD base ok W g room safe xs) (hm : ∀ k, ok k → ok' k) : IsD base ok' W g room safe xs := by
  obtain ⟨A, c, hb, hg, ho, hr⟩ := h
  exact ⟨A, c, hb, hg, hm g ho, Kd.R_mono hr (fun k hk => ⟨hm k hk.1, hk.2⟩)⟩
theorem IsD.kept (h : IsD base ok W g room safe xs) (hk : Kept W W' S) (hS : ∀ k, ok k → ¬ S k) : IsD base ok W' g room safe xs := by
  obtain ⟨A, c, hb, hg, ho, hr⟩ := h
  exact ⟨A, c, blk_kept hb hk (hS g ho), hg, ho, Kd.R_kept hr hk (fun k hk => hS k hk.1)⟩
theorem IsD.below (h : IsD base ok W g room safe xs) (hw : Below W.heap.size W W') : IsD base ok W' g room safe xs :=
  h.kept (Kept.of_below hw (fun _ => False)) (fun _ _ h => h)
theorem IsD.ge (h : IsD base ok W g room safe xs) : base ≤ g := by
  obtain ⟨A, c, hb, hg, ho, hr⟩ := h
  exact hg
theorem IsD.own (h : IsD base ok W g room safe xs) : ok g := by
  obtain ⟨A, c, hb, hg, ho, hr⟩ := h
  exact ho
theorem IsD.set_safe (h : IsD base ok W g room safe xs) (x : Int) : IsD base ok (W.setCell ⟨g, 1, none⟩ (.int .i64 x)) g room x xs := by
  obtain ⟨A, c, hb, hg, ho, hr⟩ := h
  exact ⟨A, c, by simpa using blk_set hb 1 (.int .i64 x), hg, ho, Kd.R_far hr (fun k hk => hk.2) _⟩
theorem IsD.set_row {A : Option Addr} {c m : Nat} (hb : W.heap[g]? = some (.cells #[.int .i64 room, .int .i64 safe, .slice A xs.length c] 48 (0, 0))) (hg : base ≤ g) (ho : ok g)
    (hr : Kd.R (Kd.int .u8) 5 W base (fun k => ok k ∧ k ≠ g) (.slice A xs.length c) xs) (hm : m ≤ xs.length) :
    IsD base ok (W.setCell ⟨g, 2, none⟩ (.slice A m c)) g room safe (xs.take m) := by
  refine ⟨A, c, ?_, hg, ho, ?_⟩
  · rw [List.length_take, Nat.min_eq_left hm]
    simpa using blk_set hb 2 (.slice A m c)
  · rw [List.length_take, Nat.min_eq_left hm]
    exact Kd.R_far (Kd.R_take hr hm) (fun k hk => hk.2) _
end

theorem cellD0 {W : World} {g : Nat} {a b v : Value} (h : W.heap[g]? = some (.cells #[a, b, v] 48 (0, 0))) : W.cell? ⟨g, 0, none⟩ = some a := (blk_cell h 0).trans rfl
theorem cellD1 {W : World} {g : Nat} {a b v : Value} (h : W.heap[g]? = some (.cells #[a, b, v] 48 (0, 0))) : W.cell? ⟨g, 1, none⟩ = some b := (blk_cell h 1).trans rfl
theorem cellD2 {W : World} {g : Nat} {a b v : Value} (h : W.heap[g]? = some (.cells #[a, b, v] 48 (0, 0))) : W.cell? ⟨g, 2, none⟩ = some v := (blk_cell h 2).trans rfl

set_option maxHeartbeats 1000000 in
set_option maxRecDepth 100000 in
theorem flush (g : Nat) (room safe : Int) (xs : List Int) (ok : Nat → Prop) (w0 w : World) (hI : IsD w0.heap.size ok w g room safe xs) (hB : Below w0.heap.size w0 w) :
    Calls Try.prog 10 #[.pointer (some ⟨g, 0, none⟩)] w fun e w' => e = .returned (.int .i64 (xs.length : Int)) ∧ IsD w0.heap.size ok w' g room (xs.length : Int) xs ∧ Below w0.heap.size w0 w' ∧ Kept w w' ok := by
  have HI := Aside0.mk hI
  have HB := Aside0.mk hB
  have HK := Aside0.mk (Kept.refl w ok)
  clear hI hB
  obtain ⟨A, c, hb, hg, ho, hr⟩ := HI.out
  have hc0 := cellD0 hb
  have hc1 := cellD1 hb
  have hc2 := cellD2 hb
  have hf1 := blk_frozen hb 1
  have hf2 := blk_frozen hb 2
  clear hb hr hg ho
  go_enter Try.func10, Try.ntmps10
  go_wp2
  go_ret
  exact ⟨rfl, HI.out.set_safe _, below_set HB.out HI.out.ge, HK.out.setCell (.inl HI.out.own) _⟩

set_option maxHeartbeats 1000000 in
set_option maxRecDepth 100000 in
theorem len (g : Nat) (room safe : Int) (xs : List Int) (ok : Nat → Prop) (w0 w : World) (hI : IsD w0.heap.size ok w g room safe xs) (hB : Below w0.heap.size w0 w) :
    Calls Try.prog 13 #[.pointer (some ⟨g, 0, none⟩)] w fun e w' => e = .returned (.int .i64 ((xs.length : Int))) ∧ w'.heap.size = w.heap.size ∧ IsD w0.heap.size ok w' g room safe xs ∧ Below w0.heap.size w0 w' ∧ Kept w w' ok := by
  have HI := Aside0.mk hI
  have HB := Aside0.mk hB
  have HK := Aside0.mk (Kept.refl w ok)
  clear hI hB
  obtain ⟨A, c, hb, hg, ho, hr⟩ := HI.out
  have hc0 := cellD0 hb
  have hc1 := cellD1 hb
  have hc2 := cellD2 hb
  clear hb hr hg ho
  go_enter Try.func13, Try.ntmps13
  go_wp2
  repeat (go_quiet (fail); try go_wp2)
  go_ret
  exact ⟨rfl, rfl, by first | exact HI.out | exact HI.out.drewN _ | exact HI.out.drew, by first | exact HB.out | exact pw_below_drewN HB.out _ | exact below_drew1 HB.out, HK.out⟩

set_option maxHeartbeats 1000000 in
set_option maxRecDepth 100000 in
theorem left (g : Nat) (room safe : Int) (xs : List Int) (ok : Nat → Prop) (w0 w : World) (hI : IsD w0.heap.size ok w g room safe xs) (hB : Below w0.heap.size w0 w) :
    Calls Try.prog 14 #[.pointer (some ⟨g, 0, none⟩)] w fun e w' => e = .returned (.int .i64 (wrap64 (room - (xs.length : Int)))) ∧ w'.heap.size = w.heap.size ∧ IsD w0.heap.size ok w' g room safe xs ∧ Below w0.heap.size w0 w' ∧ Kept w w' ok := by
  have HI := Aside0.mk hI
  have HB := Aside0.mk hB
  have HK := Aside0.mk (Kept.refl w ok)
  clear hI hB
  obtain ⟨A, c, hb, hg, ho, hr⟩ := HI.out
  have hc0 := cellD0 hb
  have hc1 := cellD1 hb
  have hc2 := cellD2 hb
  clear hb hr hg ho
  go_enter Try.func14, Try.ntmps14
  go_wp2
  repeat (go_quiet (fail); try go_wp2)
  go_ret
  exact ⟨rfl, rfl, by first | exact HI.out | exact HI.out.drewN _ | exact HI.out.drew, by first | exact HB.out | exact pw_below_drewN HB.out _ | exact below_drew1 HB.out, HK.out⟩

set_option maxHeartbeats 1000000 in
set_option maxRecDepth 100000 in
theorem safe_ (g : Nat) (room safe : Int) (xs : List Int) (ok : Nat → Prop) (w0 w : World) (hI : IsD w0.heap.size ok w g room safe xs) (hB : Below w0.heap.size w0 w) :
    Calls Try.prog 15 #[.pointer (some ⟨g, 0, none⟩)] w fun e w' => e = .returned (.int .i64 (safe)) ∧ w'.heap.size = w.heap.size ∧ IsD w0.heap.size ok w' g room safe xs ∧ Below w0.heap.size w0 w' ∧ Kept w w' ok := by
  have HI := Aside0.mk hI
  have HB := Aside0.mk hB
  have HK := Aside0.mk (Kept.refl w ok)
  clear hI hB
  obtain ⟨A, c, hb, hg, ho, hr⟩ := HI.out
  have hc0 := cellD0 hb
  have hc1 := cellD1 hb
  have hc2 := cellD2 hb
  clear hb hr hg ho
  go_enter Try.func15, Try.ntmps15
  go_wp2
  repeat (go_quiet (fail); try go_wp2)
  go_ret
  exact ⟨rfl, rfl, by first | exact HI.out | exact HI.out.drewN _ | exact HI.out.drew, by first | exact HB.out | exact pw_below_drewN HB.out _ | exact below_drew1 HB.out, HK.out⟩

set_option maxHeartbeats 1000000 in
set_option maxRecDepth 100000 in
theorem bytes (g : Nat) (room safe : Int) (xs : List Int) (ok : Nat → Prop) (w0 w : World) (hI : IsD w0.heap.size ok w g room safe xs) (hB : Below w0.heap.size w0 w) (hm : xs.length ≤ 140737488355328) :
    Calls Try.prog 12 #[.pointer (some ⟨g, 0, none⟩)] w fun e w' => ∃ v0_ : Value, e = .returned v0_ ∧ Kd.R (Kd.int .u8) 5 w' w.heap.size (fun _ => True) v0_ xs ∧ IsD w0.heap.size ok w' g room safe xs ∧ Below w0.heap.size w0 w' ∧ Below w.heap.size w w' := by
  have HI := Aside0.mk hI
  have HB := Aside0.mk hB
  clear hI hB
  obtain ⟨A, c, hb, hg, ho, hr⟩ := HI.out
  have hc2 := cellD2 hb
  obtain ⟨-, hcap, hC⟩ := Kd.R_reads' hr
  have HC := Aside0.mk hC
  have HL := Aside0.mk hcap
  clear hb hr hg ho hC hcap
  go_enter Try.func12, Try.ntmps12
  go_wp2_with (fail)
  refine Calls.mono (Clone.calls A c xs _ HC.out HL.out hm) ?_
  rintro e w1 ⟨v0, rfl, hO, hB1⟩
  have HO := Aside0.mk hO
  have HB1 := Aside0.mk hB1
  clear hO hB1
  go_wp2
  go_ret
  exact ⟨_, rfl, HO.out, HI.out.below HB1.out, below_step HB.out HB1.out, HB1.out⟩

theorem info5' : ∃ i, Try.prog.info? 5 = some i ∧ i.size = 1 := by
  obtain ⟨i, hi, hz⟩ := Option.map_eq_some_iff.1 Clone.info5
  exact ⟨i, hi, by simpa using congrArg (fun p => p.2.1) hz⟩

set_option maxHeartbeats 2000000 in
set_option maxRecDepth 100000 in
theorem cut (g : Nat) (room safe : Int) (xs : List Int) (n : Int) (ok : Nat → Prop) (w0 w : World) (hI : IsD w0.heap.size ok w g room safe xs) (hB : Below w0.heap.size w0 w) :
    Calls Try.prog 16 #[.pointer (some ⟨g, 0, none⟩), .int .i64 n] w fun e w' => e = .returned (.int .i64 (if n < 0 ∨ (xs.length : Int) < n then 2 else 0)) ∧ (if n < 0 ∨ (xs.length : Int) < n then IsD w0.heap.size ok w' g room safe xs else IsD w0.heap.size ok w' g room n (xs.take n.toNat)) ∧ Below w0.heap.size w0 w' ∧ Kept w w' ok := by
  have HI := Aside0.mk hI
  have HB := Aside0.mk hB
  have HK := Aside0.mk (Kept.refl w ok)
  clear hI hB
  obtain ⟨A, c, hb, hg, ho, hr⟩ := HI.out
  have hc2 := cellD2 hb
  have hf2 := blk_frozen hb 2
  obtain ⟨-, hcap, hC⟩ := Kd.R_reads' hr
  obtain ⟨i5, hi5, hsz5⟩ := info5'
  by_cases h1 : n < 0
  · clear hb hr hg ho hC hcap
    have h3 : n < 0 ∨ (xs.length : Int) < n := .inl h1
    simp only [if_pos h3]
    go_enter Try.func16, Try.ntmps16
    go_wp2_with (fail)
    go_ret
    exact ⟨rfl, HI.out, HB.out, HK.out⟩
  by_cases h2 : (xs.length : Int) < n
  · clear hb hr hg ho hC hcap
    have h3 : n < 0 ∨ (xs.length : Int) < n := .inr h2
    simp only [if_pos h3]
    go_enter Try.func16, Try.ntmps16
    go_wp2_with (fail)
    go_ret
    exact ⟨rfl, HI.out, HB.out, HK.out⟩
  have h3 : ¬ (n < 0 ∨ (xs.length : Int) < n) := by omega
  simp only [if_neg h3]
  have hm : n.toNat ≤ xs.length := by omega
  have hN : (((xs.take n.toNat).length : Nat) : Int) = n := by rw [List.length_take, Nat.min_eq_left hm]; omega
  have hcut := cut_to (P := Try.prog) 28 5 .i64 Try.underlying28 hi5 A xs.length c n (by omega) (by omega) hcap
  have HI2 := Aside0.mk (IsD.set_row hb hg ho hr hm)
  have HB2 := Aside0.mk (below_set (j := 2) (v := .slice A n.toNat c) HB.out hg)
  have HK2 := Aside0.mk (HK.out.setCell (p := ⟨g, 2, none⟩) (.inl ho) (.slice A n.toNat c))
  clear hb hr hg ho hC hcap
  go_enter Try.func16, Try.ntmps16
  go_wp2_with (fail)
  refine Calls.mono (flush g room safe (xs.take n.toNat) ok w0 _ HI2.out HB2.out) ?_
  rintro e w1 ⟨rfl, hI1, hB1, hK1⟩
  have HI1 := Aside0.mk hI1
  have HB1 := Aside0.mk hB1
  have HK1 := Aside0.mk hK1
  clear hI1 hB1 hK1
  go_wp2
  go_ret
  exact ⟨rfl, by have := HI1.out; rwa [hN] at this, HB1.out, HK2.out.then_ HK1.out (fun k hk => .inl hk)⟩

set_option maxHeartbeats 2000000 in
set_option maxRecDepth 100000 in
theorem new_bad (room : Int) (w : World) (h : room < 0 ∨ 1073741824 < room) :
    Calls Try.prog 8 #[.int .i64 room] w fun e w' => e = .returned (.tuple #[.pointer none, .int .i64 2]) ∧ w' = w := by
  by_cases h1 : room < 0
  · go_enter Try.func8, Try.ntmps8
    go_wp2
    refine bodyPost_ret (results_tmp2 rfl _ _ _) rfl ?_
    exact ⟨rfl, rfl⟩
  · have h2 : 1073741824 < room := by omega
    go_enter Try.func8, Try.ntmps8
    go_wp2
    refine bodyPost_ret (results_tmp2 rfl _ _ _) rfl ?_
    exact ⟨rfl, rfl⟩

set_option maxHeartbeats 2000000 in
set_option maxRecDepth 100000 in
theorem new_ok (room : Int) (w : World) (h1 : ¬ room < 0) (h2 : ¬ 1073741824 < room) :
    Calls Try.prog 8 #[.int .i64 room] w fun e w' => e = .returned (.tuple #[.pointer (some ⟨w.heap.size, 0, none⟩), .int .i64 0]) ∧ IsD w.heap.size (fun k => k = w.heap.size) w' w.heap.size room 0 [] ∧ Below w.heap.size w w' := by
  go_enter Try.func8, Try.ntmps8
  go_wp2
  refine bodyPost_ret (results_tmp2 rfl _ _ _) rfl ?_
  exact ⟨rfl, ⟨none, 0, by simpa using heap_alloc_new w _, Nat.le_refl _, rfl, Kd.R_nil _ _ _ _ _⟩, below_alloc (Below.refl _ _) _⟩

/-- How much a crash leaves. -/
def left' (safe n keep : Int) : Int := safe + (if (n - safe) < (if keep < 0 then 0 else keep) then n - safe else (if keep < 0 then 0 else keep))

end Go.Proofs.Ytabiloklphjeiaa.Disk
