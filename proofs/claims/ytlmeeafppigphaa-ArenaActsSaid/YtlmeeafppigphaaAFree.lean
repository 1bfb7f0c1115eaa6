/-
  An arena's Free.
-/
import Derived.Test.YtlmeeafppigphaaProg
import Derived.Test.YtlmeeafppigphaaAMap
import Derived.Test.YtlmeeafppigphaaArena
import Derived.Test.YtlmeeafppigphaaPArenaActsx0
import Derived.Below
import Derived.Deep.Draws
import Derived.Deep.AppendLies
import Derived.Maps.AppendAt
import Derived.OwnWalk
import Derived.Laws.BytesArg
import Derived.Laws.MakeOwn
import Derived.Laws.OwnMore
import Derived.Deep.OwnRows
import Derived.Tactics
import Derived.Lib.ConvBytes
import Derived.Laws.Slices
import Derived.WalkKit
import Derived.KernelRfl
import Derived.RowKit3
import Derived.Deep.LoopGhost
import Derived.Deep.QuietTactic
import Derived.BigQuiet
import Derived.WideLaws
import Derived.Deep.DeepCutAuto
import Derived.Deep.CutBlock
import Derived.Deep.RegionHeld3
import Derived.Laws.Rows
import Derived.Lib.AppendStr
import Derived.ArgAppend
import Derived.Laws.IdiomCopy
import Derived.OrdersHeld
import Derived.Laws.BitsLemmas
import Derived.RowKit
import Derived.Lib.SliceRun
import Derived.Test.YtlmeeafppigphaaWWords
import Derived.Test.YtlmeeafppigphaaWLast
import Derived.Test.YtlmeeafppigphaaWTab
import Derived.Test.YtlmeeafppigphaaWFour
import Derived.Test.YtlmeeafppigphaaWQPut
import Derived.Test.YtlmeeafppigphaaWApart
import Derived.Test.YtlmeeafppigphaaWArr
import Derived.Test.YtlmeeafppigphaaWZeros
import Derived.Test.YtlmeeafppigphaaWFoot
import Derived.Test.YtlmeeafppigphaaWKept
import Derived.Test.YtlmeeafppigphaaWShare
import Derived.Test.YtlmeeafppigphaaWN
import Derived.Test.YtlmeeafppigphaaWFootNe
import Derived.Test.YtlmeeafppigphaaWAt
import Derived.Test.YtlmeeafppigphaaWEqStruct
import Derived.Test.YtlmeeafppigphaaWRepsOne
import Derived.Test.YtlmeeafppigphaaWInv
import Derived.Test.YtlmeeafppigphaaWInvWords
import Derived.Test.YtlmeeafppigphaaWGuard
import Derived.Test.YtlmeeafppigphaaWNEv
import Derived.Test.YtlmeeafppigphaaWMore
namespace Go.Proofs.Ytlmeeafppigphaa.AFree
open Go.RowKit Go.Proofs.YtlmeeafppigphaaW.PrintWords Go.Proofs.YtlmeeafppigphaaW.PrintLast Go.Proofs.YtlmeeafppigphaaW.PrintMore
set_option linter.unusedVariables false
set_option linter.unusedSimpArgs false
open Go.Proofs.Ytlmeeafppigphaa.AMap (GM TM Wf)
open Arena
abbrev H := PArenaActs.S30
abbrev kH : Kd H := PArenaActs.k30
abbrev hd (hs : List H) (i : Int) : H := PArenaActs.rd_T30 hs i
def liveA (s : Ar) (h : H) : Bool := s.taken h.f0 && decide (s.gens h.f0 = h.f1)
/-- May all of them be freed, where those of t are seen already? -/
def chk (s : Ar) : (Int → Bool) → List H → Bool
  | _, [] => true
  | t, h :: r => if liveA s h = true ∧ t h.f0 = false then chk s (AMap.up t h.f0 true) r else false
/-- One is freed. -/
def fr (s : Ar) (h : H) : Ar := { s with taken := AMap.up s.taken h.f0 false, cnt := (if s.taken h.f0 then s.cnt - 1 else s.cnt), gens := AMap.up s.gens h.f0 (s.gens h.f0 + 1), free := s.free ++ [h.f0] }
/-- Generations are numbers AMap.up to n. -/
def GB (n : Nat) (s : Ar) : Prop := ∀ k, 0 ≤ s.gens k ∧ s.gens k ≤ (n : Int)
theorem GB.fr {n : Nat} {s : Ar} (h : GB n s) (x : H) : GB (n + 1) (fr s x) := by
  intro k
  show 0 ≤ AMap.up s.gens x.f0 (s.gens x.f0 + 1) k ∧ AMap.up s.gens x.f0 (s.gens x.f0 + 1) k ≤ ((n + 1 : Nat) : Int)
  unfold AMap.up
  have h1 := h k
  have h2 := h x.f0
  split <;> omega
def seen (hs : List H) (k : Nat) : Int → Bool := (hs.take k).foldl (fun t h => AMap.up t h.f0 true) (fun _ => false)
theorem seen_succ (hs : List H) (k : Nat) (h : k < hs.length) : seen hs (k + 1) = AMap.up (seen hs k) (hs[k]).f0 true := by
  unfold seen
  rw [List.take_succ_eq_append_getElem h, List.foldl_append]; rfl
theorem chk_step (s : Ar) (hs : List H) (k : Nat) (h : k < hs.length) : chk s (seen hs k) (hs.drop k) = if liveA s hs[k] = true ∧ seen hs k (hs[k]).f0 = false then chk s (seen hs (k + 1)) (hs.drop (k + 1)) else false := by
  rw [List.drop_eq_getElem_cons h, seen_succ hs k h, chk]
theorem hd_nat (hs : List H) (k : Nat) (h : k < hs.length) : PArenaActs.rd_T30 hs (k : Int) = hs[k] := by simp [PArenaActs.rd_T30, h]

set_option maxHeartbeats 4000000 in
set_option maxRecDepth 100000 in
theorem free_bad (g n : Nat) (s : Ar) (A0 : Option Addr) (c0 : Nat) (hs : List H) (ok : Nat → Prop) (w0 w : World) (hI : IsA w0.heap.size ok w g n s)
    (hA : ∀ W', Below w.heap.size w W' → Kd.C kH W' A0 hs.length hs) (hw : ∀ i (h : i < hs.length), Wf (hs[i]).f0) (hm : hs.length ≤ 100000000) (hc : chk s (fun _ => false) hs = false) :
    Calls Try.prog 10 #[.pointer (some ⟨g, 0, none⟩), .slice A0 hs.length c0] w fun e w' => e = .returned (.int .i64 51) ∧ Below w.heap.size w w' := by
  have HA := Aside0.mk hA
  have HI := Aside0.mk hI
  have HW := Aside0.mk hw
  have HC := Aside0.mk hc
  have m2 := mk_map 40
  clear hI hA hw hc
  go_enter Try.func10, Try.ntmps10
  go_wp2
  clear m2
  go_loopg [13] (hs.length) (fun kq v13 wr => ∃ (k : Nat), v13 = .int .i64 k ∧ Aside0 (k + kq = hs.length) ∧ k ≤ hs.length ∧ Aside0 (∃ c, c ≤ k ∧ TM wr w.heap.size (seen hs k) c) ∧ Aside0 (chk s (seen hs k) (hs.drop k) = false) ∧ Aside0 (Below w.heap.size w wr))
  case atStart => exact ⟨0, rfl, ⟨by omega⟩, Nat.zero_le _, ⟨0, Nat.le_refl _, AMap.TM.made w⟩, ⟨by simpa [seen] using HC.out⟩, ⟨below_alloc (Below.refl _ _) _⟩⟩
  case round =>
    obtain ⟨k, rfl, HQ, hk, HT, HCC, HB⟩ := hrel
    by_cases hlt : k < hs.length
    · obtain ⟨ad, e1, hx0, hx1⟩ := PArenaActs.at_T30 (HA.out wr HB.out) (k : Int) (by omega) (by omega)
      rw [hd_nat hs k hlt] at hx0 hx1
      rw [Int.toNat_natCast] at hx0 hx1
      have HST := Aside0.mk (chk_step s hs k hlt)
      have HWF := Aside0.mk (HW.out k hlt)
      have HSS := Aside0.mk (seen_succ hs k hlt)
      obtain ⟨⟨x, y⟩, hxe⟩ : ∃ h, h = hs[k] := ⟨_, rfl⟩
      rw [← hxe] at hx0 hx1 HST HWF HSS
      dsimp only at hx0 hx1 HST HWF HSS
      clear hxe
      cases e1
      go_wp2_with (fail)
      obtain ⟨w4, hw4⟩ : ∃ w4, w4 = wr.alloc (.cells #[.int .i64 x, .int .i64 y] 30) := ⟨_, rfl⟩
      have HB4 := Aside0.mk (show Below w.heap.size w w4 by rw [hw4]; exact below_alloc HB.out _)
      have HBr := Aside0.mk (show Below wr.heap.size wr w4 by rw [hw4]; exact below_alloc (Below.refl _ _) _)
      have HN := Aside0.mk (show w4.heap[wr.heap.size]? = some (.cells #[.int .i64 x, .int .i64 y] 30 (0, 0)) by rw [hw4]; exact heap_alloc_new _ _)
      rw [← hw4]
      clear hw4 hx0 hx1
      refine Calls.mono (live g n s x y HWF.out ok w0 w4 (HI.out.below HB4.out)) ?_
      rintro e w5 ⟨rfl, hB5⟩
      have hn5 := (hB5.block _ (blk_lt HN.out)).trans HN.out
      have hx0 : w5.cell? ⟨wr.heap.size, 0, none⟩ = some (.int .i64 x) := (blk_cell hn5 0).trans rfl
      obtain ⟨c, hcl, hT⟩ := HT.out
      have hT5 : TM w5 w.heap.size (seen hs k) c := Arena.TM.below (Arena.TM.below hT HBr.out) hB5
      have hlk := hT5.look HWF.out
      have HB5 := Aside0.mk (below_step HB4.out hB5)
      obtain ⟨w6, hput, hT6, hg6⟩ := hT5.put (by omega) HWF.out
      have HT6 := Aside0.mk hT6
      have HB6 := Aside0.mk (HB5.out.grown hg6 HB5.out.size (fun k e => by injection e with e; subst e; exact Nat.le_refl _))
      clear hB5 hn5 hT hT5 hT6 hg6 HB4 HBr HN
      by_cases hL : (s.taken x && decide (s.gens x = y)) = true
      · by_cases hS : seen hs k x = true
        · rw [hS] at hlk
          rw [hL]
          go_wp2
          go_ret
          exact ⟨rfl, HB5.out⟩
        · have hS : seen hs k x = false := by simpa using hS
          rw [hS] at hlk
          rw [hL]
          go_wp2
          go_roundg (hs.length - (k + 1))
          case measure => have := HQ.out; omega
          case rel =>
            refine ⟨k + 1, by go_num, ⟨by have := HQ.out; omega⟩, by omega, ⟨(if seen hs k x then c else c + 1), by rw [hS]; simpa using hcl, by rw [HSS.out]; exact HT6.out⟩, ⟨?_⟩, HB6⟩
            have h1 := HST.out
            rw [HCC.out, if_pos ⟨hL, hS⟩] at h1
            exact h1.symm
      · have hL : (s.taken x && decide (s.gens x = y)) = false := by simpa using hL
        rw [hL]
        go_wp2
        go_ret
        exact ⟨rfl, HB5.out⟩
    · exfalso
      have := HCC.out
      rw [show hs.drop k = [] from by simp; omega] at this
      simp [chk] at this

end Go.Proofs.Ytlmeeafppigphaa.AFree
