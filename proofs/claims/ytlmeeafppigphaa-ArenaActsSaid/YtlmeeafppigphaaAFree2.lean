/-
  An arena's Free where it frees.
-/
import Derived.Test.YtlmeeafppigphaaProg
import Derived.Test.YtlmeeafppigphaaAMap
import Derived.Test.YtlmeeafppigphaaArena
import Derived.Test.YtlmeeafppigphaaAFree
import Derived.Test.YtlmeeafppigphaaRegH
import Derived.Test.YtlmeeafppigphaaPArenaActsx0
import Derived.Below
import Derived.Deep.Draws
import Derived.Deep.AppendLies
import Derived.Maps.AppendAt
import Derived.OwnWalk
import Derived.Laws.BytesArg
import Derived.Laws.MakeOwn
import Derived.Laws.OwnMore
import Derived.Deep.OwnRows
import Derived.Tactics
import Derived.Lib.ConvBytes
import Derived.Laws.Slices
import Derived.WalkKit
import Derived.KernelRfl
import Derived.RowKit3
import Derived.Deep.LoopGhost
import Derived.Deep.QuietTactic
import Derived.BigQuiet
import Derived.WideLaws
import Derived.Deep.DeepCutAuto
import Derived.Deep.CutBlock
import Derived.Deep.RegionHeld3
import Derived.Laws.Rows
import Derived.Lib.AppendStr
import Derived.ArgAppend
import Derived.Laws.IdiomCopy
import Derived.OrdersHeld
import Derived.Laws.BitsLemmas
import Derived.RowKit
import Derived.Lib.SliceRun
import Derived.Test.YtlmeeafppigphaaWWords
import Derived.Test.YtlmeeafppigphaaWLast
import Derived.Test.YtlmeeafppigphaaWTab
import Derived.Test.YtlmeeafppigphaaWFour
import Derived.Test.YtlmeeafppigphaaWQPut
import Derived.Test.YtlmeeafppigphaaWApart
import Derived.Test.YtlmeeafppigphaaWArr
import Derived.Test.YtlmeeafppigphaaWZeros
import Derived.Test.YtlmeeafppigphaaWFoot
import Derived.Test.YtlmeeafppigphaaWKept
import Derived.Test.YtlmeeafppigphaaWShare
import Derived.Test.YtlmeeafppigphaaWN
import Derived.Test.YtlmeeafppigphaaWFootNe
import Derived.Test.YtlmeeafppigphaaWAt
import Derived.Test.YtlmeeafppigphaaWEqStruct
import Derived.Test.YtlmeeafppigphaaWRepsOne
import Derived.Test.YtlmeeafppigphaaWInv
import Derived.Test.YtlmeeafppigphaaWInvWords
import Derived.Test.YtlmeeafppigphaaWGuard
import Derived.Test.YtlmeeafppigphaaWNEv
import Derived.Test.YtlmeeafppigphaaWMore
namespace Go.Proofs.Ytlmeeafppigphaa.AFree2
open Go.RowKit Go.Proofs.YtlmeeafppigphaaW.PrintWords Go.Proofs.YtlmeeafppigphaaW.PrintLast Go.Proofs.YtlmeeafppigphaaW.PrintMore
set_option linter.unusedVariables false
set_option linter.unusedSimpArgs false
open Go.Proofs.Ytlmeeafppigphaa.AMap (GM TM Wf)
open Arena AFree
theorem add0 (g j : Nat) : Addr.add ⟨g, 0, none⟩ j = ⟨g, j, none⟩ := by simp [Addr.add]; exact fun h => h.symm
theorem mk_cell64 {W : World} {g : Nat} {cells : Array Value} {t : Nat} {mk : Nat × Nat} (hb : W.heap[g]? = some (.cells cells t mk)) (j : Nat) : W.cell? ⟨g, j, none⟩ = cells[j]? := by simp [World.cell?, hb]
theorem ins1 {B : Nat} {w W : World} (h : Below B w W) (hB : B ≤ W.heap.size) (o : Obj) : Below B w (W.alloc o) := h.alloc hB o
theorem int_blk {W : World} {p : Nat} {x : Int} {t : Nat} {mk : Nat × Nat} (hp : W.heap[p]? = some (.cells #[.int .i64 x] t mk)) : (Kd.int .i64).C W (some ⟨p, 0, none⟩) [x].length [x] := by
  refine Kd.C_of_reads (d := (0 : Int)) (h1 := fun _ => rfl) ⟨rfl, by simp, fun _ => ⟨_, rfl, fun j hj => ?_⟩⟩
  have hj : j = 0 := by simpa using hj
  subst hj
  rw [add0, mk_cell64 hp 0]; rfl
theorem info3z : (Try.prog.info? 3).map (fun i => (i.zero, i.size, i.bytes)) = some (some (.int .i64 0), 1, 8) := by kernel_rfl
def stf (s : Ar) (hs : List H) (k : Nat) : Ar := (hs.take k).foldl fr s
theorem stf_succ (s : Ar) (hs : List H) (k : Nat) (h : k < hs.length) : stf s hs (k + 1) = fr (stf s hs k) hs[k] := by
  unfold stf
  rw [List.take_succ_eq_append_getElem h, List.foldl_append]; rfl
theorem GB_stf {n : Nat} {s : Ar} (h : GB n s) (hs : List H) : ∀ k, k ≤ hs.length → GB (n + k) (stf s hs k)
  | 0, _ => h
  | k + 1, hk => by rw [stf_succ s hs k hk]; exact GB.fr (GB_stf h hs k (Nat.le_of_lt hk)) _
theorem IsB.drew {base : Nat} {ok : Nat → Prop} {W : World} {g n b1 b2 c : Nat} {A : Option Addr} {s : Ar} (h : IsB base ok W g n s b1 b2 A c) : IsB base ok W.drew g n s b1 b2 A c := h.kept ((Kept.refl W (fun _ => False)).drew) (fun _ _ h => h)
theorem IsB.app {base : Nat} {ok ok2 : Nat → Prop} {W W2 : World} {g n b1 b2 c c6 : Nat} {A A6 : Option Addr} {s : Ar} {x : Int} (h : IsB base ok W g n s b1 b2 A c) (hg : W.grownBy W2 (Value.slice A s.free.length c).ownBlock) (hsub : ∀ k, ok k → ok2 k) (hL2 : ∀ k, ok2 k → k < W2.heap.size)
    (hr : Kd.R (Kd.int .i64) 3 W2 base (fun k => ok2 k ∧ k ≠ g ∧ k ≠ b1 ∧ k ≠ b2) (.slice A6 (s.free ++ [x]).length c6) (s.free ++ [x])) :
    IsB base ok2 (W2.setCell ⟨g, 3, none⟩ (.slice A6 (s.free ++ [x]).length c6)) g n { s with free := s.free ++ [x] } b1 b2 A6 c6 ∧ Kept W W2 ok := by
  obtain ⟨hb, hL, hgo, h1, h2, hn, hG, hT, hr0⟩ := h
  have hown : ∀ k, (Value.slice A s.free.length c).ownBlock = some k → ok k ∧ k ≠ g ∧ k ≠ b1 ∧ k ≠ b2 := fun k e => hr0.1 k e
  have hblk := (hg.block g (blk_lt hb) (fun he => (hown g he.symm).2.1 rfl)).trans hb
  have hG2 : GM W2 b1 n s.gens := hG.at (hg.block b1 hG.lt (fun he => (hown b1 he.symm).2.2.1 rfl))
  have hT2 : TM W2 b2 s.taken s.cnt := hT.at (hg.block b2 hT.lt (fun he => (hown b2 he.symm).2.2.2 rfl))
  exact ⟨⟨by simpa using blk_set hblk 3 (.slice A6 (s.free ++ [x]).length c6), fun k hk => by simpa using hL2 k hk, ⟨hgo.1, hsub _ hgo.2⟩, ⟨h1.1, hsub _ h1.2⟩, ⟨h2.1, hsub _ h2.2⟩, hn, hG2.at (Below.heap_setCell _ _ _ _ hn.1), hT2.at (Below.heap_setCell _ _ _ _ hn.2.1), Kd.R_far hr (fun k hk => hk.2.1) _⟩,
    Kept.of_grown hg (Kept.refl _ _) (fun k e => .inl (hown k e).1)⟩
set_option maxHeartbeats 4000000 in
set_option maxRecDepth 100000 in
theorem free_ok (g n : Nat) (s : Ar) (A0 : Option Addr) (c0 : Nat) (hs : List H) (ok : Nat → Prop) (w0 w : World) (hI : IsA w0.heap.size ok w g n s)
    (hB0 : Below w0.heap.size w0 w) (hA : ∀ W', Kept w W' ok → Kd.C kH W' A0 hs.length hs) (hw : ∀ i (h : i < hs.length), Wf (hs[i]).f0) (hm : hs.length ≤ 100000000) (hc : chk s (fun _ => false) hs = true) (hgb : GB n s) (hn : n + hs.length < 1000000000) (hfl : s.free.length + hs.length < 1000000000) :
    Calls Try.prog 10 #[.pointer (some ⟨g, 0, none⟩), .slice A0 hs.length c0] w fun e w' => e = .returned (.int .i64 0) ∧ IsA w0.heap.size (fun q => ok q ∨ w.heap.size ≤ q ∧ q < w'.heap.size) w' g (n + hs.length) (stf s hs hs.length) ∧ Below w0.heap.size w0 w' ∧ Kept w w' ok := by
  have HA := Aside0.mk hA
  have HI := Aside0.mk hI
  have HW := Aside0.mk hw
  have HC := Aside0.mk hc
  have HGB := Aside0.mk (GB_stf hgb hs)
  have HBB := Aside0.mk hB0
  have m2 := mk_map 40
  clear hI hA hw hc hgb hB0
  go_enter Try.func10, Try.ntmps10
  go_wp2
  clear m2
  go_loopg [13] (hs.length) (fun kq v13 wr => ∃ (k : Nat), v13 = .int .i64 k ∧ Aside0 (k + kq = hs.length) ∧ k ≤ hs.length ∧ Aside0 (∃ c, c ≤ k ∧ TM wr w.heap.size (AFree.seen hs k) c) ∧ Aside0 (chk s (AFree.seen hs k) (hs.drop k) = true) ∧ Aside0 (Below w.heap.size w wr))
  case atStart => exact ⟨0, rfl, ⟨by omega⟩, Nat.zero_le _, ⟨0, Nat.le_refl _, AMap.TM.made w⟩, ⟨by simpa [AFree.seen] using HC.out⟩, ⟨below_alloc (Below.refl _ _) _⟩⟩
  case round =>
    obtain ⟨k, rfl, HQ, hk, HT, HCC, HB⟩ := hrel
    by_cases hlt : k < hs.length
    · obtain ⟨ad, e1, hx0, hx1⟩ := PArenaActs.at_T30 (HA.out wr (Kept.of_below HB.out ok)) (k : Int) (by omega) (by omega)
      rw [hd_nat hs k hlt] at hx0 hx1
      rw [Int.toNat_natCast] at hx0 hx1
      have HST := Aside0.mk (chk_step s hs k hlt)
      have HWF := Aside0.mk (HW.out k hlt)
      have HSS := Aside0.mk (seen_succ hs k hlt)
      obtain ⟨⟨x, y⟩, hxe⟩ : ∃ h, h = hs[k] := ⟨_, rfl⟩
      rw [← hxe] at hx0 hx1 HST HWF HSS
      dsimp only at hx0 hx1 HST HWF HSS
      clear hxe
      cases e1
      go_wp2_with (fail)
      obtain ⟨w4, hw4⟩ : ∃ w4, w4 = wr.alloc (.cells #[.int .i64 x, .int .i64 y] 30) := ⟨_, rfl⟩
      have HB4 := Aside0.mk (show Below w.heap.size w w4 by rw [hw4]; exact below_alloc HB.out _)
      have HBr := Aside0.mk (show Below wr.heap.size wr w4 by rw [hw4]; exact below_alloc (Below.refl _ _) _)
      have HN := Aside0.mk (show w4.heap[wr.heap.size]? = some (.cells #[.int .i64 x, .int .i64 y] 30 (0, 0)) by rw [hw4]; exact heap_alloc_new _ _)
      rw [← hw4]
      clear hw4 hx0 hx1
      refine Calls.mono (live g n s x y HWF.out ok w0 w4 (HI.out.below HB4.out)) ?_
      rintro e w5 ⟨rfl, hB5⟩
      have hn5 := (hB5.block _ (blk_lt HN.out)).trans HN.out
      have hx0 : w5.cell? ⟨wr.heap.size, 0, none⟩ = some (.int .i64 x) := (blk_cell hn5 0).trans rfl
      obtain ⟨c, hcl, hT⟩ := HT.out
      have hT5 : TM w5 w.heap.size (AFree.seen hs k) c := Arena.TM.below (Arena.TM.below hT HBr.out) hB5
      have hlk := hT5.look HWF.out
      have HB5 := Aside0.mk (below_step HB4.out hB5)
      obtain ⟨w6, hput, hT6, hg6⟩ := hT5.put (by omega) HWF.out
      have HT6 := Aside0.mk hT6
      have HB6 := Aside0.mk (HB5.out.grown hg6 HB5.out.size (fun k e => by injection e with e; subst e; exact Nat.le_refl _))
      clear hB5 hn5 hT hT5 hT6 hg6 HB4 HBr HN
      by_cases hL : (s.taken x && decide (s.gens x = y)) = true
      · by_cases hS : AFree.seen hs k x = true
        · exfalso
          have h1 := HST.out
          rw [HCC.out, if_neg (fun h => by rw [hS] at h; exact absurd h.2 (by decide))] at h1
          exact absurd h1 (by decide)
        · have hS : AFree.seen hs k x = false := by simpa using hS
          rw [hS] at hlk
          rw [hL]
          go_wp2
          go_roundg (hs.length - (k + 1))
          case measure => have := HQ.out; omega
          case rel =>
            refine ⟨k + 1, by go_num, ⟨by have := HQ.out; omega⟩, by omega, ⟨(if AFree.seen hs k x then c else c + 1), by rw [hS]; simpa using hcl, by rw [HSS.out]; exact HT6.out⟩, ⟨?_⟩, HB6⟩
            have h1 := HST.out
            rw [HCC.out, if_pos ⟨hL, hS⟩] at h1
            exact h1.symm
      · have hL : (s.taken x && decide (s.gens x = y)) = false := by simpa using hL
        exfalso
        have h1 := HST.out
        rw [HCC.out, if_neg (fun h => by have h2 : (s.taken x && decide (s.gens x = y)) = true := h.1; rw [hL] at h2; exact absurd h2 (by decide))] at h1
        exact absurd h1 (by decide)
    · have HK0 := Aside0.mk (Kept.of_below HB.out ok)
      have HI1 := Aside0.mk (HI.out.below HB.out)
      have HB1 := Aside0.mk (below_step HBB.out HB.out)
      have hkk : k = hs.length := by omega
      clear HQ HT HCC HB HC HI HBB
      go_wp2
      obtain ⟨wp, hwp⟩ : ∃ wp : World, wp = wr := ⟨_, rfl⟩
      subst hwp
      go_loopg [33] (hs.length) (fun kq v33 wr => ∃ (k : Nat), v33 = .int .i64 k ∧ Aside0 (k + kq = hs.length) ∧ k ≤ hs.length ∧ Aside0 (IsA w0.heap.size (fun q => ok q ∨ w.heap.size ≤ q ∧ q < wr.heap.size) wr g (n + k) (stf s hs k)) ∧ Aside0 (Below w0.heap.size w0 wr) ∧ Aside0 (Kept w wr ok) ∧ Aside0 ((stf s hs k).free.length = s.free.length + k))
      case atStart => exact ⟨0, rfl, ⟨by omega⟩, Nat.zero_le _, ⟨HI1.out.mono (fun q h => .inl h) (fun q h => h.elim (fun h => Nat.lt_of_lt_of_le (IsA.lt HI1.out h) (Nat.le_refl _)) (fun h => h.2))⟩, HB1, HK0, ⟨rfl⟩⟩
      case round =>
        clear HI1 HB1 HK0 hkk
        obtain ⟨k, rfl, HQ, hk, HI, HB, HK, HFL⟩ := hrel
        by_cases hlt : k < hs.length
        · obtain ⟨ad, e1, hx0, hx1⟩ := PArenaActs.at_T30 (HA.out wr HK.out) (k : Int) (by omega) (by omega)
          rw [hd_nat hs k hlt] at hx0 hx1
          rw [Int.toNat_natCast] at hx0 hx1
          have HST := Aside0.mk (stf_succ s hs k hlt)
          have HWF := Aside0.mk (HW.out k hlt)
          have HG0 := Aside0.mk (HGB.out k hk)
          obtain ⟨⟨x, y⟩, hxe⟩ : ∃ h, h = hs[k] := ⟨_, rfl⟩
          rw [← hxe] at hx0 hx1 HST HWF
          dsimp only at hx0 hx1 HWF
          clear hxe
          obtain ⟨sk, hsk⟩ : ∃ sk, sk = stf s hs k := ⟨_, rfl⟩
          rw [← hsk] at HI HFL HST HG0
          clear hsk
          cases e1
          go_wp2
          obtain ⟨b1, b2, A, c, hI0⟩ := HI.out
          have hog := hI0.2.2.1
          have hob1 := hI0.2.2.2.1
          have hob2 := hI0.2.2.2.2.1
          have HOG := Aside0.mk hog
          have HO1 := Aside0.mk hob1
          have HO2 := Aside0.mk hob2
          have hLt := fun q h => IsA.lt HI.out (k := q) h
          have HLT := Aside0.mk hLt
          have HSZ := Aside0.mk HK.out.1
          obtain ⟨w1, hw1⟩ : ∃ w1, w1 = wr.alloc (.cells #[.int .i64 x, .int .i64 y] 30) := ⟨_, rfl⟩
          have hbe1 : Below wr.heap.size wr w1 := by rw [hw1]; exact below_alloc (Below.refl _ _) _
          have ht1 : w1.heap[wr.heap.size]? = some (.cells #[.int .i64 x, .int .i64 y] 30 (0, 0)) := by rw [hw1]; exact heap_alloc_new _ _
          have HB1 := Aside0.mk (below_drew1 (below_step HB.out hbe1))
          have HK1 := Aside0.mk ((HK.out.below hbe1).drew)
          have hI1 := IsB.drew (hI0.below hbe1)
          rw [← hw1]
          clear hw1 hx0 hx1 hI0 hbe1
          obtain ⟨w2, hdel, hT2, hg2⟩ := (show TM w1.drew b2 sk.taken sk.cnt from hI1.2.2.2.2.2.2.2.1).del HWF.out 0
          have ⟨hI2, hk2⟩ := hI1.put2 hg2 hT2
          have ht2 : w2.heap[wr.heap.size]? = some (.cells #[.int .i64 x, .int .i64 y] 30 (0, 0)) := blk_kept (W := w1.drew) ht1 hk2 (fun e => by have h : b2 < wr.heap.size := HLT.out _ HO2.out.2; omega)
          have HK2 := Aside0.mk (HK1.out.then_ hk2 (fun q e => by subst e; exact HO2.out.2.imp id And.left))
          have HB2 := Aside0.mk (HB1.out.grown hg2 HB1.out.size (fun q e => by injection e with e; subst e; exact HO2.out.1))
          have hI2' := IsB.drew hI2
          have hgx := HG0.out x
          obtain ⟨w3, hupd, hG3, hg3⟩ := (show GM w2.drew b1 (n + k) sk.gens from hI2'.2.2.2.2.2.2.1).put (by omega) HWF.out (v := sk.gens x + 1) (AMap.wf_of (by omega) (by omega))
          have ⟨hI3, hk3⟩ := hI2'.put1 hg3 hG3
          have ht3 : w3.heap[wr.heap.size]? = some (.cells #[.int .i64 x, .int .i64 y] 30 (0, 0)) := blk_kept (W := w2.drew) ht2 hk3 (fun e => by have h : b1 < wr.heap.size := HLT.out _ HO1.out.2; omega)
          have HK3 := Aside0.mk (HK2.out.drew.then_ hk3 (fun q e => by subst e; exact HO1.out.2.imp id And.left))
          have HB3 := Aside0.mk ((below_drew1 HB2.out).grown hg3 HB2.out.size (fun q e => by injection e with e; subst e; exact HO1.out.1))
          have hlk := (show GM w2.drew b1 (n + k) sk.gens from hI2'.2.2.2.2.2.2.1).look HWF.out
          have s12 := Aside0.mk (show w1.drew.cell? ⟨g, 2, none⟩ = some (.map (some b2)) ∧ w1.drew.cell? ⟨wr.heap.size, 0, none⟩ = some (.int .i64 x) from ⟨cellA2 hI1.1, (blk_cell (w := w1.drew) ht1 0).trans rfl⟩)
          have s12e := Aside0.mk (show w2.cell? ⟨g, 2, none⟩ = some (.map (some b2)) ∧ w2.cell? ⟨wr.heap.size, 0, none⟩ = some (.int .i64 x) from ⟨cellA2 hI2.1, (blk_cell ht2 0).trans rfl⟩)
          have s13 := Aside0.mk (show w2.drew.cell? ⟨g, 1, none⟩ = some (.map (some b1)) ∧ w2.drew.cell? ⟨wr.heap.size, 0, none⟩ = some (.int .i64 x) from ⟨cellA1 hI2'.1, (blk_cell (w := w2.drew) ht2 0).trans rfl⟩)
          have s13e := Aside0.mk (show w3.cell? ⟨g, 1, none⟩ = some (.map (some b1)) ∧ w3.cell? ⟨wr.heap.size, 0, none⟩ = some (.int .i64 x) from ⟨cellA1 hI3.1, (blk_cell ht3 0).trans rfl⟩)
          have HI3 := Aside0.mk hI3
          have HT3 := Aside0.mk ht3
          have hgx1 : -9223372036854775808 ≤ sk.gens x + 1 := by omega
          have hgx2 : sk.gens x + 1 ≤ 9223372036854775807 := by omega
          have hwr : IntKind.i64.wrap (sk.gens x + 1) = sk.gens x + 1 := by rw [IntKind.wrap_i64]; omega
          clear hog hob1 hob2 hLt ht1 ht2 ht3 hI1 hI2 hI2' hI3 hT2 hG3 hg2 hg3 hk2 hk3 hgx HI
          refine RegH.startH (fun W => W.cell? ⟨g, 2, none⟩ = some (.map (some b2)) ∧ W.cell? ⟨wr.heap.size, 0, none⟩ = some (.int .i64 x)) (by kernel_rfl) rfl (s12.out) (fun hS => ?_)
          (refine RegH.tkH (i := 0) (d := 37) (oi := ⟨_, _, _, _, _, _⟩) (v := ?_) rfl rfl (by kernel_rfl) (by kernel_rfl) (by kernel_rfl) (fun _ _ _ h => h) (Or.inl ⟨by rfl, ?_⟩) hS ?_; rotate_left; (intro w hSw; (try dsimp only at hSw); go_simp); try (with_reducible rfl))
          try simp only [Act.put, List.setIfInBounds_toArray, List.set_cons_zero, List.set_cons_succ]
          (refine RegH.tkH (i := 1) (d := 38) (oi := ⟨_, _, _, _, _, _⟩) (v := ?_) rfl rfl (by kernel_rfl) (by kernel_rfl) (by kernel_rfl) (fun _ _ _ h => h) (Or.inl ⟨by rfl, ?_⟩) hS ?_; rotate_left; (intro w hSw; (try dsimp only at hSw); go_simp); try (with_reducible rfl))
          try simp only [Act.put, List.setIfInBounds_toArray, List.set_cons_zero, List.set_cons_succ]
          (refine RegH.tkH (i := 2) (d := 39) (oi := ⟨_, _, _, _, _, _⟩) (v := ?_) rfl rfl (by kernel_rfl) (by kernel_rfl) (by kernel_rfl) (fun _ _ _ h => h) (Or.inl ⟨by rfl, ?_⟩) hS ?_; rotate_left; (intro w hSw; (try dsimp only at hSw); go_simp); try (with_reducible rfl))
          try simp only [Act.put, List.setIfInBounds_toArray, List.set_cons_zero, List.set_cons_succ]
          (refine RegH.tkH (i := 3) (d := 40) (oi := ⟨_, _, _, _, _, _⟩) (v := ?_) rfl rfl (by kernel_rfl) (by kernel_rfl) (by kernel_rfl) (fun _ _ _ h => h) (Or.inl ⟨by rfl, ?_⟩) hS ?_; rotate_left; (intro w hSw; (try dsimp only at hSw); go_simp); try (with_reducible rfl))
          try simp only [Act.put, List.setIfInBounds_toArray, List.set_cons_zero, List.set_cons_succ]
          (refine RegH.tkH (i := 4) (d := 41) (oi := ⟨_, _, _, _, _, _⟩) (v := ?_) rfl rfl (by kernel_rfl) (by kernel_rfl) (by kernel_rfl) (fun _ _ _ h => h) (Or.inl ⟨by rfl, ?_⟩) hS ?_; rotate_left; (intro w hSw; (try dsimp only at hSw); go_simp); try (with_reducible rfl))
          try simp only [Act.put, List.setIfInBounds_toArray, List.set_cons_zero, List.set_cons_succ]
          (refine RegH.tkH (i := 5) (d := 42) (oi := ⟨_, _, _, _, _, _⟩) (v := ?_) rfl rfl (by kernel_rfl) (by kernel_rfl) (by kernel_rfl) (fun _ _ _ h => h) (Or.inl ⟨by rfl, ?_⟩) hS ?_; rotate_left; (intro w hSw; (try dsimp only at hSw); go_simp); try (with_reducible rfl))
          try simp only [Act.put, List.setIfInBounds_toArray, List.set_cons_zero, List.set_cons_succ]
          refine RegH.oneH (i := 6) (o := ⟨_, _, _, _, _, _⟩) (by kernel_rfl) rfl (fun K hK => ?_)
          go_simp
          refine hK.out _ _ (s12e.out) (fun hS => ?_)
          clear hK K
          try simp only [Act.put, List.setIfInBounds_toArray, List.set_cons_zero, List.set_cons_succ]
          refine wpAnyH_done (by kernel_rfl) ?_ _
          go_wp2
          refine RegH.startH (fun W => W.cell? ⟨g, 1, none⟩ = some (.map (some b1)) ∧ W.cell? ⟨wr.heap.size, 0, none⟩ = some (.int .i64 x)) (by kernel_rfl) rfl (s13.out) (fun hS => ?_)
          (refine RegH.tkH (i := 0) (d := 43) (oi := ⟨_, _, _, _, _, _⟩) (v := ?_) rfl rfl (by kernel_rfl) (by kernel_rfl) (by kernel_rfl) (fun _ _ _ h => h) (Or.inl ⟨by rfl, ?_⟩) hS ?_; rotate_left; (intro w hSw; (try dsimp only at hSw); go_simp); try (with_reducible rfl))
          try simp only [Act.put, List.setIfInBounds_toArray, List.set_cons_zero, List.set_cons_succ]
          (refine RegH.tkH (i := 1) (d := 44) (oi := ⟨_, _, _, _, _, _⟩) (v := ?_) rfl rfl (by kernel_rfl) (by kernel_rfl) (by kernel_rfl) (fun _ _ _ h => h) (Or.inl ⟨by rfl, ?_⟩) hS ?_; rotate_left; (intro w hSw; (try dsimp only at hSw); go_simp); try (with_reducible rfl))
          try simp only [Act.put, List.setIfInBounds_toArray, List.set_cons_zero, List.set_cons_succ]
          (refine RegH.tkH (i := 2) (d := 45) (oi := ⟨_, _, _, _, _, _⟩) (v := ?_) rfl rfl (by kernel_rfl) (by kernel_rfl) (by kernel_rfl) (fun _ _ _ h => h) (Or.inl ⟨by rfl, ?_⟩) hS ?_; rotate_left; (intro w hSw; (try dsimp only at hSw); go_simp); try (with_reducible rfl))
          try simp only [Act.put, List.setIfInBounds_toArray, List.set_cons_zero, List.set_cons_succ]
          (refine RegH.tkH (i := 3) (d := 46) (oi := ⟨_, _, _, _, _, _⟩) (v := ?_) rfl rfl (by kernel_rfl) (by kernel_rfl) (by kernel_rfl) (fun _ _ _ h => h) (Or.inl ⟨by rfl, ?_⟩) hS ?_; rotate_left; (intro w hSw; (try dsimp only at hSw); go_simp); try (with_reducible rfl))
          try simp only [Act.put, List.setIfInBounds_toArray, List.set_cons_zero, List.set_cons_succ]
          (refine RegH.tkH (i := 4) (d := 47) (oi := ⟨_, _, _, _, _, _⟩) (v := ?_) rfl rfl (by kernel_rfl) (by kernel_rfl) (by kernel_rfl) (fun _ _ _ h => h) (Or.inl ⟨by rfl, ?_⟩) hS ?_; rotate_left; (intro w hSw; (try dsimp only at hSw); go_simp); try (with_reducible rfl))
          try simp only [Act.put, List.setIfInBounds_toArray, List.set_cons_zero, List.set_cons_succ]
          (refine RegH.tkH (i := 5) (d := 48) (oi := ⟨_, _, _, _, _, _⟩) (v := ?_) rfl rfl (by kernel_rfl) (by kernel_rfl) (by kernel_rfl) (fun _ _ _ h => h) (Or.inl ⟨by rfl, ?_⟩) hS ?_; rotate_left; (intro w hSw; (try dsimp only at hSw); go_simp); try (with_reducible rfl))
          try simp only [Act.put, List.setIfInBounds_toArray, List.set_cons_zero, List.set_cons_succ]
          refine RegH.oneH (i := 6) (o := ⟨_, _, _, _, _, _⟩) (by kernel_rfl) rfl (fun K hK => ?_)
          go_simp
          refine hK.out _ _ (s13.out) (fun hS => ?_)
          clear hK K
          try simp only [Act.put, List.setIfInBounds_toArray, List.set_cons_zero, List.set_cons_succ]
          refine RegH.oneH (i := 7) (o := ⟨_, _, _, _, _, _⟩) (by kernel_rfl) rfl (fun K hK => ?_)
          go_simp
          refine hK.out _ _ (s13.out) (fun hS => ?_)
          clear hK K
          try simp only [Act.put, List.setIfInBounds_toArray, List.set_cons_zero, List.set_cons_succ]
          refine RegH.oneH (i := 8) (o := ⟨_, _, _, _, _, _⟩) (by kernel_rfl) rfl (fun K hK => ?_)
          go_simp
          refine hK.out _ _ (s13e.out) (fun hS => ?_)
          clear hK K
          try simp only [Act.put, List.setIfInBounds_toArray, List.set_cons_zero, List.set_cons_succ]
          refine wpAnyH_done (by kernel_rfl) ?_ _
          go_wp2
          have hI3 := HI3.out
          have hI3d := IsB.drew hI3
          have hr3 := hI3d.2.2.2.2.2.2.2.2
          have hb3 := hI3d.1
          obtain ⟨ys, hys⟩ : ∃ ys, ys = sk.free := ⟨_, rfl⟩
          dsimp only at hr3 hb3
          rw [← hys] at hr3 hb3
          have hc3 := cellA3 hb3
          have hc3' : ∀ o, (w3.drew.alloc o).cell? ⟨g, 3, none⟩ = some (.slice A ys.length c) := fun o => cellA3 (blk_alloc hb3 o)
          have hc3'' : ∀ o, (w3.alloc o).cell? ⟨g, 3, none⟩ = some (.slice A ys.length c) := hc3'
          have HROW := Aside0.mk (show ∀ q, (Value.slice A ys.length c).ownBlock = some q → q < wr.heap.size from fun q e => HLT.out q (hr3.1 q e).1)
          have hlen : ys.length = s.free.length + k := by rw [hys]; exact HFL.out
          have HCAP := Aside0.mk (show (ys.length + 1) * 8 ≤ 140737488355328 by omega)
          have HYS := Aside0.mk hys
          have HBLK := Aside0.mk hb3
          have HRR := Aside0.mk (Kd.R_mono (ok' := fun q => (ok q ∨ w.heap.size ≤ q) ∧ q ≠ g ∧ q ≠ b1 ∧ q ≠ b2) hr3 (fun q hq => ⟨hq.1.imp id And.left, hq.2⟩))
          have s14 := Aside0.mk (show w3.drew.cell? ⟨wr.heap.size, 0, none⟩ = some (.int .i64 x) from (blk_cell (w := w3.drew) HT3.out 0).trans rfl)
          have s14a : Aside0 (∀ o, (w3.drew.alloc o).cell? ⟨wr.heap.size, 0, none⟩ = some (.int .i64 x)) := ⟨fun o => (blk_cell (blk_alloc (w := w3.drew) HT3.out o) 0).trans rfl⟩
          have HG3 := Aside0.mk (show wr.heap.size < w3.drew.heap.size from blk_lt HT3.out)
          clear hI3 hI3d hr3 hb3 hys hlen
          refine RegH.startH (fun W => W.cell? ⟨wr.heap.size, 0, none⟩ = some (.int .i64 x)) (by kernel_rfl) rfl (s14.out) (fun hS => ?_)
          (refine RegH.tkH (i := 0) (d := 51) (oi := ⟨_, _, _, _, _, _⟩) (v := ?_) rfl rfl (by kernel_rfl) (by kernel_rfl) (by kernel_rfl) (fun _ _ _ h => h) (Or.inl ⟨by rfl, ?_⟩) hS ?_; rotate_left; (intro w hSw; (try dsimp only at hSw); go_simp); try (with_reducible rfl))
          try simp only [Act.put, List.setIfInBounds_toArray, List.set_cons_zero, List.set_cons_succ]
          (refine RegH.tkH (i := 1) (d := 52) (oi := ⟨_, _, _, _, _, _⟩) (v := ?_) rfl rfl (by kernel_rfl) (by kernel_rfl) (by kernel_rfl) (fun _ _ _ h => h) (Or.inl ⟨by rfl, ?_⟩) hS ?_; rotate_left; (intro w hSw; (try dsimp only at hSw); go_simp); try (with_reducible rfl))
          try simp only [Act.put, List.setIfInBounds_toArray, List.set_cons_zero, List.set_cons_succ]
          (refine RegH.tkH (i := 2) (d := 53) (oi := ⟨_, _, _, _, _, _⟩) (v := ?_) rfl rfl (by kernel_rfl) (by kernel_rfl) (by kernel_rfl) (fun _ _ _ h => h) (Or.inl ⟨by rfl, ?_⟩) hS ?_; rotate_left; (intro w hSw; (try dsimp only at hSw); go_simp); try (with_reducible rfl))
          try simp only [Act.put, List.setIfInBounds_toArray, List.set_cons_zero, List.set_cons_succ]
          (refine RegH.tkH (i := 3) (d := 54) (oi := ⟨_, _, _, _, _, _⟩) (v := ?_) rfl rfl (by kernel_rfl) (by kernel_rfl) (by kernel_rfl) (fun _ _ _ h => h) (Or.inl ⟨by rfl, ?_⟩) hS ?_; rotate_left; (intro w hSw; (try dsimp only at hSw); go_simp); try (with_reducible rfl))
          try simp only [Act.put, List.setIfInBounds_toArray, List.set_cons_zero, List.set_cons_succ]
          (refine RegH.tkH (i := 5) (d := 56) (oi := ⟨_, _, _, _, _, _⟩) (v := ?_) rfl rfl (by kernel_rfl) (by kernel_rfl) (by kernel_rfl) (fun _ _ _ h => h) (Or.inl ⟨by rfl, ?_⟩) hS ?_; rotate_left; (intro w hSw; (try dsimp only at hSw); go_simp); try (with_reducible rfl))
          try simp only [Act.put, List.setIfInBounds_toArray, List.set_cons_zero, List.set_cons_succ]
          (refine RegH.tkH (i := 6) (d := 57) (oi := ⟨_, _, _, _, _, _⟩) (v := ?_) rfl rfl (by kernel_rfl) (by kernel_rfl) (by kernel_rfl) (fun _ _ _ h => h) (Or.inl ⟨by rfl, ?_⟩) hS ?_; rotate_left; (intro w hSw; (try dsimp only at hSw); go_simp); try (with_reducible rfl))
          try simp only [Act.put, List.setIfInBounds_toArray, List.set_cons_zero, List.set_cons_succ]
          refine RegH.twoH (i := 4) (j := 7) (o := ⟨_, _, _, _, _, _⟩) (o' := ⟨_, _, _, _, _, _⟩) (by kernel_rfl) rfl rfl (fun K hK => ?_) (fun K hK => ?_)
          · go_simp
            refine hK.out _ _ (s14.out) (fun hS => ?_)
            clear hK K
            try simp only [Act.put, List.setIfInBounds_toArray, List.set_cons_zero, List.set_cons_succ]
            refine RegH.oneH (i := 7) (o := ⟨_, _, _, _, _, _⟩) (by kernel_rfl) rfl (fun K hK => ?_)
            go_simp
            refine hK.out _ _ (s14a.out _) (fun hS => ?_)
            clear hK K
            try simp only [Act.put, List.setIfInBounds_toArray, List.set_cons_zero, List.set_cons_succ]
            refine RegH.oneH (i := 8) (o := ⟨_, _, _, _, _, _⟩) (by kernel_rfl) rfl (fun K hK => ?_)
            refine Kd.R_append_rows_step (Kd.int .i64) (w0 := w0) w0.heap.size (by rfl) (.tmp 55) (.tmp 58) 22 3 (.int .i64 0) 8 rfl Try.underlying22 info3z rfl (by decide) (by decide) (.slice A ys.length c) (ys) ([x]) (some ⟨w3.drew.heap.size, 0, none⟩) 1 1 (fun q => (ok q ∨ w.heap.size ≤ q) ∧ q ≠ g ∧ q ≠ b1 ∧ q ≠ b2) (fun _ => False) rfl rfl (Kd.R_alloc HRR.out (.cells #[.int .i64 x] 3)) (int_blk (t := 3) (mk := (0, 0)) (heap_alloc_new w3.drew (.cells #[.int .i64 x] 3))) (fun _ _ h => h) (fun _ h => h.elim) (fun q hq => by have h0 : w3.drew.heap.size ≤ q := Nat.le_of_succ_le (by simpa using hq); have h1 : g < w3.drew.heap.size := blk_lt HBLK.out; have h2 : b1 < w3.drew.heap.size := (HI3.out.2.2.2.2.2.2.1).lt; have h3 : b2 < w3.drew.heap.size := (HI3.out.2.2.2.2.2.2.2.1).lt; exact ⟨.inr (by have h4 := HSZ.out; have h5 := HG3.out; omega), by omega, by omega, by omega⟩) (ins1 (below_drew1 HB3.out) (below_drew1 HB3.out).size _) ((ins1 (below_drew1 HB3.out) (below_drew1 HB3.out).size _).size) (HCAP.out) ?_
            intro v6 w4 hr4 hb4 hg4 _
            obtain ⟨A6, c6, rfl⟩ := Kd.R_slice hr4
            have HR4 := Aside0.mk hr4
            have HB4 := Aside0.mk hb4
            have HG4 := Aside0.mk hg4
            have hblk4 := (hg4.block g (blk_lt (blk_alloc HBLK.out (.cells #[.int .i64 x] 3))) (fun he => (HRR.out.1 g he.symm).2.1 rfl)).trans (blk_alloc HBLK.out (.cells #[.int .i64 x] 3))
            have hT4 := (hg4.block wr.heap.size (blk_lt (blk_alloc (w := w3.drew) HT3.out (.cells #[.int .i64 x] 3))) (fun he => Nat.lt_irrefl _ (HROW.out _ he.symm))).trans (blk_alloc (w := w3.drew) HT3.out (.cells #[.int .i64 x] 3))
            have HS4 := Aside0.mk (show w4.cell? ⟨wr.heap.size, 0, none⟩ = some (.int .i64 x) from (blk_cell hT4 0).trans rfl)
            have HS5 := Aside0.mk (show ∀ v, (w4.setCell ⟨g, 3, none⟩ v).cell? ⟨wr.heap.size, 0, none⟩ = some (.int .i64 x) from fun v => (blk_cell ((Below.heap_setCell w4 ⟨g, 3, none⟩ v wr.heap.size (fun e => by have h : g < wr.heap.size := HLT.out _ HOG.out.2; have e' : wr.heap.size = g := e; omega)).trans hT4) 0).trans rfl)
            clear hT4
            have hd3 := cellA3 hblk4
            have hf3 := blk_frozen hblk4 3
            have HBLK4 := Aside0.mk hblk4
            clear hr4 hb4 hg4 hblk4
            refine hK.out (Act.put _ (some 59) _) _ (HS4.out) (fun hS => ?_)
            clear hK K
            try simp only [Act.put, List.setIfInBounds_toArray, List.set_cons_zero, List.set_cons_succ]
            (refine RegH.tkH (i := 9) (d := 60) (oi := ⟨_, _, _, _, _, _⟩) (v := ?_) rfl rfl (by kernel_rfl) (by kernel_rfl) (by kernel_rfl) (fun _ _ _ h => h) (Or.inl ⟨by rfl, ?_⟩) hS ?_; rotate_left; (intro w hSw; (try dsimp only at hSw); go_simp); try (with_reducible rfl))
            try simp only [Act.put, List.setIfInBounds_toArray, List.set_cons_zero, List.set_cons_succ]
            (refine RegH.tkH (i := 10) (d := 61) (oi := ⟨_, _, _, _, _, _⟩) (v := ?_) rfl rfl (by kernel_rfl) (by kernel_rfl) (by kernel_rfl) (fun _ _ _ h => h) (Or.inl ⟨by rfl, ?_⟩) hS ?_; rotate_left; (intro w hSw; (try dsimp only at hSw); go_simp); try (with_reducible rfl))
            try simp only [Act.put, List.setIfInBounds_toArray, List.set_cons_zero, List.set_cons_succ]
            refine RegH.oneH (i := 11) (o := ⟨_, _, _, _, _, _⟩) (by kernel_rfl) rfl (fun K hK => ?_)
            go_simp
            refine hK.out _ _ (HS5.out _) (fun hS => ?_)
            clear hK K
            try simp only [Act.put, List.setIfInBounds_toArray, List.set_cons_zero, List.set_cons_succ]
            refine wpAnyH_done (by kernel_rfl) ?_ _
            go_wp2
            have hg4 := HG4.out
            have hap := IsB.app (ok2 := fun q => ok q ∨ w.heap.size ≤ q ∧ q < w4.heap.size) (x := x) (A6 := A6) (c6 := c6) ((IsB.drew HI3.out).below (below_alloc (Below.refl _ _) (.cells #[.int .i64 x] 3))) (by rw [HYS.out] at hg4; exact hg4)
              (fun q h => by have h6 := hg4.size; have h7 := HG3.out; exact h.imp id (fun h => ⟨h.1, by have h8 := h.2; simp at h6 h7; omega⟩))
              (fun q h => h.elim (fun h => by have h6 := hg4.size; have h7 := HG3.out; have h8 : q < wr.heap.size := HLT.out q (.inl h); simp at h6 h7; omega) And.right)
              (by have h := Kd.R_mono (ok' := fun q => (ok q ∨ w.heap.size ≤ q ∧ q < w4.heap.size) ∧ q ≠ g ∧ q ≠ b1 ∧ q ≠ b2) (Kd.R_bound HR4.out) (fun q hq => ⟨hq.1.1.imp id (fun h => ⟨h, hq.2.2.1⟩), hq.1.2⟩); rw [HYS.out] at h; exact h)
            have HIN := Aside0.mk hap.1
            have HKN := Aside0.mk (((HK3.out.drew.alloc (.cells #[.int .i64 x] 3)).then_ hap.2 (fun q h => h.imp id And.left)).setCell (p := ⟨g, 3, none⟩) (HOG.out.2.imp id And.left) (.slice A6 (ys ++ [x]).length c6))
            have HBN := Aside0.mk (below_set (j := 3) (v := .slice A6 (ys ++ [x]).length c6) HB4.out HOG.out.1)
            clear hg4 hap HBLK4 HR4 HB4 HG4 hd3 hf3
            rw [← HYS.out] at HIN
            rw [List.length_append] at HIN HKN HBN
            go_roundg (hs.length - (k + 1))
            case measure => have := HQ.out; omega
            case rel => exact ⟨k + 1, by go_num, ⟨by have := HQ.out; omega⟩, by omega, ⟨by (have e : (w4.setCell ⟨g, 3, none⟩ (.slice A6 (ys.length + 1) c6)).heap.size = w4.heap.size := by simp); have h := HIN.out; rw [HST.out, e]; rw [HYS.out] at h ⊢; exact ⟨b1, b2, A6, c6, h⟩⟩, HBN, HKN, ⟨by rw [HST.out]; have := HFL.out; simp [fr]; omega⟩⟩
          · go_simp
            refine hK.out _ _ (s14a.out _) (fun hS => ?_)
            clear hK K
            try simp only [Act.put, List.setIfInBounds_toArray, List.set_cons_zero, List.set_cons_succ]
            refine RegH.oneH (i := 4) (o := ⟨_, _, _, _, _, _⟩) (by kernel_rfl) rfl (fun K hK => ?_)
            go_simp
            refine hK.out _ _ (s14a.out _) (fun hS => ?_)
            clear hK K
            try simp only [Act.put, List.setIfInBounds_toArray, List.set_cons_zero, List.set_cons_succ]
            refine RegH.oneH (i := 8) (o := ⟨_, _, _, _, _, _⟩) (by kernel_rfl) rfl (fun K hK => ?_)
            refine Kd.R_append_rows_step (Kd.int .i64) (w0 := w0) w0.heap.size (by rfl) (.tmp 55) (.tmp 58) 22 3 (.int .i64 0) 8 rfl Try.underlying22 info3z rfl (by decide) (by decide) (.slice A ys.length c) (ys) ([x]) (some ⟨w3.drew.heap.size, 0, none⟩) 1 1 (fun q => (ok q ∨ w.heap.size ≤ q) ∧ q ≠ g ∧ q ≠ b1 ∧ q ≠ b2) (fun _ => False) rfl rfl (Kd.R_alloc HRR.out (.cells #[.int .i64 x] 3)) (int_blk (t := 3) (mk := (0, 0)) (heap_alloc_new w3.drew (.cells #[.int .i64 x] 3))) (fun _ _ h => h) (fun _ h => h.elim) (fun q hq => by have h0 : w3.drew.heap.size ≤ q := Nat.le_of_succ_le (by simpa using hq); have h1 : g < w3.drew.heap.size := blk_lt HBLK.out; have h2 : b1 < w3.drew.heap.size := (HI3.out.2.2.2.2.2.2.1).lt; have h3 : b2 < w3.drew.heap.size := (HI3.out.2.2.2.2.2.2.2.1).lt; exact ⟨.inr (by have h4 := HSZ.out; have h5 := HG3.out; omega), by omega, by omega, by omega⟩) (ins1 (below_drew1 HB3.out) (below_drew1 HB3.out).size _) ((ins1 (below_drew1 HB3.out) (below_drew1 HB3.out).size _).size) (HCAP.out) ?_
            intro v6 w4 hr4 hb4 hg4 _
            obtain ⟨A6, c6, rfl⟩ := Kd.R_slice hr4
            have HR4 := Aside0.mk hr4
            have HB4 := Aside0.mk hb4
            have HG4 := Aside0.mk hg4
            have hblk4 := (hg4.block g (blk_lt (blk_alloc HBLK.out (.cells #[.int .i64 x] 3))) (fun he => (HRR.out.1 g he.symm).2.1 rfl)).trans (blk_alloc HBLK.out (.cells #[.int .i64 x] 3))
            have hT4 := (hg4.block wr.heap.size (blk_lt (blk_alloc (w := w3.drew) HT3.out (.cells #[.int .i64 x] 3))) (fun he => Nat.lt_irrefl _ (HROW.out _ he.symm))).trans (blk_alloc (w := w3.drew) HT3.out (.cells #[.int .i64 x] 3))
            have HS4 := Aside0.mk (show w4.cell? ⟨wr.heap.size, 0, none⟩ = some (.int .i64 x) from (blk_cell hT4 0).trans rfl)
            have HS5 := Aside0.mk (show ∀ v, (w4.setCell ⟨g, 3, none⟩ v).cell? ⟨wr.heap.size, 0, none⟩ = some (.int .i64 x) from fun v => (blk_cell ((Below.heap_setCell w4 ⟨g, 3, none⟩ v wr.heap.size (fun e => by have h : g < wr.heap.size := HLT.out _ HOG.out.2; have e' : wr.heap.size = g := e; omega)).trans hT4) 0).trans rfl)
            clear hT4
            have hd3 := cellA3 hblk4
            have hf3 := blk_frozen hblk4 3
            have HBLK4 := Aside0.mk hblk4
            clear hr4 hb4 hg4 hblk4
            refine hK.out (Act.put _ (some 59) _) _ (HS4.out) (fun hS => ?_)
            clear hK K
            try simp only [Act.put, List.setIfInBounds_toArray, List.set_cons_zero, List.set_cons_succ]
            (refine RegH.tkH (i := 9) (d := 60) (oi := ⟨_, _, _, _, _, _⟩) (v := ?_) rfl rfl (by kernel_rfl) (by kernel_rfl) (by kernel_rfl) (fun _ _ _ h => h) (Or.inl ⟨by rfl, ?_⟩) hS ?_; rotate_left; (intro w hSw; (try dsimp only at hSw); go_simp); try (with_reducible rfl))
            try simp only [Act.put, List.setIfInBounds_toArray, List.set_cons_zero, List.set_cons_succ]
            (refine RegH.tkH (i := 10) (d := 61) (oi := ⟨_, _, _, _, _, _⟩) (v := ?_) rfl rfl (by kernel_rfl) (by kernel_rfl) (by kernel_rfl) (fun _ _ _ h => h) (Or.inl ⟨by rfl, ?_⟩) hS ?_; rotate_left; (intro w hSw; (try dsimp only at hSw); go_simp); try (with_reducible rfl))
            try simp only [Act.put, List.setIfInBounds_toArray, List.set_cons_zero, List.set_cons_succ]
            refine RegH.oneH (i := 11) (o := ⟨_, _, _, _, _, _⟩) (by kernel_rfl) rfl (fun K hK => ?_)
            go_simp
            refine hK.out _ _ (HS5.out _) (fun hS => ?_)
            clear hK K
            try simp only [Act.put, List.setIfInBounds_toArray, List.set_cons_zero, List.set_cons_succ]
            refine wpAnyH_done (by kernel_rfl) ?_ _
            go_wp2
            have hg4 := HG4.out
            have hap := IsB.app (ok2 := fun q => ok q ∨ w.heap.size ≤ q ∧ q < w4.heap.size) (x := x) (A6 := A6) (c6 := c6) ((IsB.drew HI3.out).below (below_alloc (Below.refl _ _) (.cells #[.int .i64 x] 3))) (by rw [HYS.out] at hg4; exact hg4)
              (fun q h => by have h6 := hg4.size; have h7 := HG3.out; exact h.imp id (fun h => ⟨h.1, by have h8 := h.2; simp at h6 h7; omega⟩))
              (fun q h => h.elim (fun h => by have h6 := hg4.size; have h7 := HG3.out; have h8 : q < wr.heap.size := HLT.out q (.inl h); simp at h6 h7; omega) And.right)
              (by have h := Kd.R_mono (ok' := fun q => (ok q ∨ w.heap.size ≤ q ∧ q < w4.heap.size) ∧ q ≠ g ∧ q ≠ b1 ∧ q ≠ b2) (Kd.R_bound HR4.out) (fun q hq => ⟨hq.1.1.imp id (fun h => ⟨h, hq.2.2.1⟩), hq.1.2⟩); rw [HYS.out] at h; exact h)
            have HIN := Aside0.mk hap.1
            have HKN := Aside0.mk (((HK3.out.drew.alloc (.cells #[.int .i64 x] 3)).then_ hap.2 (fun q h => h.imp id And.left)).setCell (p := ⟨g, 3, none⟩) (HOG.out.2.imp id And.left) (.slice A6 (ys ++ [x]).length c6))
            have HBN := Aside0.mk (below_set (j := 3) (v := .slice A6 (ys ++ [x]).length c6) HB4.out HOG.out.1)
            clear hg4 hap HBLK4 HR4 HB4 HG4 hd3 hf3
            rw [← HYS.out] at HIN
            rw [List.length_append] at HIN HKN HBN
            go_roundg (hs.length - (k + 1))
            case measure => have := HQ.out; omega
            case rel => exact ⟨k + 1, by go_num, ⟨by have := HQ.out; omega⟩, by omega, ⟨by (have e : (w4.setCell ⟨g, 3, none⟩ (.slice A6 (ys.length + 1) c6)).heap.size = w4.heap.size := by simp); have h := HIN.out; rw [HST.out, e]; rw [HYS.out] at h ⊢; exact ⟨b1, b2, A6, c6, h⟩⟩, HBN, HKN, ⟨by rw [HST.out]; have := HFL.out; simp [fr]; omega⟩⟩
        · have hkk : k = hs.length := by omega
          subst hkk
          go_wp2
          go_ret
          exact ⟨rfl, HI.out, HB.out, HK.out⟩

end Go.Proofs.Ytlmeeafppigphaa.AFree2
