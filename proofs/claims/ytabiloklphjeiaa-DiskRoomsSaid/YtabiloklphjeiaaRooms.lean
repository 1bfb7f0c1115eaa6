/-
  DiskRooms walked: the law's function returns true for every argument; nothing that was there is written.
-/
import Derived.Test.YtabiloklphjeiaaProg
import Derived.Test.YtabiloklphjeiaaDisk
import Derived.Test.YtabiloklphjeiaaDskB
import Derived.Test.YtabiloklphjeiaaDskC
import Derived.Test.YtabiloklphjeiaaMem
import Derived.Test.YtabiloklphjeiaaAwake
import Derived.Test.YtabiloklphjeiaaReg
import Derived.Test.YtabiloklphjeiaaRegH
import Derived.Test.YtabiloklphjeiaaCrashes
import Derived.Laws.MakeOwn
import Derived.Below
import Derived.Deep.Draws
import Derived.Deep.AppendLies
import Derived.Maps.AppendAt
import Derived.OwnWalk
import Derived.Laws.BytesArg
import Derived.Laws.MakeOwn
import Derived.Laws.OwnMore
import Derived.Deep.OwnRows
import Derived.Tactics
import Derived.Lib.ConvBytes
import Derived.Laws.Slices
import Derived.WalkKit
import Derived.KernelRfl
import Derived.RowKit3
import Derived.Deep.LoopGhost
import Derived.Deep.QuietTactic
import Derived.BigQuiet
import Derived.WideLaws
import Derived.Deep.DeepCutAuto
import Derived.Deep.CutBlock
import Derived.Deep.RegionHeld3
import Derived.Laws.Rows
import Derived.Lib.AppendStr
import Derived.ArgAppend
import Derived.Laws.IdiomCopy
import Derived.OrdersHeld
import Derived.Laws.BitsLemmas
import Derived.RowKit
import Derived.Lib.SliceRun
import Derived.Test.YtabiloklphjeiaaWWords
import Derived.Test.YtabiloklphjeiaaWLast
import Derived.Test.YtabiloklphjeiaaWTab
import Derived.Test.YtabiloklphjeiaaWFour
import Derived.Test.YtabiloklphjeiaaWQPut
import Derived.Test.YtabiloklphjeiaaWApart
import Derived.Test.YtabiloklphjeiaaWArr
import Derived.Test.YtabiloklphjeiaaWZeros
import Derived.Test.YtabiloklphjeiaaWFoot
import Derived.Test.YtabiloklphjeiaaWKept
import Derived.Test.YtabiloklphjeiaaWShare
import Derived.Test.YtabiloklphjeiaaWN
import Derived.Test.YtabiloklphjeiaaWFootNe
import Derived.Test.YtabiloklphjeiaaWAt
import Derived.Test.YtabiloklphjeiaaWEqStruct
import Derived.Test.YtabiloklphjeiaaWRepsOne
import Derived.Test.YtabiloklphjeiaaWInv
import Derived.Test.YtabiloklphjeiaaWInvWords
import Derived.Test.YtabiloklphjeiaaWGuard
import Derived.Test.YtabiloklphjeiaaWNEv
import Derived.Test.YtabiloklphjeiaaWMore
namespace Go.Proofs.Ytabiloklphjeiaa.Rooms
open Go.RowKit Go.Proofs.YtabiloklphjeiaaW.PrintWords Go.Proofs.YtabiloklphjeiaaW.PrintLast Go.Proofs.YtabiloklphjeiaaW.PrintMore
set_option linter.unusedVariables false
set_option linter.unusedSimpArgs false
open Disk DskB DskC Mem Crashes
theorem made (m : Nat) : madeCells #[Value.int .u8 0] (m * 1) = ((List.replicate m (0 : Int)).map (Value.int .u8)).toArray := by
  apply Array.ext
  · simp [size_madeCells]
  · intro i h1 h2
    simp [madeCells, Nat.mod_one]
theorem mk_zeros (m : Nat) (x : Int) (hx : x = (m : Int)) (hm : m ≤ 1000000) : ∀ W : World, (Instr.makeSlice 28 (.int .i64 x) (.int .i64 x)).run Try.prog W = .ok (.slice (some ⟨W.heap.size, 0, none⟩) m m) (W.alloc (.cells ((List.replicate m (0 : Int)).map (Value.int .u8)).toArray 5)) := by
  intro W
  obtain ⟨i0, hi, hzz⟩ := Option.map_eq_some_iff.1 Clone.info5
  simp only [Prod.mk.injEq] at hzz
  obtain ⟨hz0, hz1, hz2⟩ := hzz
  have h := run_make (P := Try.prog) (w := W) 28 5 i0 (.int .u8 0) Try.underlying28 hi hz0 .i64 .i64 x x (by omega) (by omega) (by rw [hz2]; omega) (by omega)
  rw [hz1, hx, Int.toNat_natCast] at h
  rw [hx]
  refine h.trans ?_
  rw [show (Value.int .u8 0).cells = #[Value.int .u8 0] from rfl, made]
theorem lit_piece {W : World} {ok : Nat → Prop} {p t : Nat} {l : List Int} {mk : Nat × Nat} (hl : l.length ≤ 9223372036854775807) (hp : W.heap[p]? = some (.cells (l.map (Value.int .u8)).toArray t mk)) (hpk : ¬ ok p) : ∀ W', Kept W W' ok → (Kd.int .u8).C W' (some ⟨p, 0, none⟩) l.length l :=
  fun W' hk => ints_blk hl (blk_kept hp hk hpk)

set_option maxHeartbeats 4000000 in
set_option maxRecDepth 100000 in
theorem many (room : Int) (A0 : Option Addr) (c0 : Nat) (l0 : List Int) (w : World) (h : 60 < l0.length) (hm : l0.length ≤ 9223372036854775807) :
    Calls Try.prog 4 #[.int .i64 room, .slice A0 l0.length c0] w fun e w' => e = .returned (.bool true) ∧ Below w.heap.size w w' := by
  go_enter Try.func4, Try.ntmps4
  go_wp2_with fail
  refine Calls.mono (Awake.awake _) ?_
  rintro e w1 ⟨rfl, hB⟩
  have HB := Aside0.mk hB
  clear hB
  go_wp2_with fail
  refine Calls.mono (Awake.awake _) ?_
  rintro e w2 ⟨rfl, hB⟩
  have HB2 := Aside0.mk (below_step HB.out hB)
  clear hB HB
  go_wp2
  go_ret
  exact ⟨rfl, HB2.out⟩

theorem tmod_in (a n : Int) (hn : 0 < n) : -n < a.tmod n ∧ a.tmod n < n := by
  have h1 := Int.tmod_lt_of_pos a hn
  have h2 : -n < a.tmod n := by
    rcases Int.le_total 0 a with h | h
    · have := Int.tmod_nonneg n h; omega
    · have h3 : (-a).tmod n < n := Int.tmod_lt_of_pos _ hn
      rw [Int.neg_tmod] at h3; omega
  exact ⟨h2, h1⟩

theorem ins3 {B : Nat} {w W : World} (h : Below B w W) (hB : B ≤ W.heap.size) (o o' o'' : Obj) : Below B w (((W.alloc o).alloc o').alloc o'') := (ins2 h hB o o').alloc (by simp; omega) o''
theorem Kept3 {w : World} (o o' o'' : Obj) : Below w.heap.size w (((w.alloc o).alloc o').alloc o'') := ins3 (Below.refl _ _) (Nat.le_refl _) o o' o''

/-- What an append of k noughts leaves. -/
def After (w1 wc : World) (room used kn : Nat) (f : Int) : Prop :=
  Below w1.heap.size w1 wc ∧ ((f = 0 ∧ used + kn ≤ room ∧ ∃ ys : List Int, ys.length = used + kn ∧ IsD w1.heap.size (fun k => w1.heap.size ≤ k ∧ k < wc.heap.size) wc w1.heap.size room 0 ys) ∨
    (f = 50 ∧ ¬ used + kn ≤ room ∧ ∃ ys : List Int, ys.length = used ∧ IsD w1.heap.size (fun k => w1.heap.size ≤ k ∧ k < wc.heap.size) wc w1.heap.size room 0 ys))
open Classical in
theorem after_of {w1 W : World} {room used kn : Nat} {xs : List Int} {A : Option Addr} {c : Nat} {za zb : List Int} {ok : Nat → Prop} (hx : xs.length = used) (hz : za.length + zb.length = kn) (hu : used ≤ room) (hr : room ≤ 1073741824) (hk : kn ≤ 1000)
    (hI : IsD w1.heap.size ok W w1.heap.size room 0 xs) (hB : Below w1.heap.size w1 W) (hA : ∀ W', Kept W W' ok → Kd.C (Kd.slice 5 (Kd.int .u8)) W' A [za, zb].length [za, zb]) (hc : 2 ≤ c) :
    Calls Try.prog 9 #[.pointer (some ⟨w1.heap.size, 0, none⟩), .slice A 2 c] W fun e w' => ∃ f : Int, e = .returned (.int .i64 f) ∧ Aside0 (After w1 w' room used kn f) := by
  have h := append_any w1.heap.size (room : Int) 0 xs A c [za, zb] ok w1 W hI hB hA hc (by simp) (by intro b hb; rcases List.mem_cons.1 hb with rfl | hb; · omega
                                                                                                     · rw [List.mem_singleton.1 hb]; omega) (by omega) (by omega)
  have ht : tot [za, zb] = kn := by simp [tot, hz]
  refine h.mono ?_
  rintro e w' ⟨rfl, hI2, hB2, -⟩
  refine ⟨_, rfl, ⟨hB2, ?_⟩⟩
  by_cases hf : Fits (room : Int) xs.length [za, zb]
  · have hf' := hf
    unfold Fits at hf'
    rw [ht] at hf'
    simp only [if_pos hf] at hI2 ⊢
    exact .inl ⟨trivial, by omega, _, by simp only [List.length_append, List.flatten_cons, List.flatten_nil, List.length_nil]; omega, IsD_new hI2⟩
  · have hf' := hf
    unfold Fits at hf'
    rw [ht] at hf'
    simp only [if_neg hf] at hI2 ⊢
    exact .inr ⟨trivial, by omega, _, hx, IsD_new hI2⟩

set_option maxHeartbeats 8000000 in
set_option maxRecDepth 100000 in
theorem main_ (room : Int) (A0 : Option Addr) (c0 : Nat) (l0 : List Int) (w : World) (hC0 : (Kd.int .i64).C w A0 l0.length l0) (hl0 : l0.length ≤ c0) (h0 : l0.length ≤ 60) :
    Calls Try.prog 4 #[.int .i64 room, .slice A0 l0.length c0] w fun e w' => e = .returned (.bool true) ∧ Below w.heap.size w w' := by
  have HC0 := Aside0.mk hC0
  clear hC0
  have h0' : decide (60 < (l0.length : Int)) = false := decide_eq_false (by omega)
  obtain ⟨m1, m2⟩ := tmod_in room 500 (by omega)
  go_enter Try.func4, Try.ntmps4
  go_wp2_with fail
  refine Calls.mono (Awake.awake _) ?_
  rintro e w1 ⟨rfl, hB⟩
  have HB1 := Aside0.mk hB
  have HC1 := Aside0.mk (Kd.C_below HC0.out hB)
  clear hB HC0
  obtain ⟨n, hn⟩ : ∃ n, (room.tmod 500 + 500) % 500 = n := ⟨_, rfl⟩
  have n0 : 0 ≤ n := by omega
  have n1 : n ≤ 499 := by omega
  obtain ⟨nn, rfl⟩ : ∃ nn : Nat, n = (nn : Int) := ⟨n.toNat, by omega⟩
  go_wp2_with fail
  rw [hn]
  refine Calls.mono (new_ok (nn : Int) w1 (by omega) (by omega)) ?_
  rintro e w2 ⟨rfl, hI, hB⟩
  have HI := Aside0.mk (IsD_new hI)
  have HB := Aside0.mk hB
  clear hI hB hn m1 m2
  go_wp2_with fail
  go_loopg [8, 9] (l0.length) (fun kq v8 v9 wr => ∃ (i used : Nat) (xs : List Int), v8 = .int .i64 used ∧ v9 = .int .i64 i ∧ Aside0 (i + kq = l0.length) ∧ i ≤ l0.length ∧ used ≤ nn ∧ Aside0 (xs.length = used) ∧ Aside0 (IsD w1.heap.size (fun k => w1.heap.size ≤ k ∧ k < wr.heap.size) wr w1.heap.size nn 0 xs) ∧ Aside0 (Below w1.heap.size w1 wr))
  case atStart => exact ⟨0, 0, [], rfl, rfl, ⟨by omega⟩, Nat.zero_le _, Nat.zero_le _, ⟨rfl⟩, HI, HB⟩
  case round =>
    clear HI HB
    obtain ⟨i, used, xs, rfl, rfl, HQ, hi, hu, HX, HI, HB⟩ := hrel
    by_cases hlt : i < l0.length
    · obtain ⟨ad, e1, hx⟩ := Kd.at_int (Kd.C_below HC1.out HB.out) (i : Int) (by omega) (by omega)
      obtain ⟨z, hz⟩ : ∃ z, z = rd l0 (i : Int) := ⟨_, rfl⟩
      rw [Int.toNat_natCast, ← hz] at hx
      clear hz
      cases e1
      obtain ⟨m1, m2⟩ := tmod_in z 90 (by omega)
      obtain ⟨k, hk⟩ : ∃ k, (z.tmod 90 + 90) % 90 = k := ⟨_, rfl⟩
      have k0 : 0 ≤ k := by omega
      have k1 : k ≤ 89 := by omega
      obtain ⟨kn, rfl⟩ : ∃ kn : Nat, k = (kn : Int) := ⟨k.toNat, by omega⟩
      obtain ⟨ka, hka⟩ : ∃ ka, ka = kn / 2 := ⟨_, rfl⟩
      obtain ⟨kb, hkb⟩ : ∃ kb, kb = kn - kn / 2 := ⟨_, rfl⟩
      have hab : ka + kb = kn := by omega
      have ha9 : ka ≤ 89 := by omega
      have hb9 : kb ≤ 89 := by omega
      have hda : (kn : Int) / 2 = (ka : Int) := by omega
      have hdb : (kn : Int) - (ka : Int) = (kb : Int) := by omega
      have hwa : IntKind.i64.wrap (ka : Int) = (ka : Int) := by rw [IntKind.wrap_i64]; omega
      have hwb : IntKind.i64.wrap (kb : Int) = (kb : Int) := by rw [IntKind.wrap_i64]; omega
      have hmka := mk_zeros ka (ka : Int) rfl (by omega)
      have hmkb := mk_zeros kb (kb : Int) rfl (by omega)
      obtain ⟨za, hza⟩ : ∃ za : List Int, za = List.replicate ka 0 := ⟨_, rfl⟩
      obtain ⟨zb, hzb⟩ : ∃ zb : List Int, zb = List.replicate kb 0 := ⟨_, rfl⟩
      rw [← hza] at hmka
      rw [← hzb] at hmkb
      have HZA := Aside0.mk (show za.length = ka by rw [hza]; simp)
      have HZB := Aside0.mk (show zb.length = kb by rw [hzb]; simp)
      obtain ⟨ya, hya⟩ : ∃ ya, ya = (za.map (Value.int .u8)).toArray := ⟨_, rfl⟩
      obtain ⟨yb, hyb⟩ : ∃ yb, yb = (zb.map (Value.int .u8)).toArray := ⟨_, rfl⟩
      rw [← hya] at hmka
      rw [← hyb] at hmkb
      have HYA := Aside0.mk hya
      have HYB := Aside0.mk hyb
      have HAB := Aside0.mk hab
      have HDB := Aside0.mk hdb
      clear hza hzb hya hyb hka hkb hab
      go_upto_region 12 with (fail)
      rw [hk]
      go_cut [11] (fun v11 wc => ∃ f : Int, v11 = .int .i64 f ∧ Aside0 (After w1 wc nn used kn f))
      case first =>
        refine RegH.startH (fun _ => True) (by kernel_rfl) rfl (True.intro) (fun hS => ?_)
        (refine RegH.tkH (i := 0) (d := 48) (v := ?_) rfl rfl (by kernel_rfl) (by kernel_rfl) (by kernel_rfl) (fun _ _ _ h => h) (Or.inl ⟨by rfl, ?_⟩) hS ?_; rotate_left; (intro w hSw; (try dsimp only at hSw); go_simp); try (with_reducible rfl))
        try simp only [Act.put, List.setIfInBounds_toArray, List.set_cons_zero, List.set_cons_succ]
        (refine RegH.tkH (i := 1) (d := 49) (v := ?_) rfl rfl (by kernel_rfl) (by kernel_rfl) (by kernel_rfl) (fun _ _ _ h => h) (Or.inl ⟨by rfl, ?_⟩) hS ?_; rotate_left; (intro w hSw; (try dsimp only at hSw); go_simp); try (with_reducible rfl))
        try simp only [Act.put, List.setIfInBounds_toArray, List.set_cons_zero, List.set_cons_succ]
        (refine RegH.tkH (i := 2) (d := 50) (v := ?_) rfl rfl (by kernel_rfl) (by kernel_rfl) (by kernel_rfl) (fun _ _ _ h => h) (Or.inl ⟨by rfl, ?_⟩) hS ?_; rotate_left; (intro w hSw; (try dsimp only at hSw); go_simp); try (with_reducible rfl))
        try simp only [Act.put, List.setIfInBounds_toArray, List.set_cons_zero, List.set_cons_succ]
        (refine RegH.tkH (i := 4) (d := 52) (v := ?_) rfl rfl (by kernel_rfl) (by kernel_rfl) (by kernel_rfl) (fun _ _ _ h => h) (Or.inl ⟨by rfl, ?_⟩) hS ?_; rotate_left; (intro w hSw; (try dsimp only at hSw); go_simp); try (with_reducible rfl))
        try simp only [Act.put, List.setIfInBounds_toArray, List.set_cons_zero, List.set_cons_succ]
        (refine RegH.tkH (i := 5) (d := 53) (v := ?_) rfl rfl (by kernel_rfl) (by kernel_rfl) (by kernel_rfl) (fun _ _ _ h => h) (Or.inl ⟨by rfl, ?_⟩) hS ?_; rotate_left; (intro w hSw; (try dsimp only at hSw); go_simp); try (with_reducible rfl))
        try simp only [Act.put, List.setIfInBounds_toArray, List.set_cons_zero, List.set_cons_succ]
        (refine RegH.tkH (i := 6) (d := 54) (v := ?_) rfl rfl (by kernel_rfl) (by kernel_rfl) (by kernel_rfl) (fun _ _ _ h => h) (Or.inl ⟨by rfl, ?_⟩) hS ?_; rotate_left; (intro w hSw; (try dsimp only at hSw); go_simp); try (with_reducible rfl))
        try simp only [Act.put, List.setIfInBounds_toArray, List.set_cons_zero, List.set_cons_succ]
        (refine RegH.tkH (i := 7) (d := 55) (v := ?_) rfl rfl (by kernel_rfl) (by kernel_rfl) (by kernel_rfl) (fun _ _ _ h => h) (Or.inl ⟨by rfl, ?_⟩) hS ?_; rotate_left; (intro w hSw; (try dsimp only at hSw); go_simp); try (with_reducible rfl))
        try simp only [Act.put, List.setIfInBounds_toArray, List.set_cons_zero, List.set_cons_succ]
        refine RegH.twoH (i := 3) (j := 8) (by kernel_rfl) rfl rfl (fun K hK => ?_) (fun K hK => ?_)
        · go_simp
          refine hK.out _ _ (True.intro) (fun hS => ?_)
          clear hK K
          try simp only [Act.put, List.setIfInBounds_toArray, List.set_cons_zero, List.set_cons_succ]
          refine RegH.oneH (i := 8) (by kernel_rfl) rfl (fun K hK => ?_)
          go_simp
          refine hK.out _ _ (True.intro) (fun hS => ?_)
          clear hK K
          try simp only [Act.put, List.setIfInBounds_toArray, List.set_cons_zero, List.set_cons_succ]
          refine RegH.oneH (i := 9) (by kernel_rfl) rfl (fun K hK => ?_)
          go_simp
          refine hK.out _ _ (True.intro) (fun hS => ?_)
          clear hK K
          try simp only [Act.put, List.setIfInBounds_toArray, List.set_cons_zero, List.set_cons_succ]
          refine RegH.oneH (i := 10) (by kernel_rfl) rfl (fun K hK => ?_)
          go_simp
          refine Calls.mono (after_of (za := za) (zb := zb) (kn := kn) (room := nn) (used := used) (ok := fun k => w1.heap.size ≤ k ∧ k < wr.heap.size) HX.out (by rw [HZA.out, HZB.out]; exact HAB.out) hu (by omega) (by omega) (HI.out.drew.below (Kept3 (w := wr.drew) _ _ _)) (ins3 (below_drew1 HB.out) HB.out.size _ _ _)
            (two_args (lit_piece (t := 5) (by rw [HZA.out]; omega) (by rw [← HYA.out]; exact (blk_alloc (blk_alloc (heap_alloc_new wr.drew _) _) _)) (fun h => by have h1 := h.2; have h2 : wr.drew.heap.size = wr.heap.size := rfl; omega)) (lit_piece (t := 5) (by rw [HZB.out]; omega) (by rw [← HYB.out]; exact (old1 wr.drew _ _ _)) (fun h => by have h1 := h.2; have h2 : wr.drew.heap.size = wr.heap.size := rfl; omega)) (by rw [HZA.out, HZB.out]; exact (new2 wr.drew _ _ _)) (fun h => by have h1 := h.2; have h2 : wr.drew.heap.size = wr.heap.size := rfl; omega) (Nat.le_of_eq HZA.out) (Nat.le_of_eq HZB.out)) (Nat.le_refl 2)) ?_
          rintro e w5 ⟨f, rfl, HF⟩
          go_wp2_with (fail)
          refine hK.out _ _ (True.intro) (fun hS => ?_)
          clear hK K
          try simp only [Act.put, List.setIfInBounds_toArray, List.set_cons_zero, List.set_cons_succ]
          (refine RegH.tkH (i := 11) (d := 11) (v := ?_) rfl rfl (by kernel_rfl) (by kernel_rfl) (by kernel_rfl) (fun _ _ _ h => h) (Or.inl ⟨by rfl, ?_⟩) hS ?_; rotate_left; (intro w hSw; (try dsimp only at hSw); go_simp); try (with_reducible rfl))
          try simp only [Act.put, List.setIfInBounds_toArray, List.set_cons_zero, List.set_cons_succ]
          refine wpAnyH_done (by kernel_rfl) ?_ _
          go_wp2
          go_meet
          case rel => exact ⟨_, rfl, HF⟩
        · go_simp
          refine hK.out _ _ (True.intro) (fun hS => ?_)
          clear hK K
          try simp only [Act.put, List.setIfInBounds_toArray, List.set_cons_zero, List.set_cons_succ]
          refine RegH.oneH (i := 3) (by kernel_rfl) rfl (fun K hK => ?_)
          go_simp
          refine hK.out _ _ (True.intro) (fun hS => ?_)
          clear hK K
          try simp only [Act.put, List.setIfInBounds_toArray, List.set_cons_zero, List.set_cons_succ]
          refine RegH.oneH (i := 9) (by kernel_rfl) rfl (fun K hK => ?_)
          go_simp
          refine hK.out _ _ (True.intro) (fun hS => ?_)
          clear hK K
          try simp only [Act.put, List.setIfInBounds_toArray, List.set_cons_zero, List.set_cons_succ]
          refine RegH.oneH (i := 10) (by kernel_rfl) rfl (fun K hK => ?_)
          go_simp
          refine Calls.mono (after_of (za := za) (zb := zb) (kn := kn) (room := nn) (used := used) (ok := fun k => w1.heap.size ≤ k ∧ k < wr.heap.size) HX.out (by rw [HZA.out, HZB.out]; exact HAB.out) hu (by omega) (by omega) (HI.out.drew.below (Kept3 (w := wr.drew) _ _ _)) (ins3 (below_drew1 HB.out) HB.out.size _ _ _)
            (two_args (lit_piece (t := 5) (by rw [HZA.out]; omega) (by rw [← HYA.out]; exact (old1 wr.drew _ _ _)) (fun h => by have h1 := h.2; have h2 : wr.drew.heap.size = wr.heap.size := rfl; omega)) (lit_piece (t := 5) (by rw [HZB.out]; omega) (by rw [← HYB.out]; exact (blk_alloc (blk_alloc (heap_alloc_new wr.drew _) _) _)) (fun h => by have h1 := h.2; have h2 : wr.drew.heap.size = wr.heap.size := rfl; omega)) (by rw [HZA.out, HZB.out]; exact (new2 wr.drew _ _ _)) (fun h => by have h1 := h.2; have h2 : wr.drew.heap.size = wr.heap.size := rfl; omega) (Nat.le_of_eq HZA.out) (Nat.le_of_eq HZB.out)) (Nat.le_refl 2)) ?_
          rintro e w5 ⟨f, rfl, HF⟩
          go_wp2_with (fail)
          refine hK.out _ _ (True.intro) (fun hS => ?_)
          clear hK K
          try simp only [Act.put, List.setIfInBounds_toArray, List.set_cons_zero, List.set_cons_succ]
          (refine RegH.tkH (i := 11) (d := 11) (v := ?_) rfl rfl (by kernel_rfl) (by kernel_rfl) (by kernel_rfl) (fun _ _ _ h => h) (Or.inl ⟨by rfl, ?_⟩) hS ?_; rotate_left; (intro w hSw; (try dsimp only at hSw); go_simp); try (with_reducible rfl))
          try simp only [Act.put, List.setIfInBounds_toArray, List.set_cons_zero, List.set_cons_succ]
          refine wpAnyH_done (by kernel_rfl) ?_ _
          go_wp2
          go_meet
          case rel => exact ⟨_, rfl, HF⟩
      case rest =>
        obtain ⟨f, rfl, HF⟩ := hcut
        obtain ⟨hBc, hcase⟩ := HF.out
        have HBc := Aside0.mk hBc
        clear hBc HF hmka hmkb hwa hwb hda hk m1 m2 HI HB HX hx
        rcases hcase with ⟨rfl, hfit, ys, hy, hIc⟩ | ⟨rfl, hfit, ys, hy, hIc⟩
        · have HIc := Aside0.mk hIc
          have HY := Aside0.mk hy
          have HYI := Aside0.mk (show ((ys.length : Nat) : Int) = (used : Int) + (kn : Int) by omega)
          clear hIc hy
          go_wp2_with (fail)
          have h1 := len w1.heap.size (nn : Int) 0 ys _ w1 wc HIc.out HBc.out
          rw [HYI.out] at h1
          refine Calls.mono h1 ?_
          rintro e w5 ⟨rfl, -, hI, hB, -⟩
          have HI5 := Aside0.mk hI
          have HB5 := Aside0.mk hB
          clear hI hB HIc HBc h1
          go_wp2_with (fail)
          have h1 := left w1.heap.size (nn : Int) 0 ys _ w1 _ HI5.out HB5.out
          rw [show wrap64 ((nn : Int) - ((ys.length : Nat) : Int)) = (nn : Int) - ((used : Int) + (kn : Int)) by rw [HYI.out]; unfold wrap64; omega] at h1
          refine Calls.mono h1 ?_
          rintro e w6 ⟨rfl, -, hI, hB, -⟩
          have HI6 := Aside0.mk hI
          have HB6 := Aside0.mk hB
          clear hI hB HI5 HB5 h1
          go_wp2_with (fail)
          refine Calls.mono (safe_ w1.heap.size (nn : Int) 0 ys _ w1 _ HI6.out HB6.out) ?_
          rintro e w7 ⟨rfl, -, hI, hB, -⟩
          have HI7 := Aside0.mk (IsD_new hI)
          have HB7 := Aside0.mk hB
          clear hI hB HI6 HB6
          go_wp2_with (fail)
          go_roundg (l0.length - (i + 1))
          case measure => have := HQ.out; omega
          case rel => exact ⟨i + 1, used + kn, ys, by go_num, by go_num, ⟨by omega⟩, by omega, by omega, HY, HI7, HB7⟩
        · have HIc := Aside0.mk hIc
          have HY := Aside0.mk hy
          have HYI := Aside0.mk (show ((ys.length : Nat) : Int) = (used : Int) by omega)
          clear hIc hy
          go_wp2_with (fail)
          have h1 := len w1.heap.size (nn : Int) 0 ys _ w1 wc HIc.out HBc.out
          rw [HYI.out] at h1
          refine Calls.mono h1 ?_
          rintro e w5 ⟨rfl, -, hI, hB, -⟩
          have HI5 := Aside0.mk hI
          have HB5 := Aside0.mk hB
          clear hI hB HIc HBc h1
          go_wp2_with (fail)
          have h1 := left w1.heap.size (nn : Int) 0 ys _ w1 _ HI5.out HB5.out
          rw [show wrap64 ((nn : Int) - ((ys.length : Nat) : Int)) = (nn : Int) - (used : Int) by rw [HYI.out]; unfold wrap64; omega] at h1
          refine Calls.mono h1 ?_
          rintro e w6 ⟨rfl, -, hI, hB, -⟩
          have HI6 := Aside0.mk hI
          have HB6 := Aside0.mk hB
          clear hI hB HI5 HB5 h1
          go_wp2_with (fail)
          refine Calls.mono (safe_ w1.heap.size (nn : Int) 0 ys _ w1 _ HI6.out HB6.out) ?_
          rintro e w7 ⟨rfl, -, hI, hB, -⟩
          have HI7 := Aside0.mk (IsD_new hI)
          have HB7 := Aside0.mk hB
          clear hI hB HI6 HB6
          go_wp2_with (fail)
          go_roundg (l0.length - (i + 1))
          case measure => have := HQ.out; omega
          case rel => exact ⟨i + 1, used, ys, rfl, by go_num, ⟨by omega⟩, by omega, hu, HY, HI7, HB7⟩
    · obtain ⟨kc, hkc⟩ : ∃ kc, kc = nn - used := ⟨_, rfl⟩
      have hdc : (nn : Int) - (used : Int) = (kc : Int) := by omega
      have hkc1 : kc + used ≤ nn := by omega
      have hkc2 : nn ≤ kc + used := by omega
      clear hkc
      have hmkc := mk_zeros kc (kc : Int) rfl (by omega)
      obtain ⟨zc, hzc⟩ : ∃ zc : List Int, zc = List.replicate kc 0 := ⟨_, rfl⟩
      rw [← hzc] at hmkc
      have HZC := Aside0.mk (show zc.length = kc by rw [hzc]; simp)
      obtain ⟨yc, hyc⟩ : ∃ yc, yc = (zc.map (Value.int .u8)).toArray := ⟨_, rfl⟩
      rw [← hyc] at hmkc
      have HYC := Aside0.mk hyc
      have HXI := Aside0.mk (show ((xs.length : Nat) : Int) = (used : Int) by rw [HX.out])
      clear hzc hyc
      go_wp2_with (fail)
      have h1 := flush w1.heap.size (nn : Int) 0 xs _ w1 wr HI.out HB.out
      rw [HXI.out] at h1
      refine Calls.mono h1 ?_
      rintro e w5 ⟨rfl, hI, hB, -⟩
      have HI5 := Aside0.mk (IsD_new hI)
      have HB5 := Aside0.mk hB
      clear hI hB HI HB h1
      go_wp2_with (fail)
      refine Calls.mono (safe_ w1.heap.size (nn : Int) (used : Int) xs _ w1 _ HI5.out HB5.out) ?_
      rintro e w6 ⟨rfl, -, hI, hB, -⟩
      have HI6 := Aside0.mk (IsD_new hI)
      have HB6 := Aside0.mk hB
      clear hI hB HI5 HB5
      go_wp2_with (fail)
      refine Calls.mono (append_ok w1.heap.size (nn : Int) (used : Int) xs _ 1 [zc] _ w1 ((w6.alloc (.cells yc 5)).alloc (.cells #[.slice (some ⟨w6.heap.size, 0, none⟩) kc kc] 28)) (HI6.out.below (ins2 (Below.refl _ _) (Nat.le_refl _) _ _)) (ins2 HB6.out HB6.out.size _ _)
        (one_args (lit_piece (t := 5) (by rw [HZC.out]; omega) (by rw [← HYC.out]; exact (blk_alloc (heap_alloc_new w6 _) _)) (fun h => by have h1 := h.2; omega)) (by rw [HZC.out]; exact (new1 w6 _ _)) (fun h => by have h1 := h.2; omega) (Nat.le_of_eq HZC.out)) (by simp) (by simp) (by omega) (by simp only [tot, List.flatten_cons, List.flatten_nil, List.append_nil]; rw [HZC.out, HX.out]; omega)) ?_
      rintro e w7 ⟨rfl, hI, hB, -⟩
      simp only [List.flatten_cons, List.flatten_nil, List.append_nil] at hI
      obtain ⟨zs, hzs⟩ : ∃ zs, zs = xs ++ zc := ⟨_, rfl⟩
      rw [← hzs] at hI
      have HZI := Aside0.mk (show zs.length = nn by rw [hzs, List.length_append, HX.out, HZC.out]; omega)
      have HI7 := Aside0.mk (IsD_new hI)
      have HB7 := Aside0.mk hB
      clear hI hB HI6 HB6 hzs
      go_wp2_with (fail)
      have h1 := left w1.heap.size (nn : Int) (used : Int) zs _ w1 _ HI7.out HB7.out
      rw [show wrap64 ((nn : Int) - ((zs.length : Nat) : Int)) = 0 by rw [HZI.out]; unfold wrap64; omega] at h1
      refine Calls.mono h1 ?_
      rintro e w8 ⟨rfl, -, hI, hB, -⟩
      have HI8 := Aside0.mk (IsD_new hI)
      have HB8 := Aside0.mk hB
      clear hI hB HI7 HB7 h1
      go_wp2_with (fail)
      refine Calls.mono (append_full w1.heap.size (nn : Int) (used : Int) zs _ 1 [[1]] _ w1 ((w8.alloc (.cells #[.int .u8 1] 5)).alloc (.cells #[.slice (some ⟨w8.heap.size, 0, none⟩) 1 1] 28)) (HI8.out.below (ins2 (Below.refl _ _) (Nat.le_refl _) _ _)) (ins2 HB8.out HB8.out.size _ _)
        (lit_args (t := 5) (t' := 28) (mk := (0, 0)) (mk' := (0, 0)) (p := w8.heap.size) (l := [1]) (c := 1) (by simp) (blk_alloc (heap_alloc_new w8 _) _) (new1 w8 _ _) (fun h => by have h1 := h.2; omega) (fun h => by have h1 := h.2; omega) (by simp)) (by simp) (by simp) (by simp) (by rw [HZI.out]; omega) (by omega) (by simp only [tot]; rw [HZI.out]; simp; omega)) ?_
      rintro e w9 ⟨rfl, hI, hB, -⟩
      have HB9 := Aside0.mk hB
      clear hI hB HI8 HB8
      go_wp2
      go_ret
      exact ⟨rfl, below_step HB1.out HB9.out⟩

theorem walk (room : Int) (A0 : Option Addr) (c0 : Nat) (l0 : List Int) (w : World) (hC0 : (Kd.int .i64).C w A0 l0.length l0) (hl0 : l0.length ≤ c0) :
    Calls Try.prog 4 #[.int .i64 room, .slice A0 l0.length c0] w fun e w' => e = .returned (.bool true) ∧ Below w.heap.size w w' := by
  by_cases h : 60 < l0.length
  · exact many room A0 c0 l0 w h hC0.2.1
  · exact main_ room A0 c0 l0 w hC0 hl0 (by omega)

end Go.Proofs.Ytabiloklphjeiaa.Rooms
