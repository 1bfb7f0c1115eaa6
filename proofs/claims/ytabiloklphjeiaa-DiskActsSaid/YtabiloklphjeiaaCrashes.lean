/-
  DiskCrash walked: the law's function returns true for every argument; nothing that was there is written.
-/
import Derived.Test.YtabiloklphjeiaaProg
import Derived.Test.YtabiloklphjeiaaDisk
import Derived.Test.YtabiloklphjeiaaDskB
import Derived.Test.YtabiloklphjeiaaDskC
import Derived.Test.YtabiloklphjeiaaMem
import Derived.Test.YtabiloklphjeiaaAwake
import Derived.Test.YtabiloklphjeiaaReg
import Derived.Below
import Derived.Deep.Draws
import Derived.Deep.AppendLies
import Derived.Maps.AppendAt
import Derived.OwnWalk
import Derived.Laws.BytesArg
import Derived.Laws.MakeOwn
import Derived.Laws.OwnMore
import Derived.Deep.OwnRows
import Derived.Tactics
import Derived.Lib.ConvBytes
import Derived.Laws.Slices
import Derived.WalkKit
import Derived.KernelRfl
import Derived.RowKit3
import Derived.Deep.LoopGhost
import Derived.Deep.QuietTactic
import Derived.BigQuiet
import Derived.WideLaws
import Derived.Deep.DeepCutAuto
import Derived.Deep.CutBlock
import Derived.Deep.RegionHeld3
import Derived.Laws.Rows
import Derived.Lib.AppendStr
import Derived.ArgAppend
import Derived.Laws.IdiomCopy
import Derived.OrdersHeld
import Derived.Laws.BitsLemmas
import Derived.RowKit
import Derived.Lib.SliceRun
import Derived.Test.YtabiloklphjeiaaWWords
import Derived.Test.YtabiloklphjeiaaWLast
import Derived.Test.YtabiloklphjeiaaWTab
import Derived.Test.YtabiloklphjeiaaWFour
import Derived.Test.YtabiloklphjeiaaWQPut
import Derived.Test.YtabiloklphjeiaaWApart
import Derived.Test.YtabiloklphjeiaaWArr
import Derived.Test.YtabiloklphjeiaaWZeros
import Derived.Test.YtabiloklphjeiaaWFoot
import Derived.Test.YtabiloklphjeiaaWKept
import Derived.Test.YtabiloklphjeiaaWShare
import Derived.Test.YtabiloklphjeiaaWN
import Derived.Test.YtabiloklphjeiaaWFootNe
import Derived.Test.YtabiloklphjeiaaWAt
import Derived.Test.YtabiloklphjeiaaWEqStruct
import Derived.Test.YtabiloklphjeiaaWRepsOne
import Derived.Test.YtabiloklphjeiaaWInv
import Derived.Test.YtabiloklphjeiaaWInvWords
import Derived.Test.YtabiloklphjeiaaWGuard
import Derived.Test.YtabiloklphjeiaaWNEv
import Derived.Test.YtabiloklphjeiaaWMore
namespace Go.Proofs.Ytabiloklphjeiaa.Crashes
open Go.RowKit Go.Proofs.YtabiloklphjeiaaW.PrintWords Go.Proofs.YtabiloklphjeiaaW.PrintLast Go.Proofs.YtabiloklphjeiaaW.PrintMore
set_option linter.unusedVariables false
set_option linter.unusedSimpArgs false
open Disk DskB DskC Mem
attribute [local go_sem] max2_int min2_int max_two min_two
theorem str_app (a b : List Int) : strOfNums (a ++ b) = strOfNums a ++ strOfNums b := by
  apply ByteArray.ext
  simp [strOfNums]
theorem str_cut (l : List Int) (k : Nat) (h : k ≤ l.length) : (strOfNums l).extract 0 k = strOfNums (l.take k) := by
  apply ByteArray.ext
  apply Array.ext'
  simp [strOfNums, ByteArray.data_extract]
theorem IsD_new {base : Nat} {ok : Nat → Prop} {W : World} {g : Nat} {room safe : Int} {xs : List Int} (h : IsD base ok W g room safe xs) : IsD base (fun k => base ≤ k ∧ k < W.heap.size) W g room safe xs := by
  obtain ⟨A, c, hb, hg, ho, hr⟩ := h
  exact ⟨A, c, hb, hg, ⟨hg, blk_lt hb⟩, Kd.R_mono (Kd.R_bound hr) (fun k hk => ⟨⟨hk.2.1, hk.2.2.1⟩, hk.1.2⟩)⟩
set_option maxHeartbeats 4000000 in
set_option maxRecDepth 100000 in
theorem many (A0 : Option Addr) (c0 : Nat) (sa : List (List Int)) (A1 : Option Addr) (c1 : Nat) (re : List (List Int)) (keep : Int) (w : World) (h : 10 < sa.length ∨ 10 < re.length) (hm0 : sa.length ≤ 9223372036854775807) (hm1 : re.length ≤ 9223372036854775807) :
    Calls Try.prog 3 #[.slice A0 sa.length c0, .slice A1 re.length c1, .int .i64 keep] w fun e w' => e = .returned (.bool true) ∧ Below w.heap.size w w' := by
  by_cases h0 : 10 < sa.length
  · clear h
    go_enter Try.func3, Try.ntmps3
    go_wp2_with fail
    refine Calls.mono (Awake.awake _) ?_
    rintro e w1 ⟨rfl, hB⟩
    have HB := Aside0.mk hB
    clear hB
    go_wp2_with fail
    refine Calls.mono (Awake.awake _) ?_
    rintro e w2 ⟨rfl, hB⟩
    have HB2 := Aside0.mk (below_step HB.out hB)
    clear hB HB
    go_wp2
    go_ret
    exact ⟨rfl, HB2.out⟩
  · have h1 : 10 < re.length := by omega
    clear h
    go_enter Try.func3, Try.ntmps3
    go_wp2_with fail
    refine Calls.mono (Awake.awake _) ?_
    rintro e w1 ⟨rfl, hB⟩
    have HB := Aside0.mk hB
    clear hB
    go_wp2_with fail
    refine Calls.mono (Awake.awake _) ?_
    rintro e w2 ⟨rfl, hB⟩
    have HB2 := Aside0.mk (below_step HB.out hB)
    clear hB HB
    go_wp2
    go_ret
    exact ⟨rfl, HB2.out⟩
set_option maxHeartbeats 4000000 in
set_option maxRecDepth 100000 in
theorem main_ (A0 : Option Addr) (c0 : Nat) (sa : List (List Int)) (A1 : Option Addr) (c1 : Nat) (re : List (List Int)) (keep : Int) (w : World) (hC0 : Kd.C (Kd.slice 5 (Kd.int .u8)) w A0 sa.length sa) (hC1 : Kd.C (Kd.slice 5 (Kd.int .u8)) w A1 re.length re) (h0 : sa.length ≤ 10) (h1 : re.length ≤ 10) (hl0 : sa.length ≤ c0) (hl1 : re.length ≤ c1) :
    Calls Try.prog 3 #[.slice A0 sa.length c0, .slice A1 re.length c1, .int .i64 keep] w fun e w' => e = .returned (.bool true) ∧ Below w.heap.size w w' := by
  have HC0 := Aside0.mk hC0
  have HC1 := Aside0.mk hC1
  clear hC0 hC1
  go_enter Try.func3, Try.ntmps3
  go_wp2_with fail
  refine Calls.mono (Awake.awake _) ?_
  rintro e w1 ⟨rfl, hB⟩
  have HB1 := Aside0.mk hB
  clear hB
  go_wp2_with fail
  have HC0b := Aside0.mk (Kd.C_below HC0.out HB1.out)
  have HC1b := Aside0.mk (Kd.C_below HC1.out HB1.out)
  clear HC0 HC1
  refine Calls.mono (new_ok 1048576 w1 (by decide) (by decide)) ?_
  rintro e w2 ⟨rfl, hI, hB⟩
  have HI := Aside0.mk (IsD_new hI)
  have HB := Aside0.mk hB
  clear hI hB
  have h0' : decide (10 < (sa.length : Int)) = false := decide_eq_false (by omega)
  have h1' : decide (10 < (re.length : Int)) = false := decide_eq_false (by omega)
  go_wp2_with fail
  obtain ⟨wo, hwo⟩ : ∃ wo : World, wo = w2 := ⟨_, rfl⟩
  subst hwo
  go_loopg [9, 11] (sa.length) (fun kq v9 v11 wr => ∃ (k : Nat) (s : ByteArray), v9 = .string s ∧ v11 = .int .i64 k ∧ Aside0 (k + kq = sa.length) ∧ k ≤ sa.length ∧ Aside0 (s = strOfNums (sa.take k).flatten) ∧ s.size ≤ 1000 * k ∧ Aside0 (wr = wo))
  case atStart => exact ⟨0, _, rfl, rfl, ⟨by omega⟩, Nat.zero_le _, ⟨by simp; rfl⟩, Nat.le_refl 0, ⟨rfl⟩⟩
  case round =>
    obtain ⟨k, s, rfl, rfl, HQ, hk, HS, hs, HW⟩ := hrel
    have hw := HW.out
    subst hw
    clear HW
    by_cases hlt : k < sa.length
    · obtain ⟨ad, A2, c2, e1, hx, hl2, hC⟩ := at_piece (Kd.C_below HC0b.out HB.out) (k : Int) (by omega) (by omega)
      rw [piece_nat sa k hlt] at hx hl2 hC
      have hfs := flat_succ sa k hlt
      obtain ⟨b, hb0⟩ : ∃ b, b = sa[k] := ⟨_, rfl⟩
      rw [← hb0] at hx hl2 hC hfs
      rw [Int.toNat_natCast] at hx
      have HFS := Aside0.mk hfs
      have hcv := Kd.C_string (P := Try.prog) (c := c2) Try.underlying28 Try.underlying5 Try.underlying9 hC
      obtain ⟨tx, htx⟩ : ∃ tx, tx = strOfNums b := ⟨_, rfl⟩
      rw [← htx] at hcv
      have HTX := Aside0.mk htx
      clear hfs hb0 hl2 hC
      cases e1
      by_cases hbig : 1000 < b.length
      · clear htx
        go_wp2
        go_ret
        exact ⟨rfl, below_step HB1.out HB.out⟩
      · have hts : tx.size ≤ 1000 := by rw [htx, strOfNums_size]; omega
        clear htx
        go_wp2
        go_roundg (sa.length - (k + 1))
        case measure => have := HQ.out; omega
        case rel => exact ⟨k + 1, _, rfl, by go_num, ⟨by omega⟩, by omega, ⟨by rw [HFS.out, str_app, ← HS.out, ← HTX.out]⟩, by rw [ByteArray.size_append]; omega, ⟨rfl⟩⟩
    · have hsa : s = strOfNums sa.flatten := by rw [HS.out, List.take_of_length_le (by omega)]
      have HSA := Aside0.mk hsa
      have hs' : s.size ≤ 10000 := by omega
      clear HS HQ hs hsa
      go_wp2
      clear hk hlt
      obtain ⟨wp, hwp⟩ : ∃ wp : World, wp = wr := ⟨_, rfl⟩
      subst hwp
      go_loopg [10, 12] (re.length) (fun kq v9 v11 wr => ∃ (k : Nat) (s : ByteArray), v9 = .string s ∧ v11 = .int .i64 k ∧ Aside0 (k + kq = re.length) ∧ k ≤ re.length ∧ Aside0 (s = strOfNums (re.take k).flatten) ∧ s.size ≤ 1000 * k ∧ Aside0 (wr = wp))
      case atStart => exact ⟨0, _, rfl, rfl, ⟨by omega⟩, Nat.zero_le _, ⟨by simp; rfl⟩, Nat.le_refl 0, ⟨rfl⟩⟩
      case round =>
        obtain ⟨k, r, rfl, rfl, HQ, hk, HS, hs, HW⟩ := hrel
        have hw := HW.out
        subst hw
        clear HW
        by_cases hlt : k < re.length
        · obtain ⟨ad, A2, c2, e1, hx, hl2, hC⟩ := at_piece (Kd.C_below HC1b.out HB.out) (k : Int) (by omega) (by omega)
          rw [piece_nat re k hlt] at hx hl2 hC
          have hfs := flat_succ re k hlt
          obtain ⟨b, hb0⟩ : ∃ b, b = re[k] := ⟨_, rfl⟩
          rw [← hb0] at hx hl2 hC hfs
          rw [Int.toNat_natCast] at hx
          have HFS := Aside0.mk hfs
          have hcv := Kd.C_string (P := Try.prog) (c := c2) Try.underlying28 Try.underlying5 Try.underlying9 hC
          obtain ⟨tx, htx⟩ : ∃ tx, tx = strOfNums b := ⟨_, rfl⟩
          rw [← htx] at hcv
          have HTX := Aside0.mk htx
          clear hfs hb0 hl2 hC
          cases e1
          by_cases hbig : 1000 < b.length
          · clear htx
            go_wp2
            go_ret
            exact ⟨rfl, below_step HB1.out HB.out⟩
          · have hts : tx.size ≤ 1000 := by rw [htx, strOfNums_size]; omega
            clear htx
            go_wp2
            go_roundg (re.length - (k + 1))
            case measure => have := HQ.out; omega
            case rel => exact ⟨k + 1, _, rfl, by go_num, ⟨by omega⟩, by omega, ⟨by rw [HFS.out, str_app, ← HS.out, ← HTX.out]⟩, by rw [ByteArray.size_append]; omega, ⟨rfl⟩⟩
        · have hre : r = strOfNums re.flatten := by rw [HS.out, List.take_of_length_le (by omega)]
          have HRE := Aside0.mk hre
          have hr' : r.size ≤ 10000 := by omega
          clear HS HQ hs hre
          go_wp2_with fail
          have hsl : s.size = tot sa := by rw [HSA.out, strOfNums_size]; rfl
          have hrl : r.size = tot re := by rw [HRE.out, strOfNums_size]; rfl
          refine Calls.mono (append_ok w1.heap.size 1048576 0 [] A0 c0 sa _ w1 wr HI.out HB.out (Kd.C_kept_came (Kd.heap_slice 5 (Kd.heap_int .u8)) HC0b.out HB.out (fun k h => h.1)) hl0 (by omega) (by omega) (by simp only [List.length_nil]; omega)) ?_
          rintro e w3 ⟨rfl, hI3, hB3, -⟩
          rw [List.nil_append] at hI3
          have HI3 := Aside0.mk (IsD_new hI3)
          have HB3 := Aside0.mk hB3
          have HSL := Aside0.mk hsl
          have HRL := Aside0.mk hrl
          clear hI3 hB3 HI HB hsl hrl
          go_wp2_with fail
          have hfl := flush w1.heap.size 1048576 0 _ _ w1 w3 HI3.out HB3.out
          rw [show ((sa.flatten.length : Nat) : Int) = (s.size : Int) by rw [HSL.out]; rfl] at hfl
          refine Calls.mono hfl ?_
          rintro e w4 ⟨rfl, hI4, hB4, -⟩
          have HI4 := Aside0.mk hI4
          have HB4 := Aside0.mk hB4
          clear hI4 hB4 HI3 HB3 hfl
          go_wp2_with fail
          refine Calls.mono (append_ok w1.heap.size 1048576 s.size sa.flatten A1 c1 re _ w1 w4 HI4.out HB4.out (Kd.C_kept_came (Kd.heap_slice 5 (Kd.heap_int .u8)) HC1b.out HB4.out (fun k h => h.1)) hl1 (by omega) (by omega) (by have := HSL.out; have := HRL.out; unfold tot at *; omega)) ?_
          rintro e w5 ⟨rfl, hI5, hB5, -⟩
          have HI5 := Aside0.mk (IsD_new hI5)
          have HB5 := Aside0.mk hB5
          clear hI5 hB5 HI4 HB4
          go_wp2_with fail
          obtain ⟨kk, hkk⟩ : ∃ kk : Int, kk = (if (r.size : Int) < (if keep < 0 then 0 else keep) then (r.size : Int) else (if keep < 0 then 0 else keep)) := ⟨_, rfl⟩
          have hkb : 0 ≤ kk ∧ kk ≤ r.size := by rw [hkk]; split <;> split <;> omega
          have hlen : ((sa.flatten ++ re.flatten).length : Nat) = s.size + r.size := by rw [List.length_append, HSL.out, HRL.out]; rfl
          have hlf : left' s.size ((sa.flatten ++ re.flatten).length : Nat) keep = (s.size : Int) + kk := by
            rw [hlen, hkk]; unfold left'; split <;> split <;> split <;> (try split) <;> omega
          have hcr := DskB.crash w1.heap.size 1048576 s.size (sa.flatten ++ re.flatten) keep _ w1 w5 HI5.out HB5.out (by omega) (by rw [hlen]; omega) (by rw [hlen]; omega)
          rw [hlf] at hcr
          refine Calls.mono hcr ?_
          rintro e w6 ⟨rfl, hI6, hB6, -⟩
          have HI6 := Aside0.mk hI6
          have HB6 := Aside0.mk hB6
          clear hI6 hB6 HI5 HB5 hcr hlf hlen
          obtain ⟨hk0, hk1⟩ := hkb
          have hkk' := hkk.symm
          clear hkk
          go_wp2_with fail
          all_goals
            obtain ⟨zs, hzs⟩ : ∃ zs, zs = (sa.flatten ++ re.flatten).take ((s.size : Int) + kk).toNat := ⟨_, rfl⟩
            have hzl : (zs.length : Int) = (s.size : Int) + kk := by
              have h1 : sa.flatten.length = s.size := HSL.out.symm
              have h2 : re.flatten.length = r.size := HRL.out.symm
              rw [hzs, List.length_take, List.length_append]; omega
            obtain ⟨rk, hrk⟩ : ∃ rk, rk = strOfNums (re.flatten.take kk.toNat) := ⟨_, rfl⟩
            have hst : strOfNums zs = s ++ rk := by
              have h1 : sa.flatten.length = s.size := HSL.out.symm
              rw [hzs, HSA.out, hrk, ← str_app]
              congr 1
              rw [← HSA.out, show ((s.size : Int) + kk).toNat = sa.flatten.length + kk.toNat by omega]
              exact List.take_length_add_append ..
            have hI6 := HI6.out
            rw [← hzs] at hI6
            have HI6 := Aside0.mk hI6
            have hlf : left' ((s.size : Int) + kk) (zs.length : Nat) 0 = (s.size : Int) + kk := by
              rw [hzl]; unfold left'; split <;> split <;> omega
            have HLF := Aside0.mk hlf
            have HZL := Aside0.mk hzl
            have HST := Aside0.mk hst
            have hsum : IntKind.i64.wrap ((s.size : Int) + kk) = (s.size : Int) + kk := by rw [IntKind.wrap_i64]; omega
            have hrx : r.extract 0 kk.toNat = rk := by
              rw [hrk, HRE.out]; exact str_cut _ _ (by have := HRL.out; have : re.flatten.length = r.size := HRL.out.symm; omega)
            have hrs : rk.size ≤ 10000 := by rw [← hrx, ByteArray.size_extract]; omega
            have hcat : (9223372036854775807 < s.size + rk.size) = False := eq_false (by omega)
            clear hzl hst hlf hI6 hrk hzs hkk'
            have HCRASH : Aside0 (∀ W, IsD w1.heap.size (fun k => w1.heap.size ≤ k ∧ k < w5.heap.size) W w1.heap.size 1048576 ((s.size : Int) + kk) zs → Below w1.heap.size w1 W → Calls Try.prog 11 #[.pointer (some ⟨w1.heap.size, 0, none⟩), .int .i64 0] W fun e w' => e = .returned (.int .i64 ((s.size : Int) + kk)) ∧ IsD w1.heap.size (fun k => w1.heap.size ≤ k ∧ k < w5.heap.size) w' w1.heap.size 1048576 ((s.size : Int) + kk) zs ∧ Below w1.heap.size w1 w') := ⟨fun W h1 h2 => by
              have h3 := DskB.crash w1.heap.size 1048576 ((s.size : Int) + kk) zs 0 _ w1 W h1 h2 (by omega) (by rw [HZL.out]; omega) (by rw [HZL.out]; omega)
              rw [HLF.out] at h3
              exact h3.mono (fun e w' ⟨a, b, c, d⟩ => ⟨a, by rwa [List.take_of_length_le (by have := HZL.out; omega)] at b, c⟩)⟩
            refine wp_region_any (by kernel_rfl) ?_
            try (change wpAny _ _ _ _ _ _ _ (World.drew _))
            (refine Reg.tk (i := 0) (d := 101) (v := ?_) rfl rfl (by kernel_rfl) (by kernel_rfl) (by kernel_rfl) (fun _ _ _ h => h) (Or.inl ⟨by rfl, ?_⟩) ?_; rotate_left; (intro w; go_simp); try (with_reducible rfl))
            try simp only [Act.put, List.setIfInBounds_toArray, List.set_cons_zero, List.set_cons_succ]
            (refine Reg.tk (i := 1) (d := 102) (v := ?_) rfl rfl (by kernel_rfl) (by kernel_rfl) (by kernel_rfl) (fun _ _ _ h => h) (Or.inl ⟨by rfl, ?_⟩) ?_; rotate_left; (intro w; go_simp); try (with_reducible rfl))
            try simp only [Act.put, List.setIfInBounds_toArray, List.set_cons_zero, List.set_cons_succ]
            (refine Reg.tk (i := 2) (d := 103) (v := ?_) rfl rfl (by kernel_rfl) (by kernel_rfl) (by kernel_rfl) (fun _ _ _ h => h) (Or.inl ⟨by rfl, ?_⟩) ?_; rotate_left; (intro w; go_simp); try (with_reducible rfl))
            try simp only [Act.put, List.setIfInBounds_toArray, List.set_cons_zero, List.set_cons_succ]
            (refine Reg.tk (i := 3) (d := 104) (v := ?_) rfl rfl (by kernel_rfl) (by kernel_rfl) (by kernel_rfl) (fun _ _ _ h => h) (Or.inl ⟨by rfl, ?_⟩) ?_; rotate_left; (intro w; go_simp); try (with_reducible rfl))
            try simp only [Act.put, List.setIfInBounds_toArray, List.set_cons_zero, List.set_cons_succ]
            (refine Reg.tk (i := 4) (d := 105) (v := ?_) rfl rfl (by kernel_rfl) (by kernel_rfl) (by kernel_rfl) (fun _ _ _ h => h) (Or.inl ⟨by rfl, ?_⟩) ?_; rotate_left; (intro w; go_simp); try (with_reducible rfl))
            try simp only [Act.put, List.setIfInBounds_toArray, List.set_cons_zero, List.set_cons_succ]
            (refine Reg.tk (i := 5) (d := 106) (v := ?_) rfl rfl (by kernel_rfl) (by kernel_rfl) (by kernel_rfl) (fun _ _ _ h => h) (Or.inl ⟨by rfl, ?_⟩) ?_; rotate_left; (intro w; go_simp); try (with_reducible rfl))
            try simp only [Act.put, List.setIfInBounds_toArray, List.set_cons_zero, List.set_cons_succ]
            (refine Reg.tk (i := 6) (d := 107) (v := ?_) rfl rfl (by kernel_rfl) (by kernel_rfl) (by kernel_rfl) (fun _ _ _ h => h) (Or.inl ⟨by rfl, ?_⟩) ?_; rotate_left; (intro w; go_simp); try (with_reducible rfl))
            try simp only [Act.put, List.setIfInBounds_toArray, List.set_cons_zero, List.set_cons_succ]
            (refine Reg.tk (i := 7) (d := 108) (v := ?_) rfl rfl (by kernel_rfl) (by kernel_rfl) (by kernel_rfl) (fun _ _ _ h => h) (Or.inl ⟨by rfl, ?_⟩) ?_; rotate_left; (intro w; go_simp); try (with_reducible rfl))
            try simp only [Act.put, List.setIfInBounds_toArray, List.set_cons_zero, List.set_cons_succ]
            (refine Reg.tk (i := 10) (d := 111) (v := ?_) rfl rfl (by kernel_rfl) (by kernel_rfl) (by kernel_rfl) (fun _ _ _ h => h) (Or.inl ⟨by rfl, ?_⟩) ?_; rotate_left; (intro w; go_simp); try (with_reducible rfl))
            try simp only [Act.put, List.setIfInBounds_toArray, List.set_cons_zero, List.set_cons_succ]
            (refine Reg.tk (i := 11) (d := 112) (v := ?_) rfl rfl (by kernel_rfl) (by kernel_rfl) (by kernel_rfl) (fun _ _ _ h => h) (Or.inl ⟨by rfl, ?_⟩) ?_; rotate_left; (intro w; go_simp); try (with_reducible rfl))
            try simp only [Act.put, List.setIfInBounds_toArray, List.set_cons_zero, List.set_cons_succ]
            (refine Reg.tk (i := 12) (d := 113) (v := ?_) rfl rfl (by kernel_rfl) (by kernel_rfl) (by kernel_rfl) (fun _ _ _ h => h) (Or.inl ⟨by rfl, ?_⟩) ?_; rotate_left; (intro w; go_simp); try (with_reducible rfl))
            try simp only [Act.put, List.setIfInBounds_toArray, List.set_cons_zero, List.set_cons_succ]
            (refine Reg.tk (i := 13) (d := 114) (v := ?_) rfl rfl (by kernel_rfl) (by kernel_rfl) (by kernel_rfl) (fun _ _ _ h => h) (Or.inl ⟨by rfl, ?_⟩) ?_; rotate_left; (intro w; go_simp); try (with_reducible rfl))
            try simp only [Act.put, List.setIfInBounds_toArray, List.set_cons_zero, List.set_cons_succ]
            (refine Reg.tk (i := 14) (d := 115) (v := ?_) rfl rfl (by kernel_rfl) (by kernel_rfl) (by kernel_rfl) (fun _ _ _ h => h) (Or.inl ⟨by rfl, ?_⟩) ?_; rotate_left; (intro w; go_simp); try (with_reducible rfl))
            try simp only [Act.put, List.setIfInBounds_toArray, List.set_cons_zero, List.set_cons_succ]
            refine Reg.one (i := 8) (by kernel_rfl) rfl (fun K hK => ?_)
            go_simp
            refine Calls.mono (Disk.bytes w1.heap.size 1048576 ((s.size : Int) + kk) zs _ w1 _ (by first | exact HI6.out | exact HI6.out.drew | exact HI6.out.drewN _) (by first | exact HB6.out | exact below_drew1 HB6.out | exact pw_below_drewN HB6.out _) (by have := HZL.out; omega)) ?_
            rintro e w7 ⟨v7, rfl, hR7, hI7, hB7, hN7⟩
            obtain ⟨A7, c7, rfl⟩ := Kd.R_slice hR7
            obtain ⟨_, _, hC7⟩ := Kd.R_reads' hR7
            have hcv7 := Kd.C_string (P := Try.prog) (c := c7) Try.underlying28 Try.underlying5 Try.underlying9 hC7
            rw [HST.out] at hcv7
            have HI7 := Aside0.mk hI7
            have HB7 := Aside0.mk hB7
            clear hR7 hI7 hB7 hN7 hC7
            go_wp2_with (fail)
            try (refine hK _ _ ?_; clear hK K)
            refine Reg.one (i := 9) (by kernel_rfl) rfl (fun K hK => ?_)
            go_simp
            try (refine hK _ _ ?_; clear hK K)
            (refine Reg.tk (i := 15) (d := 116) (v := ?_) rfl rfl (by kernel_rfl) (by kernel_rfl) (by kernel_rfl) (fun _ _ _ h => h) (Or.inl ⟨by rfl, ?_⟩) ?_; rotate_left; (intro w; go_simp); try (with_reducible rfl))
            try simp only [Act.put, List.setIfInBounds_toArray, List.set_cons_zero, List.set_cons_succ]
            (refine Reg.tk (i := 16) (d := 117) (v := ?_) rfl rfl (by kernel_rfl) (by kernel_rfl) (by kernel_rfl) (fun _ _ _ h => h) (Or.inl ⟨by rfl, ?_⟩) ?_; rotate_left; (intro w; go_simp); try (with_reducible rfl))
            try simp only [Act.put, List.setIfInBounds_toArray, List.set_cons_zero, List.set_cons_succ]
            (refine Reg.tk (i := 17) (d := 118) (v := ?_) rfl rfl (by kernel_rfl) (by kernel_rfl) (by kernel_rfl) (fun _ _ _ h => h) (Or.inl ⟨by rfl, ?_⟩) ?_; rotate_left; (intro w; go_simp); try (with_reducible rfl))
            try simp only [Act.put, List.setIfInBounds_toArray, List.set_cons_zero, List.set_cons_succ]
            (refine Reg.tk (i := 18) (d := 119) (v := ?_) rfl rfl (by kernel_rfl) (by kernel_rfl) (by kernel_rfl) (fun _ _ _ h => h) (Or.inl ⟨by rfl, ?_⟩) ?_; rotate_left; (intro w; go_simp); try (with_reducible rfl))
            try simp only [Act.put, List.setIfInBounds_toArray, List.set_cons_zero, List.set_cons_succ]
            (refine Reg.tk (i := 20) (d := 121) (v := ?_) rfl rfl (by kernel_rfl) (by kernel_rfl) (by kernel_rfl) (fun _ _ _ h => h) (Or.inl ⟨by rfl, ?_⟩) ?_; rotate_left; (intro w; go_simp); try (with_reducible rfl))
            try simp only [Act.put, List.setIfInBounds_toArray, List.set_cons_zero, List.set_cons_succ]
            refine Reg.one (i := 19) (by kernel_rfl) rfl (fun K hK => ?_)
            go_simp
            refine Calls.mono (HCRASH.out _ (by first | exact HI7.out | exact HI7.out.drew | exact HI7.out.drewN _) (by first | exact HB7.out | exact below_drew1 HB7.out | exact pw_below_drewN HB7.out _)) ?_
            rintro e w8 ⟨rfl, hI8, hB8⟩
            have HI8 := Aside0.mk hI8
            have HB8 := Aside0.mk hB8
            clear hI8 hB8 hcv7
            go_wp2_with (fail)
            try (refine hK _ _ ?_; clear hK K)
            (refine Reg.tk (i := 21) (d := 122) (v := ?_) rfl rfl (by kernel_rfl) (by kernel_rfl) (by kernel_rfl) (fun _ _ _ h => h) (Or.inl ⟨by rfl, ?_⟩) ?_; rotate_left; (intro w; go_simp); try (with_reducible rfl))
            try simp only [Act.put, List.setIfInBounds_toArray, List.set_cons_zero, List.set_cons_succ]
            (refine Reg.tk (i := 22) (d := 123) (v := ?_) rfl rfl (by kernel_rfl) (by kernel_rfl) (by kernel_rfl) (fun _ _ _ h => h) (Or.inl ⟨by rfl, ?_⟩) ?_; rotate_left; (intro w; go_simp); try (with_reducible rfl))
            try simp only [Act.put, List.setIfInBounds_toArray, List.set_cons_zero, List.set_cons_succ]
            (refine Reg.tk (i := 23) (d := 124) (v := ?_) rfl rfl (by kernel_rfl) (by kernel_rfl) (by kernel_rfl) (fun _ _ _ h => h) (Or.inl ⟨by rfl, ?_⟩) ?_; rotate_left; (intro w; go_simp); try (with_reducible rfl))
            try simp only [Act.put, List.setIfInBounds_toArray, List.set_cons_zero, List.set_cons_succ]
            (refine Reg.tk (i := 24) (d := 125) (v := ?_) rfl rfl (by kernel_rfl) (by kernel_rfl) (by kernel_rfl) (fun _ _ _ h => h) (Or.inl ⟨by rfl, ?_⟩) ?_; rotate_left; (intro w; go_simp); try (with_reducible rfl))
            try simp only [Act.put, List.setIfInBounds_toArray, List.set_cons_zero, List.set_cons_succ]
            (refine Reg.tk (i := 27) (d := 128) (v := ?_) rfl rfl (by kernel_rfl) (by kernel_rfl) (by kernel_rfl) (fun _ _ _ h => h) (Or.inl ⟨by rfl, ?_⟩) ?_; rotate_left; (intro w; go_simp); try (with_reducible rfl))
            try simp only [Act.put, List.setIfInBounds_toArray, List.set_cons_zero, List.set_cons_succ]
            (refine Reg.tk (i := 28) (d := 129) (v := ?_) rfl rfl (by kernel_rfl) (by kernel_rfl) (by kernel_rfl) (fun _ _ _ h => h) (Or.inl ⟨by rfl, ?_⟩) ?_; rotate_left; (intro w; go_simp); try (with_reducible rfl))
            try simp only [Act.put, List.setIfInBounds_toArray, List.set_cons_zero, List.set_cons_succ]
            (refine Reg.tk (i := 29) (d := 130) (v := ?_) rfl rfl (by kernel_rfl) (by kernel_rfl) (by kernel_rfl) (fun _ _ _ h => h) (Or.inl ⟨by rfl, ?_⟩) ?_; rotate_left; (intro w; go_simp); try (with_reducible rfl))
            try simp only [Act.put, List.setIfInBounds_toArray, List.set_cons_zero, List.set_cons_succ]
            (refine Reg.tk (i := 30) (d := 131) (v := ?_) rfl rfl (by kernel_rfl) (by kernel_rfl) (by kernel_rfl) (fun _ _ _ h => h) (Or.inl ⟨by rfl, ?_⟩) ?_; rotate_left; (intro w; go_simp); try (with_reducible rfl))
            try simp only [Act.put, List.setIfInBounds_toArray, List.set_cons_zero, List.set_cons_succ]
            (refine Reg.tk (i := 31) (d := 132) (v := ?_) rfl rfl (by kernel_rfl) (by kernel_rfl) (by kernel_rfl) (fun _ _ _ h => h) (Or.inl ⟨by rfl, ?_⟩) ?_; rotate_left; (intro w; go_simp); try (with_reducible rfl))
            try simp only [Act.put, List.setIfInBounds_toArray, List.set_cons_zero, List.set_cons_succ]
            refine Reg.one (i := 25) (by kernel_rfl) rfl (fun K hK => ?_)
            go_simp
            refine Calls.mono (Disk.bytes w1.heap.size 1048576 ((s.size : Int) + kk) zs _ w1 _ (by first | exact HI8.out | exact HI8.out.drew | exact HI8.out.drewN _) (by first | exact HB8.out | exact below_drew1 HB8.out | exact pw_below_drewN HB8.out _) (by have := HZL.out; omega)) ?_
            rintro e w9 ⟨v9, rfl, hR9, hI9, hB9, hN9⟩
            obtain ⟨A9, c9, rfl⟩ := Kd.R_slice hR9
            obtain ⟨_, _, hC9⟩ := Kd.R_reads' hR9
            have hcv9 := Kd.C_string (P := Try.prog) (c := c9) Try.underlying28 Try.underlying5 Try.underlying9 hC9
            rw [HST.out] at hcv9
            have HI9 := Aside0.mk hI9
            have HB9 := Aside0.mk hB9
            clear hR9 hI9 hB9 hN9 hC9
            go_wp2_with (fail)
            try (refine hK _ _ ?_; clear hK K)
            refine Reg.one (i := 26) (by kernel_rfl) rfl (fun K hK => ?_)
            go_simp
            try (refine hK _ _ ?_; clear hK K)
            (refine Reg.tk (i := 32) (d := 133) (v := ?_) rfl rfl (by kernel_rfl) (by kernel_rfl) (by kernel_rfl) (fun _ _ _ h => h) (Or.inl ⟨by rfl, ?_⟩) ?_; rotate_left; (intro w; go_simp); try (with_reducible rfl))
            try simp only [Act.put, List.setIfInBounds_toArray, List.set_cons_zero, List.set_cons_succ]
            (refine Reg.tk (i := 33) (d := 134) (v := ?_) rfl rfl (by kernel_rfl) (by kernel_rfl) (by kernel_rfl) (fun _ _ _ h => h) (Or.inl ⟨by rfl, ?_⟩) ?_; rotate_left; (intro w; go_simp); try (with_reducible rfl))
            try simp only [Act.put, List.setIfInBounds_toArray, List.set_cons_zero, List.set_cons_succ]
            (refine Reg.tk (i := 34) (d := 6) (v := ?_) rfl rfl (by kernel_rfl) (by kernel_rfl) (by kernel_rfl) (fun _ _ _ h => h) (Or.inl ⟨by rfl, ?_⟩) ?_; rotate_left; (intro w; go_simp); try (with_reducible rfl))
            try simp only [Act.put, List.setIfInBounds_toArray, List.set_cons_zero, List.set_cons_succ]
            refine wpAny_done (by kernel_rfl) ?_ _
            go_wp2
            go_ret
            exact ⟨rfl, below_step HB1.out HB9.out⟩

theorem walk (A0 : Option Addr) (c0 : Nat) (sa : List (List Int)) (A1 : Option Addr) (c1 : Nat) (re : List (List Int)) (keep : Int) (w : World) (hC0 : Kd.C (Kd.slice 5 (Kd.int .u8)) w A0 sa.length sa) (hl0 : sa.length ≤ c0) (hC1 : Kd.C (Kd.slice 5 (Kd.int .u8)) w A1 re.length re) (hl1 : re.length ≤ c1) :
    Calls Try.prog 3 #[.slice A0 sa.length c0, .slice A1 re.length c1, .int .i64 keep] w fun e w' => e = .returned (.bool true) ∧ Below w.heap.size w w' := by
  by_cases h : 10 < sa.length ∨ 10 < re.length
  · exact many A0 c0 sa A1 c1 re keep w h hC0.2.1 hC1.2.1
  · exact main_ A0 c0 sa A1 c1 re keep w hC0 hC1 (by omega) (by omega) hl0 hl1

end Go.Proofs.Ytabiloklphjeiaa.Crashes
