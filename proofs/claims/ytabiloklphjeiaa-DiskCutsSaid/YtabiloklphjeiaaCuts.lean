/-
  DiskCuts walked: the law's function returns true for every argument; nothing that was there is written.
-/
import Derived.Test.YtabiloklphjeiaaProg
import Derived.Test.YtabiloklphjeiaaDisk
import Derived.Test.YtabiloklphjeiaaDskB
import Derived.Test.YtabiloklphjeiaaDskC
import Derived.Test.YtabiloklphjeiaaMem
import Derived.Test.YtabiloklphjeiaaAwake
import Derived.Test.YtabiloklphjeiaaReg
import Derived.Test.YtabiloklphjeiaaRegH
import Derived.Test.YtabiloklphjeiaaCrashes
import Derived.Below
import Derived.Deep.Draws
import Derived.Deep.AppendLies
import Derived.Maps.AppendAt
import Derived.OwnWalk
import Derived.Laws.BytesArg
import Derived.Laws.MakeOwn
import Derived.Laws.OwnMore
import Derived.Deep.OwnRows
import Derived.Tactics
import Derived.Lib.ConvBytes
import Derived.Laws.Slices
import Derived.WalkKit
import Derived.KernelRfl
import Derived.RowKit3
import Derived.Deep.LoopGhost
import Derived.Deep.QuietTactic
import Derived.BigQuiet
import Derived.WideLaws
import Derived.Deep.DeepCutAuto
import Derived.Deep.CutBlock
import Derived.Deep.RegionHeld3
import Derived.Laws.Rows
import Derived.Lib.AppendStr
import Derived.ArgAppend
import Derived.Laws.IdiomCopy
import Derived.OrdersHeld
import Derived.Laws.BitsLemmas
import Derived.RowKit
import Derived.Lib.SliceRun
import Derived.Test.YtabiloklphjeiaaWWords
import Derived.Test.YtabiloklphjeiaaWLast
import Derived.Test.YtabiloklphjeiaaWTab
import Derived.Test.YtabiloklphjeiaaWFour
import Derived.Test.YtabiloklphjeiaaWQPut
import Derived.Test.YtabiloklphjeiaaWApart
import Derived.Test.YtabiloklphjeiaaWArr
import Derived.Test.YtabiloklphjeiaaWZeros
import Derived.Test.YtabiloklphjeiaaWFoot
import Derived.Test.YtabiloklphjeiaaWKept
import Derived.Test.YtabiloklphjeiaaWShare
import Derived.Test.YtabiloklphjeiaaWN
import Derived.Test.YtabiloklphjeiaaWFootNe
import Derived.Test.YtabiloklphjeiaaWAt
import Derived.Test.YtabiloklphjeiaaWEqStruct
import Derived.Test.YtabiloklphjeiaaWRepsOne
import Derived.Test.YtabiloklphjeiaaWInv
import Derived.Test.YtabiloklphjeiaaWInvWords
import Derived.Test.YtabiloklphjeiaaWGuard
import Derived.Test.YtabiloklphjeiaaWNEv
import Derived.Test.YtabiloklphjeiaaWMore
namespace Go.Proofs.Ytabiloklphjeiaa.Cuts
open Go.RowKit Go.Proofs.YtabiloklphjeiaaW.PrintWords Go.Proofs.YtabiloklphjeiaaW.PrintLast Go.Proofs.YtabiloklphjeiaaW.PrintMore
set_option linter.unusedVariables false
set_option linter.unusedSimpArgs false
open Disk DskB DskC Mem Crashes
set_option maxHeartbeats 4000000 in
set_option maxRecDepth 100000 in
theorem many (A0 : Option Addr) (c0 : Nat) (l0 : List Int) (fl ct : Int) (w : World) (h : 1000 < l0.length) (hm : l0.length ≤ 9223372036854775807) :
    Calls Try.prog 5 #[.slice A0 l0.length c0, .int .i64 fl, .int .i64 ct] w fun e w' => e = .returned (.bool true) ∧ Below w.heap.size w w' := by
  go_enter Try.func5, Try.ntmps5
  go_wp2_with fail
  refine Calls.mono (Awake.awake _) ?_
  rintro e w1 ⟨rfl, hB⟩
  have HB := Aside0.mk hB
  clear hB
  go_wp2_with fail
  refine Calls.mono (Awake.awake _) ?_
  rintro e w2 ⟨rfl, hB⟩
  have HB2 := Aside0.mk (below_step HB.out hB)
  clear hB HB
  go_wp2
  go_ret
  exact ⟨rfl, HB2.out⟩

theorem tm (a n : Int) (hn : 0 ≤ n) : -n ≤ a.tmod (n + 1) ∧ a.tmod (n + 1) ≤ n := by
  have h1 := Int.tmod_lt_of_pos a (show 0 < n + 1 by omega)
  have h2 : -(n + 1) < a.tmod (n + 1) := by
    rcases Int.le_total 0 a with h | h
    · have := Int.tmod_nonneg (n + 1) h; omega
    · have h3 : (-a).tmod (n + 1) < n + 1 := Int.tmod_lt_of_pos _ (by omega)
      rw [Int.neg_tmod] at h3; omega
  omega

set_option maxHeartbeats 8000000 in
set_option maxRecDepth 100000 in
theorem main_ (A0 : Option Addr) (c0 : Nat) (l0 : List Int) (fl ct : Int) (w : World) (hC0 : (Kd.int .u8).C w A0 l0.length l0) (hl0 : l0.length ≤ c0) (h0 : l0.length ≤ 1000) :
    Calls Try.prog 5 #[.slice A0 l0.length c0, .int .i64 fl, .int .i64 ct] w fun e w' => e = .returned (.bool true) ∧ Below w.heap.size w w' := by
  have HC0 := Aside0.mk hC0
  clear hC0
  have h0' : decide (1000 < (l0.length : Int)) = false := decide_eq_false (by omega)
  obtain ⟨m1, m2⟩ := tm fl (l0.length : Int) (by omega)
  obtain ⟨m3, m4⟩ := tm ct (l0.length : Int) (by omega)
  obtain ⟨i5, hi5, hsz5⟩ := info5'
  go_enter Try.func5, Try.ntmps5
  go_wp2_with fail
  refine Calls.mono (Awake.awake _) ?_
  rintro e w1 ⟨rfl, hB⟩
  have HB1 := Aside0.mk hB
  have HC1 := Aside0.mk (Kd.C_below HC0.out hB)
  clear hB HC0
  go_wp2_with fail
  refine Calls.mono (new_ok (l0.length : Int) w1 (by omega) (by omega)) ?_
  rintro e w2 ⟨rfl, hI, hB⟩
  have HI := Aside0.mk (IsD_new hI)
  have HB := Aside0.mk hB
  clear hI hB
  obtain ⟨k, hk⟩ : ∃ k, (fl.tmod ((l0.length : Int) + 1) + (l0.length : Int) + 1) % ((l0.length : Int) + 1) = k := ⟨_, rfl⟩
  obtain ⟨n, hn⟩ : ∃ n, (ct.tmod ((l0.length : Int) + 1) + (l0.length : Int) + 1) % ((l0.length : Int) + 1) = n := ⟨_, rfl⟩
  have k0 : 0 ≤ k := by rw [← hk]; exact Int.emod_nonneg _ (by omega)
  have k1 : k ≤ (l0.length : Int) := by have := Int.emod_lt_of_pos (fl.tmod ((l0.length : Int) + 1) + (l0.length : Int) + 1) (show 0 < (l0.length : Int) + 1 by omega); omega
  have n0 : 0 ≤ n := by rw [← hn]; exact Int.emod_nonneg _ (by omega)
  have n1 : n ≤ (l0.length : Int) := by have := Int.emod_lt_of_pos (ct.tmod ((l0.length : Int) + 1) + (l0.length : Int) + 1) (show 0 < (l0.length : Int) + 1 by omega); omega
  obtain ⟨kn, rfl⟩ : ∃ kn : Nat, k = (kn : Int) := ⟨k.toNat, by omega⟩
  obtain ⟨nn, rfl⟩ : ∃ nn : Nat, n = (nn : Int) := ⟨n.toNat, by omega⟩
  have hkl : (l0.take kn).length = kn := by rw [List.length_take]; omega
  have hnl : (l0.take nn).length = nn := by rw [List.length_take]; omega
  have hcutT := cut_to (P := Try.prog) 28 5 .i64 Try.underlying28 hi5 A0 l0.length c0 (kn : Int) (by omega) (by omega) hl0
  have hcutN := cut_to (P := Try.prog) 28 5 .i64 Try.underlying28 hi5 A0 l0.length c0 (nn : Int) (by omega) (by omega) hl0
  have hcutF := cut_from (P := Try.prog) 28 5 .i64 Try.underlying28 hi5 1 hsz5 A0 l0.length c0 (kn : Int) (by omega) (by omega)
  have hcutG := cut_from (P := Try.prog) 28 5 .i64 Try.underlying28 hi5 1 hsz5 A0 l0.length c0 (nn : Int) (by omega) (by omega)
  rw [Int.toNat_natCast] at hcutT hcutN hcutF hcutG
  obtain ⟨AF, hAF⟩ : ∃ AF, AF = (if c0 = kn then A0 else A0.map (·.add (kn * 1))) := ⟨_, rfl⟩
  obtain ⟨AG, hAG⟩ : ∃ AG, AG = (if c0 = nn then A0 else A0.map (·.add (nn * 1))) := ⟨_, rfl⟩
  rw [← hAF] at hcutF
  rw [← hAG] at hcutG
  have hCT := Kd.C_take (m := kn) HC1.out (by omega)
  have hCF := Kd.C_drop (m := kn) HC1.out (by omega) hl0
  have hCG := Kd.C_drop (m := nn) HC1.out (by omega) hl0
  rw [show (Kd.int .u8).sz = 1 from rfl, ← hAF] at hCF
  rw [show (Kd.int .u8).sz = 1 from rfl, ← hAG] at hCG
  have hlF : (l0.drop kn).length = l0.length - kn := by rw [List.length_drop]
  have hlG : (l0.drop nn).length = l0.length - nn := by rw [List.length_drop]
  have HCT := Aside0.mk hCT
  have HCF := Aside0.mk hCF
  have HCG := Aside0.mk hCG
  have HKL := Aside0.mk hkl
  have HNL := Aside0.mk hnl
  have HLF := Aside0.mk hlF
  have HLG := Aside0.mk hlG
  clear hCT hCF hCG hAF hAG hkl hnl hlF hlG
  have hkc : kn ≤ c0 := by omega
  have hfc : l0.length - kn ≤ c0 - kn := by omega
  have hgc : l0.length - nn ≤ c0 - nn := by omega
  go_wp2_with fail
  have hap := append_ok w1.heap.size (l0.length : Int) 0 ([]) (some ⟨w2.heap.size, 0, none⟩) 1 [l0.take kn] _ w1 (w2.alloc (.cells #[.slice A0 (l0.take kn).length c0] 28)) (HI.out.below (ins1 (Below.refl _ _) (Nat.le_refl _) _)) (ins1 HB.out HB.out.size _)
    (one_args (Kd.C_kept_came (Kd.heap_int .u8) HCT.out (ins1 HB.out HB.out.size _) (fun k h => h.1)) (heap_alloc_new w2 _) (fun h => by have := h.2; omega) (by rw [HKL.out]; omega)) (by simp) (by simp) (by omega) (by simp only [tot, List.flatten_cons, List.flatten_nil, List.append_nil]; rw [HKL.out]; simp only [List.length_nil]; omega)
  rw [HKL.out] at hap
  simp only [List.flatten_cons, List.flatten_nil, List.append_nil] at hap
  refine Calls.mono hap ?_
  rintro e w3 ⟨rfl, hI, hB, -⟩
  rw [List.nil_append] at hI
  have HI3 := Aside0.mk (IsD_new hI)
  have HB3 := Aside0.mk hB
  clear hI hB hap HI HB
  go_wp2_with fail
  have hfl := flush w1.heap.size (l0.length : Int) 0 _ _ w1 w3 HI3.out HB3.out
  rw [HKL.out] at hfl
  refine Calls.mono hfl ?_
  rintro e w4 ⟨rfl, hI, hB, -⟩
  have HI4 := Aside0.mk (IsD_new hI)
  have HB4 := Aside0.mk hB
  clear hI hB hfl HI3 HB3
  go_wp2_with fail
  have hap := append_ok w1.heap.size (l0.length : Int) (kn : Int) (l0.take kn) (some ⟨w4.heap.size, 0, none⟩) 1 [l0.drop kn] _ w1 (w4.alloc (.cells #[.slice AF (l0.drop kn).length (c0 - kn)] 28)) (HI4.out.below (ins1 (Below.refl _ _) (Nat.le_refl _) _)) (ins1 HB4.out HB4.out.size _)
    (one_args (Kd.C_kept_came (Kd.heap_int .u8) HCF.out (ins1 HB4.out HB4.out.size _) (fun k h => h.1)) (heap_alloc_new w4 _) (fun h => by have := h.2; omega) (by rw [HLF.out]; omega)) (by simp) (by simp) (by omega) (by simp only [tot, List.flatten_cons, List.flatten_nil, List.append_nil]; rw [HLF.out, HKL.out]; omega)
  rw [HLF.out] at hap
  simp only [List.flatten_cons, List.flatten_nil, List.append_nil] at hap
  rw [List.take_append_drop] at hap
  refine Calls.mono hap ?_
  rintro e w5 ⟨rfl, hI, hB, -⟩
  have HI5 := Aside0.mk (IsD_new hI)
  have HB5 := Aside0.mk hB
  clear hI hB hap HI4 HB4
  go_wp2_with fail
  have hct := cut w1.heap.size (l0.length : Int) (kn : Int) l0 ((l0.length : Int) + 1) _ w1 w5 HI5.out HB5.out
  simp only [if_pos (show ((l0.length : Int) + 1 < 0 ∨ (l0.length : Int) < (l0.length : Int) + 1) by omega)] at hct
  refine Calls.mono hct ?_
  rintro e w6 ⟨rfl, hI, hB, -⟩
  have HI6 := Aside0.mk (IsD_new hI)
  have HB6 := Aside0.mk hB
  clear hI hB hct HI5 HB5
  go_wp2_with fail
  have hct := cut w1.heap.size (l0.length : Int) (kn : Int) l0 (-1) _ w1 w6 HI6.out HB6.out
  simp only [if_pos (show ((-1 : Int) < 0 ∨ (l0.length : Int) < -1) by omega)] at hct
  refine Calls.mono hct ?_
  rintro e w7 ⟨rfl, hI, hB, -⟩
  have HI7 := Aside0.mk (IsD_new hI)
  have HB7 := Aside0.mk hB
  clear hI hB hct HI6 HB6
  go_wp2_with fail
  have hct := cut w1.heap.size (l0.length : Int) (kn : Int) l0 (nn : Int) _ w1 w7 HI7.out HB7.out
  simp only [if_neg (show ¬ ((nn : Int) < 0 ∨ (l0.length : Int) < (nn : Int)) by omega), Int.toNat_natCast] at hct
  refine Calls.mono hct ?_
  rintro e w8 ⟨rfl, hI, hB, -⟩
  have HI8 := Aside0.mk (IsD_new hI)
  have HB8 := Aside0.mk hB
  clear hI hB hct HI7 HB7
  go_wp2_with fail
  obtain ⟨zs, hzs⟩ : ∃ zs, zs = l0.take nn := ⟨_, rfl⟩
  obtain ⟨tz, htz⟩ : ∃ tz, tz = strOfNums zs := ⟨_, rfl⟩
  obtain ⟨tl, htl⟩ : ∃ tl, tl = strOfNums l0 := ⟨_, rfl⟩
  have hI := IsD_new HI8.out.drew
  rw [← hzs] at hI
  obtain ⟨wd, hwd⟩ : ∃ wd, wd = w8.drew := ⟨_, rfl⟩
  have HI9 := Aside0.mk hI
  have HB9 := Aside0.mk (below_drew1 HB8.out)
  rw [← hwd] at HI9 HB9
  have HWD := Aside0.mk hwd
  have HZL := Aside0.mk (show zs.length = nn by rw [hzs]; exact HNL.out)
  have HZS := Aside0.mk hzs
  have HTZ := Aside0.mk htz
  have HTL := Aside0.mk htl
  have hsub : IntKind.i64.wrap ((l0.length : Int) - (nn : Int)) = (l0.length : Int) - (nn : Int) := by rw [IntKind.wrap_i64]; omega
  have HLE := Aside0.mk (show left' (nn : Int) (zs.length : Nat) 0 = (nn : Int) by rw [HZL.out]; unfold left'; split <;> split <;> omega)
  have HTK := Aside0.mk (show zs.take ((nn : Int)).toNat = zs by rw [Int.toNat_natCast]; exact List.take_of_length_le (by rw [HZL.out]; omega))
  have HJN := Aside0.mk (show zs ++ l0.drop nn = l0 by rw [hzs]; exact List.take_append_drop nn l0)
  clear hzs htz htl hI HI8 HB8 hk hn m1 m2 m3 m4
  refine RegH.startH (fun W => (Kd.int .u8).C W A0 l0.length l0) (by kernel_rfl) rfl (Kd.C_below HC1.out (by have := HB9.out; rwa [hwd] at this)) (fun hS => ?_)
  rw [← hwd] at hS ⊢
  clear hwd
  (refine RegH.tkH (i := 0) (d := 98) (v := ?_) rfl rfl (by kernel_rfl) (by kernel_rfl) (by kernel_rfl) (fun _ _ _ h => h) (Or.inl ⟨by rfl, ?_⟩) hS ?_; rotate_left; (intro w hSw; (try dsimp only at hSw); go_simp); try (with_reducible rfl))
  try simp only [Act.put, List.setIfInBounds_toArray, List.set_cons_zero, List.set_cons_succ]
  (refine RegH.tkH (i := 3) (d := 101) (v := ?_) rfl rfl (by kernel_rfl) (by kernel_rfl) (by kernel_rfl) (fun _ _ _ h => h) (Or.inl ⟨by rfl, ?_⟩) hS ?_; rotate_left; (intro w hSw; (try dsimp only at hSw); go_simp); try (with_reducible rfl))
  try simp only [Act.put, List.setIfInBounds_toArray, List.set_cons_zero, List.set_cons_succ]
  (refine RegH.tkH (i := 4) (d := 102) (v := ?_) rfl rfl (by kernel_rfl) (by kernel_rfl) (by kernel_rfl) (fun _ _ _ h => h) (Or.inl ⟨by rfl, ?_⟩) hS ?_; rotate_left; (intro w hSw; (try dsimp only at hSw); go_simp); try (with_reducible rfl))
  try simp only [Act.put, List.setIfInBounds_toArray, List.set_cons_zero, List.set_cons_succ]
  (refine RegH.tkH (i := 5) (d := 103) (v := ?_) rfl rfl (by kernel_rfl) (by kernel_rfl) (by kernel_rfl) (fun _ _ _ h => h) (Or.inl ⟨by rfl, ?_⟩) hS ?_; rotate_left; (intro w hSw; (try dsimp only at hSw); go_simp); try (with_reducible rfl))
  try simp only [Act.put, List.setIfInBounds_toArray, List.set_cons_zero, List.set_cons_succ]
  (refine RegH.tkH (i := 6) (d := 104) (v := ?_) rfl rfl (by kernel_rfl) (by kernel_rfl) (by kernel_rfl) (fun _ _ _ h => h) (Or.inl ⟨by rfl, ?_⟩) hS ?_; rotate_left; (intro w hSw; (try dsimp only at hSw); (have hq := Kd.C_string (P := Try.prog) (c := c0) Try.underlying28 Try.underlying5 Try.underlying9 (Kd.C_take (m := nn) hSw (by omega)); rw [HNL.out, ← HZS.out, ← HTZ.out] at hq); clear hSw; go_simp); try (with_reducible rfl))
  try simp only [Act.put, List.setIfInBounds_toArray, List.set_cons_zero, List.set_cons_succ]
  refine RegH.oneH (i := 1) (by kernel_rfl) rfl (fun K hK => ?_)
  go_simp
  refine Calls.mono (Disk.bytes w1.heap.size (l0.length : Int) (nn : Int) zs _ w1 _ HI9.out HB9.out (by have := HZL.out; omega)) ?_
  rintro e w10 ⟨v10, rfl, hR, hI, hB, -⟩
  have HI10 := Aside0.mk (IsD_new hI)
  have HB10 := Aside0.mk hB
  clear hI hB
  obtain ⟨A10, c10, rfl⟩ := Kd.R_slice hR
  obtain ⟨_, _, hC⟩ := Kd.R_reads' hR
  have hcv10 := Kd.C_string (P := Try.prog) (c := c10) Try.underlying28 Try.underlying5 Try.underlying9 hC
  rw [← HTZ.out] at hcv10
  clear hR hC
  go_wp2_with (fail)
  refine hK.out _ _ (Kd.C_below HC1.out HB10.out) (fun hS => ?_)
  clear hK K
  try simp only [Act.put, List.setIfInBounds_toArray, List.set_cons_zero, List.set_cons_succ]
  refine RegH.oneH (i := 2) (by kernel_rfl) rfl (fun K hK => ?_)
  go_simp
  refine hK.out _ _ (Kd.C_below HC1.out HB10.out) (fun hS => ?_)
  clear hK K
  try simp only [Act.put, List.setIfInBounds_toArray, List.set_cons_zero, List.set_cons_succ]
  (refine RegH.tkH (i := 7) (d := 105) (v := ?_) rfl rfl (by kernel_rfl) (by kernel_rfl) (by kernel_rfl) (fun _ _ _ h => h) (Or.inl ⟨by rfl, ?_⟩) hS ?_; rotate_left; (intro w hSw; (try dsimp only at hSw); go_simp); try (with_reducible rfl))
  try simp only [Act.put, List.setIfInBounds_toArray, List.set_cons_zero, List.set_cons_succ]
  (refine RegH.tkH (i := 8) (d := 106) (v := ?_) rfl rfl (by kernel_rfl) (by kernel_rfl) (by kernel_rfl) (fun _ _ _ h => h) (Or.inl ⟨by rfl, ?_⟩) hS ?_; rotate_left; (intro w hSw; (try dsimp only at hSw); go_simp); try (with_reducible rfl))
  try simp only [Act.put, List.setIfInBounds_toArray, List.set_cons_zero, List.set_cons_succ]
  (refine RegH.tkH (i := 9) (d := 107) (v := ?_) rfl rfl (by kernel_rfl) (by kernel_rfl) (by kernel_rfl) (fun _ _ _ h => h) (Or.inl ⟨by rfl, ?_⟩) hS ?_; rotate_left; (intro w hSw; (try dsimp only at hSw); go_simp); try (with_reducible rfl))
  try simp only [Act.put, List.setIfInBounds_toArray, List.set_cons_zero, List.set_cons_succ]
  (refine RegH.tkH (i := 11) (d := 109) (v := ?_) rfl rfl (by kernel_rfl) (by kernel_rfl) (by kernel_rfl) (fun _ _ _ h => h) (Or.inl ⟨by rfl, ?_⟩) hS ?_; rotate_left; (intro w hSw; (try dsimp only at hSw); go_simp); try (with_reducible rfl))
  try simp only [Act.put, List.setIfInBounds_toArray, List.set_cons_zero, List.set_cons_succ]
  refine RegH.oneH (i := 10) (by kernel_rfl) rfl (fun K hK => ?_)
  go_simp
  refine Calls.mono (safe_ w1.heap.size (l0.length : Int) (nn : Int) zs _ w1 _ HI10.out HB10.out) ?_
  rintro e w11 ⟨rfl, -, hI, hB, -⟩
  have HI11 := Aside0.mk (IsD_new hI)
  have HB11 := Aside0.mk hB
  clear hI hB
  clear hcv10
  go_wp2_with (fail)
  refine hK.out _ _ (Kd.C_below HC1.out HB11.out) (fun hS => ?_)
  clear hK K
  try simp only [Act.put, List.setIfInBounds_toArray, List.set_cons_zero, List.set_cons_succ]
  (refine RegH.tkH (i := 12) (d := 110) (v := ?_) rfl rfl (by kernel_rfl) (by kernel_rfl) (by kernel_rfl) (fun _ _ _ h => h) (Or.inl ⟨by rfl, ?_⟩) hS ?_; rotate_left; (intro w hSw; (try dsimp only at hSw); go_simp); try (with_reducible rfl))
  try simp only [Act.put, List.setIfInBounds_toArray, List.set_cons_zero, List.set_cons_succ]
  (refine RegH.tkH (i := 13) (d := 111) (v := ?_) rfl rfl (by kernel_rfl) (by kernel_rfl) (by kernel_rfl) (fun _ _ _ h => h) (Or.inl ⟨by rfl, ?_⟩) hS ?_; rotate_left; (intro w hSw; (try dsimp only at hSw); go_simp); try (with_reducible rfl))
  try simp only [Act.put, List.setIfInBounds_toArray, List.set_cons_zero, List.set_cons_succ]
  (refine RegH.tkH (i := 14) (d := 112) (v := ?_) rfl rfl (by kernel_rfl) (by kernel_rfl) (by kernel_rfl) (fun _ _ _ h => h) (Or.inl ⟨by rfl, ?_⟩) hS ?_; rotate_left; (intro w hSw; (try dsimp only at hSw); go_simp); try (with_reducible rfl))
  try simp only [Act.put, List.setIfInBounds_toArray, List.set_cons_zero, List.set_cons_succ]
  (refine RegH.tkH (i := 15) (d := 113) (v := ?_) rfl rfl (by kernel_rfl) (by kernel_rfl) (by kernel_rfl) (fun _ _ _ h => h) (Or.inl ⟨by rfl, ?_⟩) hS ?_; rotate_left; (intro w hSw; (try dsimp only at hSw); go_simp); try (with_reducible rfl))
  try simp only [Act.put, List.setIfInBounds_toArray, List.set_cons_zero, List.set_cons_succ]
  (refine RegH.tkH (i := 17) (d := 115) (v := ?_) rfl rfl (by kernel_rfl) (by kernel_rfl) (by kernel_rfl) (fun _ _ _ h => h) (Or.inl ⟨by rfl, ?_⟩) hS ?_; rotate_left; (intro w hSw; (try dsimp only at hSw); go_simp); try (with_reducible rfl))
  try simp only [Act.put, List.setIfInBounds_toArray, List.set_cons_zero, List.set_cons_succ]
  refine RegH.oneH (i := 16) (by kernel_rfl) rfl (fun K hK => ?_)
  go_simp
  have hcr := DskB.crash w1.heap.size (l0.length : Int) (nn : Int) zs 0 _ w1 _ HI11.out HB11.out (by omega) (by rw [HZL.out]; omega) (by rw [HZL.out]; omega)
  rw [HLE.out, HTK.out] at hcr
  refine Calls.mono (hcr) ?_
  rintro e w12 ⟨rfl, hI, hB, -⟩
  have HI12 := Aside0.mk (IsD_new hI)
  have HB12 := Aside0.mk hB
  clear hI hB
  clear hcr
  go_wp2_with (fail)
  refine hK.out _ _ (Kd.C_below HC1.out HB12.out) (fun hS => ?_)
  clear hK K
  try simp only [Act.put, List.setIfInBounds_toArray, List.set_cons_zero, List.set_cons_succ]
  (refine RegH.tkH (i := 18) (d := 116) (v := ?_) rfl rfl (by kernel_rfl) (by kernel_rfl) (by kernel_rfl) (fun _ _ _ h => h) (Or.inl ⟨by rfl, ?_⟩) hS ?_; rotate_left; (intro w hSw; (try dsimp only at hSw); go_simp); try (with_reducible rfl))
  try simp only [Act.put, List.setIfInBounds_toArray, List.set_cons_zero, List.set_cons_succ]
  (refine RegH.tkH (i := 19) (d := 117) (v := ?_) rfl rfl (by kernel_rfl) (by kernel_rfl) (by kernel_rfl) (fun _ _ _ h => h) (Or.inl ⟨by rfl, ?_⟩) hS ?_; rotate_left; (intro w hSw; (try dsimp only at hSw); go_simp); try (with_reducible rfl))
  try simp only [Act.put, List.setIfInBounds_toArray, List.set_cons_zero, List.set_cons_succ]
  (refine RegH.tkH (i := 20) (d := 118) (v := ?_) rfl rfl (by kernel_rfl) (by kernel_rfl) (by kernel_rfl) (fun _ _ _ h => h) (Or.inl ⟨by rfl, ?_⟩) hS ?_; rotate_left; (intro w hSw; (try dsimp only at hSw); go_simp); try (with_reducible rfl))
  try simp only [Act.put, List.setIfInBounds_toArray, List.set_cons_zero, List.set_cons_succ]
  (refine RegH.tkH (i := 21) (d := 119) (v := ?_) rfl rfl (by kernel_rfl) (by kernel_rfl) (by kernel_rfl) (fun _ _ _ h => h) (Or.inl ⟨by rfl, ?_⟩) hS ?_; rotate_left; (intro w hSw; (try dsimp only at hSw); go_simp); try (with_reducible rfl))
  try simp only [Act.put, List.setIfInBounds_toArray, List.set_cons_zero, List.set_cons_succ]
  (refine RegH.tkH (i := 23) (d := 121) (v := ?_) rfl rfl (by kernel_rfl) (by kernel_rfl) (by kernel_rfl) (fun _ _ _ h => h) (Or.inl ⟨by rfl, ?_⟩) hS ?_; rotate_left; (intro w hSw; (try dsimp only at hSw); go_simp); try (with_reducible rfl))
  try simp only [Act.put, List.setIfInBounds_toArray, List.set_cons_zero, List.set_cons_succ]
  (refine RegH.tkH (i := 24) (d := 122) (v := ?_) rfl rfl (by kernel_rfl) (by kernel_rfl) (by kernel_rfl) (fun _ _ _ h => h) (Or.inl ⟨by rfl, ?_⟩) hS ?_; rotate_left; (intro w hSw; (try dsimp only at hSw); go_simp); try (with_reducible rfl))
  try simp only [Act.put, List.setIfInBounds_toArray, List.set_cons_zero, List.set_cons_succ]
  (refine RegH.tkH (i := 25) (d := 123) (v := ?_) rfl rfl (by kernel_rfl) (by kernel_rfl) (by kernel_rfl) (fun _ _ _ h => h) (Or.inl ⟨by rfl, ?_⟩) hS ?_; rotate_left; (intro w hSw; (try dsimp only at hSw); go_simp); try (with_reducible rfl))
  try simp only [Act.put, List.setIfInBounds_toArray, List.set_cons_zero, List.set_cons_succ]
  (refine RegH.tkH (i := 26) (d := 124) (v := ?_) rfl rfl (by kernel_rfl) (by kernel_rfl) (by kernel_rfl) (fun _ _ _ h => h) (Or.inl ⟨by rfl, ?_⟩) hS ?_; rotate_left; (intro w hSw; (try dsimp only at hSw); go_simp); try (with_reducible rfl))
  try simp only [Act.put, List.setIfInBounds_toArray, List.set_cons_zero, List.set_cons_succ]
  refine RegH.oneH (i := 22) (by kernel_rfl) rfl (fun K hK => ?_)
  go_simp
  have hlf := left w1.heap.size (l0.length : Int) (nn : Int) zs _ w1 _ HI12.out HB12.out
  rw [show wrap64 ((l0.length : Int) - (zs.length : Nat)) = (l0.length : Int) - (nn : Int) by rw [HZL.out]; unfold wrap64; omega] at hlf
  refine Calls.mono (hlf) ?_
  rintro e w13 ⟨rfl, -, hI, hB, -⟩
  have HI13 := Aside0.mk (IsD_new hI)
  have HB13 := Aside0.mk hB
  clear hI hB
  clear hlf
  go_wp2_with (fail)
  refine hK.out _ _ (Kd.C_below HC1.out HB13.out) (fun hS => ?_)
  clear hK K
  try simp only [Act.put, List.setIfInBounds_toArray, List.set_cons_zero, List.set_cons_succ]
  (refine RegH.tkH (i := 27) (d := 125) (v := ?_) rfl rfl (by kernel_rfl) (by kernel_rfl) (by kernel_rfl) (fun _ _ _ h => h) (Or.inl ⟨by rfl, ?_⟩) hS ?_; rotate_left; (intro w hSw; (try dsimp only at hSw); go_simp); try (with_reducible rfl))
  try simp only [Act.put, List.setIfInBounds_toArray, List.set_cons_zero, List.set_cons_succ]
  (refine RegH.tkH (i := 28) (d := 126) (v := ?_) rfl rfl (by kernel_rfl) (by kernel_rfl) (by kernel_rfl) (fun _ _ _ h => h) (Or.inl ⟨by rfl, ?_⟩) hS ?_; rotate_left; (intro w hSw; (try dsimp only at hSw); go_simp); try (with_reducible rfl))
  try simp only [Act.put, List.setIfInBounds_toArray, List.set_cons_zero, List.set_cons_succ]
  (refine RegH.tkH (i := 29) (d := 127) (v := ?_) rfl rfl (by kernel_rfl) (by kernel_rfl) (by kernel_rfl) (fun _ _ _ h => h) (Or.inl ⟨by rfl, ?_⟩) hS ?_; rotate_left; (intro w hSw; (try dsimp only at hSw); go_simp); try (with_reducible rfl))
  try simp only [Act.put, List.setIfInBounds_toArray, List.set_cons_zero, List.set_cons_succ]
  (refine RegH.tkH (i := 30) (d := 128) (v := ?_) rfl rfl (by kernel_rfl) (by kernel_rfl) (by kernel_rfl) (fun _ _ _ h => h) (Or.inl ⟨by rfl, ?_⟩) hS ?_; rotate_left; (intro w hSw; (try dsimp only at hSw); go_simp); try (with_reducible rfl))
  try simp only [Act.put, List.setIfInBounds_toArray, List.set_cons_zero, List.set_cons_succ]
  (refine RegH.tkH (i := 31) (d := 129) (v := ?_) rfl rfl (by kernel_rfl) (by kernel_rfl) (by kernel_rfl) (fun _ _ _ h => h) (Or.inl ⟨by rfl, ?_⟩) hS ?_; rotate_left; (intro w hSw; (try dsimp only at hSw); go_simp); try (with_reducible rfl))
  try simp only [Act.put, List.setIfInBounds_toArray, List.set_cons_zero, List.set_cons_succ]
  (refine RegH.tkH (i := 32) (d := 130) (v := ?_) rfl rfl (by kernel_rfl) (by kernel_rfl) (by kernel_rfl) (fun _ _ _ h => h) (Or.inl ⟨by rfl, ?_⟩) hS ?_; rotate_left; (intro w hSw; (try dsimp only at hSw); go_simp); try (with_reducible rfl))
  try simp only [Act.put, List.setIfInBounds_toArray, List.set_cons_zero, List.set_cons_succ]
  (refine RegH.tkH (i := 33) (d := 131) (v := ?_) rfl rfl (by kernel_rfl) (by kernel_rfl) (by kernel_rfl) (fun _ _ _ h => h) (Or.inl ⟨by rfl, ?_⟩) hS ?_; rotate_left; (intro w hSw; (try dsimp only at hSw); go_simp); try (with_reducible rfl))
  try simp only [Act.put, List.setIfInBounds_toArray, List.set_cons_zero, List.set_cons_succ]
  refine RegH.oneH (i := 34) (by kernel_rfl) rfl (fun K hK => ?_)
  go_simp
  refine hK.out _ _ (Kd.C_alloc hS _) (fun hS => ?_)
  clear hK K
  try simp only [Act.put, List.setIfInBounds_toArray, List.set_cons_zero, List.set_cons_succ]
  refine RegH.oneH (i := 35) (by kernel_rfl) rfl (fun K hK => ?_)
  go_simp
  have hap := append_ok w1.heap.size (l0.length : Int) (nn : Int) (zs) (some ⟨w13.heap.size, 0, none⟩) 1 [l0.drop nn] _ w1 (w13.alloc (.cells #[.slice AG (l0.drop nn).length (c0 - nn)] 28)) (HI13.out.below (ins1 (Below.refl _ _) (Nat.le_refl _) _)) (ins1 HB13.out HB13.out.size _)
    (one_args (Kd.C_kept_came (Kd.heap_int .u8) HCG.out (ins1 HB13.out HB13.out.size _) (fun k h => h.1)) (heap_alloc_new w13 _) (fun h => by have := h.2; omega) (by rw [HLG.out]; omega)) (by simp) (by simp) (by omega) (by simp only [tot, List.flatten_cons, List.flatten_nil, List.append_nil]; rw [HLG.out, HZL.out]; omega)
  rw [HLG.out] at hap
  simp only [List.flatten_cons, List.flatten_nil, List.append_nil] at hap
  rw [HJN.out] at hap
  refine Calls.mono (hap) ?_
  rintro e w14 ⟨rfl, hI, hB, -⟩
  have HI14 := Aside0.mk (IsD_new hI)
  have HB14 := Aside0.mk hB
  clear hI hB
  clear hap
  go_wp2_with (fail)
  refine hK.out _ _ (Kd.C_below HC1.out HB14.out) (fun hS => ?_)
  clear hK K
  try simp only [Act.put, List.setIfInBounds_toArray, List.set_cons_zero, List.set_cons_succ]
  (refine RegH.tkH (i := 36) (d := 134) (v := ?_) rfl rfl (by kernel_rfl) (by kernel_rfl) (by kernel_rfl) (fun _ _ _ h => h) (Or.inl ⟨by rfl, ?_⟩) hS ?_; rotate_left; (intro w hSw; (try dsimp only at hSw); go_simp); try (with_reducible rfl))
  try simp only [Act.put, List.setIfInBounds_toArray, List.set_cons_zero, List.set_cons_succ]
  (refine RegH.tkH (i := 37) (d := 135) (v := ?_) rfl rfl (by kernel_rfl) (by kernel_rfl) (by kernel_rfl) (fun _ _ _ h => h) (Or.inl ⟨by rfl, ?_⟩) hS ?_; rotate_left; (intro w hSw; (try dsimp only at hSw); go_simp); try (with_reducible rfl))
  try simp only [Act.put, List.setIfInBounds_toArray, List.set_cons_zero, List.set_cons_succ]
  (refine RegH.tkH (i := 38) (d := 136) (v := ?_) rfl rfl (by kernel_rfl) (by kernel_rfl) (by kernel_rfl) (fun _ _ _ h => h) (Or.inl ⟨by rfl, ?_⟩) hS ?_; rotate_left; (intro w hSw; (try dsimp only at hSw); go_simp); try (with_reducible rfl))
  try simp only [Act.put, List.setIfInBounds_toArray, List.set_cons_zero, List.set_cons_succ]
  (refine RegH.tkH (i := 39) (d := 137) (v := ?_) rfl rfl (by kernel_rfl) (by kernel_rfl) (by kernel_rfl) (fun _ _ _ h => h) (Or.inl ⟨by rfl, ?_⟩) hS ?_; rotate_left; (intro w hSw; (try dsimp only at hSw); go_simp); try (with_reducible rfl))
  try simp only [Act.put, List.setIfInBounds_toArray, List.set_cons_zero, List.set_cons_succ]
  (refine RegH.tkH (i := 42) (d := 140) (v := ?_) rfl rfl (by kernel_rfl) (by kernel_rfl) (by kernel_rfl) (fun _ _ _ h => h) (Or.inl ⟨by rfl, ?_⟩) hS ?_; rotate_left; (intro w hSw; (try dsimp only at hSw); go_simp); try (with_reducible rfl))
  try simp only [Act.put, List.setIfInBounds_toArray, List.set_cons_zero, List.set_cons_succ]
  (refine RegH.tkH (i := 43) (d := 141) (v := ?_) rfl rfl (by kernel_rfl) (by kernel_rfl) (by kernel_rfl) (fun _ _ _ h => h) (Or.inl ⟨by rfl, ?_⟩) hS ?_; rotate_left; (intro w hSw; (try dsimp only at hSw); (have hq := Kd.C_string (P := Try.prog) (c := c0) Try.underlying28 Try.underlying5 Try.underlying9 hSw; rw [← HTL.out] at hq); clear hSw; go_simp); try (with_reducible rfl))
  try simp only [Act.put, List.setIfInBounds_toArray, List.set_cons_zero, List.set_cons_succ]
  refine RegH.oneH (i := 40) (by kernel_rfl) rfl (fun K hK => ?_)
  go_simp
  refine Calls.mono (Disk.bytes w1.heap.size (l0.length : Int) (nn : Int) l0 _ w1 _ HI14.out HB14.out (by omega)) ?_
  rintro e w15 ⟨v15, rfl, hR, hI, hB, -⟩
  have HI15 := Aside0.mk (IsD_new hI)
  have HB15 := Aside0.mk hB
  clear hI hB
  obtain ⟨A15, c15, rfl⟩ := Kd.R_slice hR
  obtain ⟨_, _, hC⟩ := Kd.R_reads' hR
  have hcv15 := Kd.C_string (P := Try.prog) (c := c15) Try.underlying28 Try.underlying5 Try.underlying9 hC
  rw [← HTL.out] at hcv15
  clear hR hC
  go_wp2_with (fail)
  refine hK.out _ _ (Kd.C_below HC1.out HB15.out) (fun hS => ?_)
  clear hK K
  try simp only [Act.put, List.setIfInBounds_toArray, List.set_cons_zero, List.set_cons_succ]
  refine RegH.oneH (i := 41) (by kernel_rfl) rfl (fun K hK => ?_)
  go_simp
  refine hK.out _ _ (Kd.C_below HC1.out HB15.out) (fun hS => ?_)
  clear hK K
  try simp only [Act.put, List.setIfInBounds_toArray, List.set_cons_zero, List.set_cons_succ]
  (refine RegH.tkH (i := 44) (d := 142) (v := ?_) rfl rfl (by kernel_rfl) (by kernel_rfl) (by kernel_rfl) (fun _ _ _ h => h) (Or.inl ⟨by rfl, ?_⟩) hS ?_; rotate_left; (intro w hSw; (try dsimp only at hSw); go_simp); try (with_reducible rfl))
  try simp only [Act.put, List.setIfInBounds_toArray, List.set_cons_zero, List.set_cons_succ]
  (refine RegH.tkH (i := 45) (d := 143) (v := ?_) rfl rfl (by kernel_rfl) (by kernel_rfl) (by kernel_rfl) (fun _ _ _ h => h) (Or.inl ⟨by rfl, ?_⟩) hS ?_; rotate_left; (intro w hSw; (try dsimp only at hSw); go_simp); try (with_reducible rfl))
  try simp only [Act.put, List.setIfInBounds_toArray, List.set_cons_zero, List.set_cons_succ]
  (refine RegH.tkH (i := 46) (d := 144) (v := ?_) rfl rfl (by kernel_rfl) (by kernel_rfl) (by kernel_rfl) (fun _ _ _ h => h) (Or.inl ⟨by rfl, ?_⟩) hS ?_; rotate_left; (intro w hSw; (try dsimp only at hSw); go_simp); try (with_reducible rfl))
  try simp only [Act.put, List.setIfInBounds_toArray, List.set_cons_zero, List.set_cons_succ]
  (refine RegH.tkH (i := 47) (d := 145) (v := ?_) rfl rfl (by kernel_rfl) (by kernel_rfl) (by kernel_rfl) (fun _ _ _ h => h) (Or.inl ⟨by rfl, ?_⟩) hS ?_; rotate_left; (intro w hSw; (try dsimp only at hSw); go_simp); try (with_reducible rfl))
  try simp only [Act.put, List.setIfInBounds_toArray, List.set_cons_zero, List.set_cons_succ]
  (refine RegH.tkH (i := 49) (d := 147) (v := ?_) rfl rfl (by kernel_rfl) (by kernel_rfl) (by kernel_rfl) (fun _ _ _ h => h) (Or.inl ⟨by rfl, ?_⟩) hS ?_; rotate_left; (intro w hSw; (try dsimp only at hSw); go_simp); try (with_reducible rfl))
  try simp only [Act.put, List.setIfInBounds_toArray, List.set_cons_zero, List.set_cons_succ]
  refine RegH.oneH (i := 48) (by kernel_rfl) rfl (fun K hK => ?_)
  go_simp
  refine Calls.mono (safe_ w1.heap.size (l0.length : Int) (nn : Int) l0 _ w1 _ HI15.out HB15.out) ?_
  rintro e w16 ⟨rfl, -, hI, hB, -⟩
  have HI16 := Aside0.mk (IsD_new hI)
  have HB16 := Aside0.mk hB
  clear hI hB
  clear hcv15
  go_wp2_with (fail)
  refine hK.out _ _ (Kd.C_below HC1.out HB16.out) (fun hS => ?_)
  clear hK K
  try simp only [Act.put, List.setIfInBounds_toArray, List.set_cons_zero, List.set_cons_succ]
  (refine RegH.tkH (i := 50) (d := 148) (v := ?_) rfl rfl (by kernel_rfl) (by kernel_rfl) (by kernel_rfl) (fun _ _ _ h => h) (Or.inl ⟨by rfl, ?_⟩) hS ?_; rotate_left; (intro w hSw; (try dsimp only at hSw); go_simp); try (with_reducible rfl))
  try simp only [Act.put, List.setIfInBounds_toArray, List.set_cons_zero, List.set_cons_succ]
  (refine RegH.tkH (i := 51) (d := 149) (v := ?_) rfl rfl (by kernel_rfl) (by kernel_rfl) (by kernel_rfl) (fun _ _ _ h => h) (Or.inl ⟨by rfl, ?_⟩) hS ?_; rotate_left; (intro w hSw; (try dsimp only at hSw); go_simp); try (with_reducible rfl))
  try simp only [Act.put, List.setIfInBounds_toArray, List.set_cons_zero, List.set_cons_succ]
  (refine RegH.tkH (i := 52) (d := 6) (v := ?_) rfl rfl (by kernel_rfl) (by kernel_rfl) (by kernel_rfl) (fun _ _ _ h => h) (Or.inl ⟨by rfl, ?_⟩) hS ?_; rotate_left; (intro w hSw; (try dsimp only at hSw); go_simp); try (with_reducible rfl))
  try simp only [Act.put, List.setIfInBounds_toArray, List.set_cons_zero, List.set_cons_succ]
  refine wpAnyH_done (by kernel_rfl) ?_ _
  go_wp2
  go_ret
  exact ⟨rfl, below_step HB1.out HB16.out⟩

theorem walk (A0 : Option Addr) (c0 : Nat) (l0 : List Int) (fl ct : Int) (w : World) (hC0 : (Kd.int .u8).C w A0 l0.length l0) (hl0 : l0.length ≤ c0) :
    Calls Try.prog 5 #[.slice A0 l0.length c0, .int .i64 fl, .int .i64 ct] w fun e w' => e = .returned (.bool true) ∧ Below w.heap.size w w' := by
  by_cases h : 1000 < l0.length
  · exact many A0 c0 l0 fl ct w h hC0.2.1
  · exact main_ A0 c0 l0 fl ct w hC0 hl0 (by omega)

end Go.Proofs.Ytabiloklphjeiaa.Cuts
