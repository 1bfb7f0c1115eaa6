/-
  ArenaTurns' walk.
-/
import Derived.Test.YtlmeeafppigphaaProg
import Derived.Test.YtlmeeafppigphaaAMap
import Derived.Test.YtlmeeafppigphaaArena
import Derived.Test.YtlmeeafppigphaaAFree
import Derived.Test.YtlmeeafppigphaaAFree2
import Derived.Test.YtlmeeafppigphaaRegH
import Derived.Test.YtlmeeafppigphaaAPlain
import Derived.Test.YtlmeeafppigphaaAMany
import Derived.Test.YtlmeeafppigphaaAMany2
import Derived.Test.YtlmeeafppigphaaAPlain2
import Derived.Test.YtlmeeafppigphaaAAwake
import Derived.Test.YtlmeeafppigphaaPArenaActsx0
import Derived.Test.YtlmeeafppigphaaPArenaActsx2
import Derived.Below
import Derived.Deep.Draws
import Derived.Deep.AppendLies
import Derived.Maps.AppendAt
import Derived.OwnWalk
import Derived.Laws.BytesArg
import Derived.Laws.MakeOwn
import Derived.Laws.OwnMore
import Derived.Deep.OwnRows
import Derived.Tactics
import Derived.Lib.ConvBytes
import Derived.Laws.Slices
import Derived.WalkKit
import Derived.KernelRfl
import Derived.RowKit3
import Derived.Deep.LoopGhost
import Derived.Deep.QuietTactic
import Derived.BigQuiet
import Derived.WideLaws
import Derived.Deep.DeepCutAuto
import Derived.Deep.CutBlock
import Derived.Deep.RegionHeld3
import Derived.Laws.Rows
import Derived.Lib.AppendStr
import Derived.ArgAppend
import Derived.Laws.IdiomCopy
import Derived.OrdersHeld
import Derived.Laws.BitsLemmas
import Derived.RowKit
import Derived.Lib.SliceRun
import Derived.Test.YtlmeeafppigphaaWWords
import Derived.Test.YtlmeeafppigphaaWLast
import Derived.Test.YtlmeeafppigphaaWTab
import Derived.Test.YtlmeeafppigphaaWFour
import Derived.Test.YtlmeeafppigphaaWQPut
import Derived.Test.YtlmeeafppigphaaWApart
import Derived.Test.YtlmeeafppigphaaWArr
import Derived.Test.YtlmeeafppigphaaWZeros
import Derived.Test.YtlmeeafppigphaaWFoot
import Derived.Test.YtlmeeafppigphaaWKept
import Derived.Test.YtlmeeafppigphaaWShare
import Derived.Test.YtlmeeafppigphaaWN
import Derived.Test.YtlmeeafppigphaaWFootNe
import Derived.Test.YtlmeeafppigphaaWAt
import Derived.Test.YtlmeeafppigphaaWEqStruct
import Derived.Test.YtlmeeafppigphaaWRepsOne
import Derived.Test.YtlmeeafppigphaaWInv
import Derived.Test.YtlmeeafppigphaaWInvWords
import Derived.Test.YtlmeeafppigphaaWGuard
import Derived.Test.YtlmeeafppigphaaWNEv
import Derived.Test.YtlmeeafppigphaaWMore
namespace Go.Proofs.Ytlmeeafppigphaa.ATurns
open Go.RowKit Go.Proofs.YtlmeeafppigphaaW.PrintWords Go.Proofs.YtlmeeafppigphaaW.PrintLast Go.Proofs.YtlmeeafppigphaaW.PrintMore
set_option linter.unusedVariables false
set_option linter.unusedSimpArgs false
open Go.Proofs.Ytlmeeafppigphaa.AMap (GM TM Wf)
open Arena AFree AFree2 APlain AMany AMany2 APlain2
theorem ixb (x : Int) (K : Nat) (h1 : 1 ≤ K) (h2 : K ≤ 20) : 0 ≤ (wrap64 (x.tmod (K : Int) + (K : Int))).tmod (K : Int) ∧ (wrap64 (x.tmod (K : Int) + (K : Int))).tmod (K : Int) < (K : Int) := by
  have a := Int.tmod_lt_of_pos x (b := (K : Int)) (by omega)
  have b : -(K : Int) < x.tmod (K : Int) := by
    have := Int.tmod_lt_of_pos (-x) (b := (K : Int)) (by omega)
    rw [Int.neg_tmod] at this
    omega
  have e : wrap64 (x.tmod (K : Int) + (K : Int)) = x.tmod (K : Int) + (K : Int) := by unfold wrap64; omega
  rw [e]
  exact ⟨Int.tmod_nonneg _ (by omega), Int.tmod_lt_of_pos _ (by omega)⟩
theorem kb (x : Int) : ∃ K : Nat, wrap64 (1 + (wrap64 (x.tmod 20 + 20)).tmod 20) = (K : Int) ∧ 1 ≤ K ∧ K ≤ 20 := by
  have h := ixb x 20 (by decide) (by decide)
  have h0 : 0 ≤ (wrap64 (x.tmod 20 + 20)).tmod 20 := h.1
  have h1 : (wrap64 (x.tmod 20 + 20)).tmod 20 < 20 := h.2
  refine ⟨(1 + (wrap64 (x.tmod 20 + 20)).tmod 20).toNat, ?_, by omega, by omega⟩
  unfold wrap64 at *
  omega
set_option maxHeartbeats 4000000 in
set_option maxRecDepth 100000 in
theorem walk (a0 : Int) (A : Option Addr) (c : Nat) (l : List Int) (w : World) (hC : (Kd.int .i64).C w A l.length l) (hc : l.length ≤ c) :
    Calls Try.prog 5 #[.int .i64 a0, .slice A l.length c] w fun e w' => e = .returned (.bool true) ∧ Below w.heap.size w w' := by
  have HC := Aside0.mk hC
  clear hC
  by_cases hl : 40 < l.length
  · have hl2 : (40 : Int) < (l.length : Int) := by omega
    go_enter Try.func5, Try.ntmps5
    go_wp2_with fail
    refine Calls.mono (AAwake.awake _) ?_
    rintro e w1 ⟨rfl, hb⟩
    have HB := Aside0.mk hb
    clear hb
    go_wp2_with fail
    refine Calls.mono (AAwake.awake _) ?_
    rintro e w2 ⟨rfl, hb⟩
    have HB2 := Aside0.mk (below_step HB.out hb)
    clear hb
    go_wp2
    go_ret
    exact ⟨rfl, HB2.out⟩
  · have hl2 : (l.length : Int) ≤ 40 := by omega
    go_enter Try.func5, Try.ntmps5
    go_wp2_with fail
    refine Calls.mono (AAwake.awake _) ?_
    rintro e w1 ⟨rfl, hb⟩
    have HB := Aside0.mk hb
    clear hb
    go_wp2_with fail
    obtain ⟨K, hK, hK1, hK2⟩ := kb a0
    rw [hK]
    clear hK
    have hKn : (K : Int) ≠ 0 := by omega
    refine Calls.mono (new_ok (K : Int) w1 (by omega) (by omega)) ?_
    rintro e w2 ⟨rfl, hI, hb⟩
    obtain ⟨ok, hok⟩ : ∃ ok : Nat → Prop, ok = fun k => w1.heap.size ≤ k ∧ k ≤ w1.heap.size + 2 := ⟨_, rfl⟩
    rw [← hok] at hI
    obtain ⟨g, hg⟩ : ∃ g, g = w1.heap.size + 2 := ⟨_, rfl⟩
    rw [← hg] at hI ⊢
    obtain ⟨sz, hsz⟩ : ∃ sz : Ar, sz = ⟨(K : Int), fun _ => 0, fun _ => false, 0, [], 0⟩ := ⟨_, rfl⟩
    have iz : Inv 0 sz := by rw [hsz]; exact Inv_new _ (by omega) (by omega)
    have hroom : sz.room = (K : Int) := by rw [hsz]
    have hcnt : sz.cnt = 0 := by rw [hsz]
    rw [← hsz] at hI
    have HI := Aside0.mk hI
    have HOK := Aside0.mk (fun k (h : ok k) => by rw [hok] at h; exact h.1)
    have HB1 := Aside0.mk hb
    have HIZ := Aside0.mk iz
    have HRM := Aside0.mk hroom
    have HCT := Aside0.mk hcnt
    clear hI hb iz hok hsz hg hroom hcnt
    go_wp2_with fail
    refine Calls.mono (many_ok g 0 ok w1 w2 HI.out HB1.out HIZ.out K (by rw [HRM.out, HCT.out]; omega)) ?_
    rintro e w3 ⟨vo, hs, s3, hM, rfl, hR, hI, hb, hk⟩
    obtain ⟨A1, c1, rfl⟩ := Kd.R_slice hR
    have hr := Kd.R_reads' hR
    obtain ⟨i3, r3, ct3, n3, wf3⟩ := manyA_wf HIZ.out K hM
    have HR1 := Aside0.mk hR
    have HT := Aside0.mk (TInv_start i3 (by rw [ct3, r3, HRM.out, HCT.out]; omega))
    have HI2 := Aside0.mk HI.out
    have HI3 := Aside0.mk hI
    have HB3 := Aside0.mk hb
    have HN := Aside0.mk n3
    have HCN := Aside0.mk (show (s3.cnt : Int) = (K : Int) by rw [ct3, HCT.out]; omega)
    have HRO := Aside0.mk (show s3.room = (K : Int) by rw [r3, HRM.out])
    have HWF := Aside0.mk (show ∀ h, h ∈ hs → Wf h.f0 from fun h hh => AMap.wf_of (by have := wf3 h hh; omega) (by have := wf3 h hh; rw [HRM.out] at this; omega))
    clear hR hr i3 r3 ct3 n3 wf3 hI hb hk hM HIZ HRM HCT HI HB1
    go_wp2
    have HL2 := Aside0.mk (fun q (h : ok q) => IsA.lt HI2.out h)
    have HRB := Aside0.mk (Kd.R_mono (ok' := fun q => w2.heap.size ≤ q ∧ q < w3.heap.size) (Kd.R_bound HR1.out) (fun q hq => ⟨hq.1, hq.2.2.1⟩))
    clear HR1 HI2
    go_loopg [10, 11] (l.length) (fun kq v10 v11 wr => ∃ (i : Nat) (fs : List H) (s : Ar) (n : Nat) (okk okf : Nat → Prop), v11 = .int .i64 i ∧ Aside0 (i + kq = l.length) ∧ i ≤ l.length ∧ Aside0 (TInv n s fs) ∧ Aside0 (n ≤ i) ∧ Aside0 (fs.length ≤ i) ∧ Aside0 (s.room = (K : Int)) ∧ Aside0 (IsA w1.heap.size okk wr g n s) ∧ Aside0 (∀ q, okk q → ok q ∨ w3.heap.size ≤ q) ∧ Aside0 (∀ q, okf q → q < wr.heap.size ∧ ¬ okk q ∧ w3.heap.size ≤ q) ∧ Aside0 (Kd.R kH 30 wr w1.heap.size okf v10 fs) ∧ Aside0 (Kd.R kH 30 wr w1.heap.size (fun q => w2.heap.size ≤ q ∧ q < w3.heap.size) (.slice A1 hs.length c1) hs) ∧ Aside0 (Below w1.heap.size w1 wr) ∧ Aside0 (w3.heap.size ≤ wr.heap.size))
    case atStart => exact ⟨0, [], s3, 0, ok, fun _ => False, rfl, ⟨by omega⟩, Nat.zero_le _, HT, ⟨Nat.le_refl _⟩, ⟨Nat.le_refl _⟩, HRO, HI3, ⟨fun q h => .inl h⟩, ⟨fun q h => h.elim⟩, ⟨Kd.R_nil _ _ _ _ _⟩, HRB, HB3, ⟨Nat.le_refl _⟩⟩
    case round =>
      clear HT HRO HI3 HRB HB3
      obtain ⟨i, fs, s, n, okk, okf, rfl, HQ, hi, HT, HNN, HFN, HRO, HIA, HOK2, HOF, HRF, HRB, HB3, HSZ⟩ := hrel
      by_cases hlt : i < l.length
      · obtain ⟨ad0, e0, hx⟩ := Kd.at_int (Kd.C_below HC.out (below_step HB.out HB3.out)) (i : Int) (by omega) (by omega)
        rw [Int.toNat_natCast] at hx
        obtain ⟨x, hxe⟩ : ∃ x, x = rd l (i : Int) := ⟨_, rfl⟩
        rw [← hxe] at hx
        have hixb := ixb x K hK1 hK2
        obtain ⟨p, hp⟩ : ∃ p : Nat, (wrap64 (x.tmod (K : Int) + (K : Int))).tmod (K : Int) = (p : Int) := ⟨_, (Int.toNat_of_nonneg hixb.1).symm⟩
        rw [hp] at hixb
        have hpl : p < hs.length := by rw [HN.out]; omega
        obtain ⟨ad1, e1, hx0, hx1⟩ := PArenaActs.at_T30 (Kd.R_reads' HRB.out).2.2 (p : Int) (by omega) (by omega)
        rw [hd_nat hs p hpl] at hx0 hx1
        rw [Int.toNat_natCast] at hx0 hx1
        have HWX := Aside0.mk (HWF.out _ (List.getElem_mem hpl))
        obtain ⟨⟨hx_, hy_⟩, hhe⟩ : ∃ h, h = hs[p] := ⟨_, rfl⟩
        rw [← hhe] at hx0 hx1 HWX
        dsimp only at hx0 hx1 HWX
        have hpb : (p : Int) < (hs.length : Int) := by omega
        clear hhe hixb hxe
        cases e0
        cases e1
        go_wp2_with fail
        obtain ⟨wf, hwf⟩ : ∃ wf, wf = (wr.alloc (.cells #[.int .i64 hx_, .int .i64 hy_] 30)).alloc (.cells #[.int .i64 hx_, .int .i64 hy_] 30) := ⟨_, rfl⟩
        have hbe : Below wr.heap.size wr wf := by rw [hwf]; exact ins1 (below_alloc (Below.refl _ _) _) (by simp) _
        have haf := heap_alloc2_new wr (.cells #[.int .i64 hx_, .int .i64 hy_] 30) (.cells #[.int .i64 hx_, .int .i64 hy_] 30)
        have hpf := blk_alloc (heap_alloc_new wr (.cells #[.int .i64 hx_, .int .i64 hy_] 30)) (.cells #[.int .i64 hx_, .int .i64 hy_] 30)
        have hszf : wf.heap.size = wr.heap.size + 2 := by rw [hwf]; simp
        rw [← hwf] at haf hpf ⊢
        clear hwf hx hx0 hx1
        have hn1 : ∀ q, wr.heap.size ≤ q → ¬ okk q := fun q hq h => by have := HIA.out.lt h; omega
        have hbf := below_step HB3.out hbe
        have HIF := Aside0.mk (HIA.out.below hbe)
        have HRFF := Aside0.mk (Kd.R_below HRF.out hbe)
        have HRBF := Aside0.mk (Kd.R_below HRB.out hbe)
        have hh : Wf hx_ := HWX.out
        cases hlv : liveA s ⟨hx_, hy_⟩ with
        | false =>
          refine Calls.mono (free_bad g n s (some ⟨wr.heap.size + 1, 0, none⟩) 1 [⟨hx_, hy_⟩] okk w1 wf HIF.out (fun W' hk => handle_blk (h := ⟨hx_, hy_⟩) (t := 30) (mk := (0, 0)) (blk_below haf hk)) (fun j hj => by
            match j, hj with
            | 0, _ => exact hh) (by simp) (by rw [chk_one]; exact hlv)) ?_
          rintro e w5 ⟨rfl, hb5⟩
          have HB5 := Aside0.mk (below_step hbf hb5)
          have HR5 := Aside0.mk (Kd.R_below HRFF.out hb5)
          have HRB5 := Aside0.mk (Kd.R_below HRBF.out hb5)
          have HI5 := Aside0.mk (HIF.out.below hb5)
          have HS5 := Aside0.mk (show wr.heap.size ≤ w5.heap.size from Nat.le_trans hbe.size hb5.size)
          clear hb5 hbf haf hpf hszf hn1 hbe hh HIF HRFF HRBF HIA HRF HRB HB3
          go_wp2
          go_roundg (l.length - (i + 1))
          case measure => have := HQ.out; omega
          case rel => exact ⟨i + 1, fs, s, n, okk, okf, by go_num, ⟨by have := HQ.out; omega⟩, by omega, HT, ⟨by have := HNN.out; omega⟩, ⟨by have := HFN.out; omega⟩, HRO, HI5, HOK2, ⟨fun q h => ⟨Nat.lt_of_lt_of_le (HOF.out q h).1 HS5.out, (HOF.out q h).2⟩⟩, HR5, HRB5, HB5, ⟨Nat.le_trans HSZ.out HS5.out⟩⟩
        | true =>
          refine Calls.mono (free_ok g n s (some ⟨wr.heap.size + 1, 0, none⟩) 1 [⟨hx_, hy_⟩] okk w1 wf HIF.out hbf (fun W' hk => handle_blk (h := ⟨hx_, hy_⟩) (t := 30) (mk := (0, 0)) (blk_kept haf hk (hn1 _ (by omega)))) (fun j hj => by
            match j, hj with
            | 0, _ => exact hh) (by simp) (by rw [chk_one]; exact hlv) HT.out.inv.gb (by have := HNN.out; simp; omega) (by have := HT.out.free; have h2 := HFN.out; rw [this]; simp; omega)) ?_
          rintro e w5 ⟨rfl, hI5, hb5, hk5⟩
          have HI5 := Aside0.mk (show IsA w1.heap.size (fun q => okk q ∨ wf.heap.size ≤ q ∧ q < w5.heap.size) w5 g (n + 1) (fr s ⟨hx_, hy_⟩) from hI5)
          have HB5 := Aside0.mk hb5
          have hp5 := blk_kept hpf hk5 (hn1 _ (Nat.le_refl _))
          have hz0 : w5.cell? ⟨wr.heap.size, 0, none⟩ = some (.int .i64 hx_) := (blk_cell hp5 0).trans rfl
          have hz1 : w5.cell? ⟨wr.heap.size, 1, none⟩ = some (.int .i64 hy_) := (blk_cell hp5 1).trans rfl
          have HR5 := Aside0.mk (Kd.R_kept HRFF.out hk5 (fun q h h2 => (HOF.out q h).2.1 h2))
          have HRB5 := Aside0.mk (Kd.R_kept HRBF.out hk5 (fun q h h2 => (HOK2.out q h2).elim (fun h3 => by have := HL2.out q h3; have := h.1; omega) (fun h3 => by have := h.2; omega)))
          have HS5 := Aside0.mk (show wr.heap.size ≤ wf.heap.size ∧ wf.heap.size ≤ w5.heap.size from ⟨hbe.size, hk5.1⟩)
          have HT5 := Aside0.mk (TInv_free HT.out hlv)
          have HCAP := Aside0.mk (show (fs.length + 1) * 16 ≤ 140737488355328 by have := HFN.out; omega)
          clear hI5 hb5 hk5 hp5 hbf haf hpf hszf hn1 hbe hh HIF HRFF HRBF HIA HRF HRB HB3
          go_wp2_with (((with_reducible refine gate_dst (N := 71) rfl ?_); refine Kd.R_append_rows kH (w0 := w1) w1.heap.size rfl (.tmp 68) (.tmp 70) 28 30 (.agg #[.int .i64 0, .int .i64 0]) 16 rfl Try.underlying28 PArenaActs.info30 rfl (by decide) (by decide) _ fs [⟨hx_, hy_⟩] (some ⟨w5.heap.size, 0, none⟩) 1 1 (fun q => okf q ∨ w5.heap.size ≤ q) (fun _ => False) rfl rfl (Kd.R_mono (Kd.R_alloc HR5.out (.cells #[.int .i64 hx_, .int .i64 hy_] 30)) (fun q h => .inl h)) (handle_blk (h := ⟨hx_, hy_⟩) (t := 30) (mk := (0, 0)) (heap_alloc_new w5 _)) (fun _ _ h => h) (fun _ h => h.elim) (fun q hq => .inr (by simp at hq; omega)) (ins1 HB5.out HB5.out.size _) (by have h1 := HB5.out.size; simp; omega) HCAP.out ?_); intro vo w6 hr6 hb6 hg6 _; have HR6 := Aside0.mk (Kd.R_mono (ok' := fun q => (okf q ∨ w5.heap.size ≤ q) ∧ q < w6.heap.size) (Kd.R_bound hr6) (fun q hq => ⟨hq.1, hq.2.2.1⟩)); have HB6 := Aside0.mk hb6; have hown := fun q e => HR5.out.1 q e; have hk6 := Kept.of_grown hg6 (Kept.refl _ (fun q => okf q)) (fun q e => .inl (hown q e)); have HI6 := Aside0.mk ((HI5.out.below (below_alloc (Below.refl _ _) _)).kept hk6 (fun q h h2 => h.elim (fun h => (HOF.out q h2).2.1 h) (fun h => by have h3 := (HOF.out q h2).1; have h4 := HS5.out.1; have h5 := h.1; omega))); have HRB6 := Aside0.mk (Kd.R_kept (Kd.R_alloc HRB5.out _) hk6 (fun q h h2 => by have := (HOF.out q h2).2.2; have := h.2; omega)); have HS6 := Aside0.mk (show w5.heap.size ≤ w6.heap.size from by have := hg6.size; simp at this; omega); clear hr6 hb6 hg6 hk6 hown)
          go_roundg (l.length - (i + 1))
          case measure => have := HQ.out; omega
          case rel => exact ⟨i + 1, fs ++ [⟨hx_, hy_⟩], fr s ⟨hx_, hy_⟩, n + 1, _, _, by go_num, ⟨by have := HQ.out; omega⟩, by omega, HT5, ⟨by have := HNN.out; omega⟩, ⟨by have := HFN.out; simp; omega⟩, HRO, HI6, ⟨fun q h => h.elim (fun h => HOK2.out q h) (fun h => .inr (by have := HSZ.out; have := HS5.out.1; have := h.1; omega))⟩, ⟨fun q h => ⟨h.2, (fun h2 => h.1.elim (fun h1 => h2.elim (fun h2 => (HOF.out q h1).2.1 h2) (fun h2 => by have := (HOF.out q h1).1; have := HS5.out.1; have := h2.1; omega)) (fun h1 => h2.elim (fun h2 => by have := HI5.out.lt (.inl h2); omega) (fun h2 => by have := h2.2; omega))), h.1.elim (fun h1 => (HOF.out q h1).2.2) (fun h1 => by have := HSZ.out; have := HS5.out.1; have := HS5.out.2; omega)⟩⟩, HR6, HRB6, HB6, ⟨by have := HSZ.out; have := HS5.out.1; have := HS5.out.2; have := HS6.out; omega⟩⟩
      · have hii : i = l.length := by omega
        subst hii
        obtain ⟨A2, c2, hu⟩ := Kd.R_slice HRF.out
        subst hu
        have hfl : fs.length ≤ 40 := by have := HFN.out; omega
        have HCF := Aside0.mk (Kd.R_reads' HRF.out).2.1
        have HGB := Aside0.mk (show ∀ f, f ∈ fs → f.f1 + 1 ≤ 1000 from fun f hf => by have h1 := HT.out.gen f hf; have h2 := HT.out.inv.gb f.f0; have h3 := HNN.out; omega)
        have HGL := Aside0.mk (show ∀ f, f ∈ fs → 0 ≤ f.f1 + 1 from fun f hf => by have h1 := HT.out.gen f hf; have h2 := HT.out.inv.gb f.f0; omega)
        clear HQ hi HNN HFN hlt HRB HOK2
        go_wp2
        go_loopg [13] (fs.length) (fun kq v13 wq => ∃ (j : Nat) (s : Ar), v13 = .int .i64 ((j : Int) - 1) ∧ Aside0 (j = kq) ∧ j ≤ fs.length ∧ Aside0 (TInv n s (fs.take j)) ∧ Aside0 (s.room = (K : Int)) ∧ Aside0 (IsA w1.heap.size okk wq g n s) ∧ Aside0 (Kd.R kH 30 wq w1.heap.size okf (.slice A2 fs.length c2) fs) ∧ Aside0 (Below w1.heap.size w1 wq))
        case atStart => exact ⟨fs.length, s, by go_num, ⟨rfl⟩, Nat.le_refl _, ⟨by rw [List.take_length]; exact HT.out⟩, HRO, HIA, HRF, HB3⟩
        case round =>
          clear HT HRO HIA HRF HB3
          obtain ⟨j, s, rfl, HJ, hj, HT, HRO, HIA, HRF, HB3⟩ := hrel
          by_cases hj0 : 0 < j
          · obtain ⟨m, rfl⟩ : ∃ m, j = m + 1 := ⟨j - 1, by omega⟩
            have hm : m < fs.length := by omega
            have ht := HT.out
            rw [List.take_succ_eq_append_getElem hm] at ht
            obtain ⟨s', htk, HT2⟩ := TInv_take ht
            obtain ⟨⟨x, y⟩, hxy⟩ : ∃ f, f = fs[m] := ⟨_, rfl⟩
            rw [← hxy] at htk
            dsimp only at htk
            have HTK := Aside0.mk htk
            have HT3 := Aside0.mk HT2
            clear ht htk HT2
            have hj1 : 0 ≤ (m : Int) := by omega
            rw [show (((m + 1 : Nat) : Int) - 1) = (m : Int) by omega]
            go_wp2_with fail
            refine Calls.mono (take_some g n okk w1 wr HIA.out HB3.out HT.out.inv HTK.out) ?_
            rintro e w5 ⟨rfl, hI5, hb5, hk5⟩
            have hgb := HGB.out _ (List.getElem_mem hm)
            have hgl := HGL.out _ (List.getElem_mem hm)
            have HI5 := Aside0.mk (hI5.below (below_alloc (Below.refl _ _) (.cells #[.int .i64 x, .int .i64 (y + 1)] 30)))
            have HB5 := Aside0.mk (ins1 hb5 hb5.size (.cells #[.int .i64 x, .int .i64 (y + 1)] 30))
            have HR5 := Aside0.mk (Kd.R_alloc (Kd.R_kept HRF.out hk5 (fun q h h2 => (HOF.out q h).2.1 h2)) (.cells #[.int .i64 x, .int .i64 (y + 1)] 30))
            have hn7 := heap_alloc_new w5 (.cells #[.int .i64 x, .int .i64 (y + 1)] 30)
            obtain ⟨ad2, e2, -, -⟩ := PArenaActs.at_T30 (Kd.R_reads' HR5.out).2.2 (m : Int) (by omega) (by omega)
            have hcs : ∀ W, Below (w5.alloc (.cells #[.int .i64 x, .int .i64 (y + 1)] 30)).heap.size (w5.alloc (.cells #[.int .i64 x, .int .i64 (y + 1)] 30)) W → W.cell? (ad2.add (m * 2)) = some (.int .i64 x) ∧ W.cell? ⟨(ad2.add (m * 2)).block, (ad2.add (m * 2)).off + 1, none⟩ = some (.int .i64 y) := fun W h => by
              obtain ⟨ad3, e3, h0, h1⟩ := PArenaActs.at_T30 (Kd.C_below (Kd.R_reads' HR5.out).2.2 h) (m : Int) (by omega) (by omega)
              rw [e2] at e3
              cases e3
              rw [hd_nat fs m hm, Int.toNat_natCast, ← hxy] at h0 h1
              exact ⟨h0, h1⟩
            obtain ⟨w7, hw7⟩ : ∃ w7, w7 = w5.alloc (.cells #[.int .i64 x, .int .i64 (y + 1)] 30) := ⟨_, rfl⟩
            have hsz7 : w7.heap.size = w5.heap.size + 1 := by rw [hw7]; simp
            rw [← hxy] at hgb hgl
            dsimp only at hgb hgl
            cases e2
            go_wp2_with fail
            rw [← hw7] at HI5 HB5 HR5 hn7 hcs ⊢
            have hr0 : ∀ W, Below w7.heap.size w7 W → W.cell? (ad2.add (m * 2)) = some (.int .i64 x) := fun W h => (hcs W h).1
            have hr1 : ∀ W, Below w7.heap.size w7 W → W.cell? ⟨(ad2.add (m * 2)).block, (ad2.add (m * 2)).off + 1, none⟩ = some (.int .i64 y) := fun W h => (hcs W h).2
            have ht0 : ∀ W, Below w7.heap.size w7 W → W.cell? ⟨w5.heap.size, 0, none⟩ = some (.int .i64 x) := fun W h => (blk_cell (blk_below hn7 h) 0).trans rfl
            have ht1 : ∀ W, Below w7.heap.size w7 W → W.cell? ⟨w5.heap.size, 1, none⟩ = some (.int .i64 (y + 1)) := fun W h => (blk_cell (blk_below hn7 h) 1).trans rfl
            have hwr : IntKind.i64.wrap (y + 1) = y + 1 := by rw [IntKind.wrap_i64]; omega
            have hu30 := Try.underlying30
            clear hI5 hb5 hk5 HIA HRF HB3 hcs hn7 hw7 hxy hsz7 hgb hgl
            refine RegH.startH (fun W => Below w7.heap.size w7 W) (by kernel_rfl) rfl (below_drew1 (Below.refl _ _)) (fun hS => ?_)
            refine RegH.oneH (i := 0) (o := ⟨_, _, _, _, _, _⟩) (by kernel_rfl) rfl (fun K hK => ?_)
            go_simp
            refine hK.out _ _ (hS) (fun hS => ?_)
            clear hK K
            try simp only [Act.put, List.setIfInBounds_toArray, List.set_cons_zero, List.set_cons_succ]
            refine RegH.oneH (i := 1) (o := ⟨_, _, _, _, _, _⟩) (by kernel_rfl) rfl (fun K hK => ?_)
            go_simp
            refine hK.out _ _ (hS) (fun hS => ?_)
            clear hK K
            try simp only [Act.put, List.setIfInBounds_toArray, List.set_cons_zero, List.set_cons_succ]
            refine RegH.oneH (i := 2) (o := ⟨_, _, _, _, _, _⟩) (by kernel_rfl) rfl (fun K hK => ?_)
            go_simp
            refine hK.out _ _ (hS) (fun hS => ?_)
            clear hK K
            try simp only [Act.put, List.setIfInBounds_toArray, List.set_cons_zero, List.set_cons_succ]
            (refine RegH.tkH (i := 3) (d := 87) (oi := ⟨_, _, _, _, _, _⟩) (v := ?_) rfl rfl (by kernel_rfl) (by kernel_rfl) (by kernel_rfl) (fun _ _ _ h => h) (Or.inl ⟨by rfl, ?_⟩) hS ?_; rotate_left; (intro w hSw; (try dsimp only at hSw); go_simp); try (with_reducible rfl))
            try simp only [Act.put, List.setIfInBounds_toArray, List.set_cons_zero, List.set_cons_succ]
            (refine RegH.tkH (i := 4) (d := 88) (oi := ⟨_, _, _, _, _, _⟩) (v := ?_) rfl rfl (by kernel_rfl) (by kernel_rfl) (by kernel_rfl) (fun _ _ _ h => h) (Or.inl ⟨by rfl, ?_⟩) hS ?_; rotate_left; (intro w hSw; (try dsimp only at hSw); go_simp); try (with_reducible rfl))
            try simp only [Act.put, List.setIfInBounds_toArray, List.set_cons_zero, List.set_cons_succ]
            (refine RegH.tkH (i := 5) (d := 89) (oi := ⟨_, _, _, _, _, _⟩) (v := ?_) rfl rfl (by kernel_rfl) (by kernel_rfl) (by kernel_rfl) (fun _ _ _ h => h) (Or.inl ⟨by rfl, ?_⟩) hS ?_; rotate_left; (intro w hSw; (try dsimp only at hSw); go_simp); try (with_reducible rfl))
            try simp only [Act.put, List.setIfInBounds_toArray, List.set_cons_zero, List.set_cons_succ]
            (refine RegH.tkH (i := 6) (d := 90) (oi := ⟨_, _, _, _, _, _⟩) (v := ?_) rfl rfl (by kernel_rfl) (by kernel_rfl) (by kernel_rfl) (fun _ _ _ h => h) (Or.inl ⟨by rfl, ?_⟩) hS ?_; rotate_left; (intro w hSw; (try dsimp only at hSw); go_simp); try (with_reducible rfl))
            try simp only [Act.put, List.setIfInBounds_toArray, List.set_cons_zero, List.set_cons_succ]
            (refine RegH.tkH (i := 7) (d := 91) (oi := ⟨_, _, _, _, _, _⟩) (v := ?_) rfl rfl (by kernel_rfl) (by kernel_rfl) (by kernel_rfl) (fun _ _ _ h => h) (Or.inl ⟨by rfl, ?_⟩) hS ?_; rotate_left; (intro w hSw; (try dsimp only at hSw); go_simp); try (with_reducible rfl))
            try simp only [Act.put, List.setIfInBounds_toArray, List.set_cons_zero, List.set_cons_succ]
            (refine RegH.tkH (i := 8) (d := 92) (oi := ⟨_, _, _, _, _, _⟩) (v := ?_) rfl rfl (by kernel_rfl) (by kernel_rfl) (by kernel_rfl) (fun _ _ _ h => h) (Or.inl ⟨by rfl, ?_⟩) hS ?_; rotate_left; (intro w hSw; (try dsimp only at hSw); go_simp); try (with_reducible rfl))
            try simp only [Act.put, List.setIfInBounds_toArray, List.set_cons_zero, List.set_cons_succ]
            (refine RegH.tkH (i := 9) (d := 93) (oi := ⟨_, _, _, _, _, _⟩) (v := ?_) rfl rfl (by kernel_rfl) (by kernel_rfl) (by kernel_rfl) (fun _ _ _ h => h) (Or.inl ⟨by rfl, ?_⟩) hS ?_; rotate_left; (intro w hSw; (try dsimp only at hSw); go_simp); try (with_reducible rfl))
            try simp only [Act.put, List.setIfInBounds_toArray, List.set_cons_zero, List.set_cons_succ]
            (refine RegH.tkH (i := 10) (d := 94) (oi := ⟨_, _, _, _, _, _⟩) (v := ?_) rfl rfl (by kernel_rfl) (by kernel_rfl) (by kernel_rfl) (fun _ _ _ h => h) (Or.inl ⟨by rfl, ?_⟩) hS ?_; rotate_left; (intro w hSw; (try dsimp only at hSw); go_simp); try (with_reducible rfl))
            try simp only [Act.put, List.setIfInBounds_toArray, List.set_cons_zero, List.set_cons_succ]
            (refine RegH.tkH (i := 11) (d := 95) (oi := ⟨_, _, _, _, _, _⟩) (v := ?_) rfl rfl (by kernel_rfl) (by kernel_rfl) (by kernel_rfl) (fun _ _ _ h => h) (Or.inl ⟨by rfl, ?_⟩) hS ?_; rotate_left; (intro w hSw; (try dsimp only at hSw); go_simp); try (with_reducible rfl))
            try simp only [Act.put, List.setIfInBounds_toArray, List.set_cons_zero, List.set_cons_succ]
            (refine RegH.tkH (i := 12) (d := 96) (oi := ⟨_, _, _, _, _, _⟩) (v := ?_) rfl rfl (by kernel_rfl) (by kernel_rfl) (by kernel_rfl) (fun _ _ _ h => h) (Or.inl ⟨by rfl, ?_⟩) hS ?_; rotate_left; (intro w hSw; (try dsimp only at hSw); go_simp); try (with_reducible rfl))
            try simp only [Act.put, List.setIfInBounds_toArray, List.set_cons_zero, List.set_cons_succ]
            (refine RegH.tkH (i := 13) (d := 97) (oi := ⟨_, _, _, _, _, _⟩) (v := ?_) rfl rfl (by kernel_rfl) (by kernel_rfl) (by kernel_rfl) (fun _ _ _ h => h) (Or.inl ⟨by rfl, ?_⟩) hS ?_; rotate_left; (intro w hSw; (try dsimp only at hSw); go_simp); try (with_reducible rfl))
            try simp only [Act.put, List.setIfInBounds_toArray, List.set_cons_zero, List.set_cons_succ]
            refine RegH.oneH (i := 14) (o := ⟨_, _, _, _, _, _⟩) (by kernel_rfl) rfl (fun K hK => ?_)
            go_simp
            refine hK.out _ _ (hS) (fun hS => ?_)
            clear hK K
            try simp only [Act.put, List.setIfInBounds_toArray, List.set_cons_zero, List.set_cons_succ]
            refine RegH.oneH (i := 15) (o := ⟨_, _, _, _, _, _⟩) (by kernel_rfl) rfl (fun K hK => ?_)
            go_simp
            refine Calls.mono (PArenaActs.cobweblaw05_handle.calls x (y + 1) _ _ _ rfl) ?_
            rintro e v ⟨rfl, hb⟩
            have hS := below_step hS hb
            go_wp2_with (fail)
            refine hK.out _ _ (hS) (fun hS => ?_)
            clear hK K
            try simp only [Act.put, List.setIfInBounds_toArray, List.set_cons_zero, List.set_cons_succ]
            refine RegH.oneH (i := 16) (o := ⟨_, _, _, _, _, _⟩) (by kernel_rfl) rfl (fun K hK => ?_)
            go_simp
            refine hK.out _ _ (hS) (fun hS => ?_)
            clear hK K
            try simp only [Act.put, List.setIfInBounds_toArray, List.set_cons_zero, List.set_cons_succ]
            refine RegH.oneH (i := 17) (o := ⟨_, _, _, _, _, _⟩) (by kernel_rfl) rfl (fun K hK => ?_)
            go_simp
            refine hK.out _ _ (hS) (fun hS => ?_)
            clear hK K
            try simp only [Act.put, List.setIfInBounds_toArray, List.set_cons_zero, List.set_cons_succ]
            refine wpAnyH_done (by kernel_rfl) ?_ _
            go_wp2
            go_roundg m
            case measure => have := HJ.out; omega
            case rel => exact ⟨m, s', by go_num, ⟨rfl⟩, by omega, HT3, ⟨by have h := (Inv_take HT.out.inv HTK.out).2.room; rw [h]; exact HRO.out⟩, ⟨HI5.out.below hS⟩, ⟨Kd.R_below HR5.out hS⟩, ⟨below_step HB5.out hS⟩⟩
          · have hj1 : j = 0 := by omega
            subst hj1
            obtain ⟨hn, hcc⟩ := TInv_end HT.out
            rw [HRO.out] at hcc
            have HL := Aside0.mk hcc
            go_wp2_with fail
            refine Calls.mono (take_none g n okk w1 wr HIA.out hn) ?_
            rintro e w5 ⟨rfl, hb5⟩
            have HB5 := Aside0.mk (below_step HB3.out hb5)
            have HI5 := Aside0.mk (HIA.out.below hb5)
            clear hb5 HIA HB3 HRF hn
            go_wp2_with fail
            refine Calls.mono (len g n s okk w1 _ (HI5.out.below (below_alloc (Below.refl _ _) _))) ?_
            rintro e w6 ⟨rfl, rfl⟩
            rw [hcc]
            go_wp2
            go_ret
            exact ⟨by simp, below_step HB.out (ins1 HB5.out HB5.out.size _)⟩

end Go.Proofs.Ytlmeeafppigphaa.ATurns
