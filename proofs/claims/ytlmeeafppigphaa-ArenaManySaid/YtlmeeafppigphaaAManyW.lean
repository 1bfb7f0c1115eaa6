/-
  ArenaMany's walk.
-/
import Derived.Test.YtlmeeafppigphaaProg
import Derived.Test.YtlmeeafppigphaaAMap
import Derived.Test.YtlmeeafppigphaaArena
import Derived.Test.YtlmeeafppigphaaAFree
import Derived.Test.YtlmeeafppigphaaAFree2
import Derived.Test.YtlmeeafppigphaaRegH
import Derived.Test.YtlmeeafppigphaaAPlain
import Derived.Test.YtlmeeafppigphaaAMany
import Derived.Test.YtlmeeafppigphaaAMany2
import Derived.Test.YtlmeeafppigphaaAPlain2
import Derived.Test.YtlmeeafppigphaaAAwake
import Derived.Test.YtlmeeafppigphaaAOnce0
import Derived.Test.YtlmeeafppigphaaAMany0
import Derived.Test.YtlmeeafppigphaaPArenaActsx0
import Derived.Test.YtlmeeafppigphaaPArenaActsx2
import Derived.Below
import Derived.Deep.Draws
import Derived.Deep.AppendLies
import Derived.Maps.AppendAt
import Derived.OwnWalk
import Derived.Laws.BytesArg
import Derived.Laws.MakeOwn
import Derived.Laws.OwnMore
import Derived.Deep.OwnRows
import Derived.Tactics
import Derived.Lib.ConvBytes
import Derived.Laws.Slices
import Derived.WalkKit
import Derived.KernelRfl
import Derived.RowKit3
import Derived.Deep.LoopGhost
import Derived.Deep.QuietTactic
import Derived.BigQuiet
import Derived.WideLaws
import Derived.Deep.DeepCutAuto
import Derived.Deep.CutBlock
import Derived.Deep.RegionHeld3
import Derived.Laws.Rows
import Derived.Lib.AppendStr
import Derived.ArgAppend
import Derived.Laws.IdiomCopy
import Derived.OrdersHeld
import Derived.Laws.BitsLemmas
import Derived.RowKit
import Derived.Lib.SliceRun
import Derived.Test.YtlmeeafppigphaaWWords
import Derived.Test.YtlmeeafppigphaaWLast
import Derived.Test.YtlmeeafppigphaaWTab
import Derived.Test.YtlmeeafppigphaaWFour
import Derived.Test.YtlmeeafppigphaaWQPut
import Derived.Test.YtlmeeafppigphaaWApart
import Derived.Test.YtlmeeafppigphaaWArr
import Derived.Test.YtlmeeafppigphaaWZeros
import Derived.Test.YtlmeeafppigphaaWFoot
import Derived.Test.YtlmeeafppigphaaWKept
import Derived.Test.YtlmeeafppigphaaWShare
import Derived.Test.YtlmeeafppigphaaWN
import Derived.Test.YtlmeeafppigphaaWFootNe
import Derived.Test.YtlmeeafppigphaaWAt
import Derived.Test.YtlmeeafppigphaaWEqStruct
import Derived.Test.YtlmeeafppigphaaWRepsOne
import Derived.Test.YtlmeeafppigphaaWInv
import Derived.Test.YtlmeeafppigphaaWInvWords
import Derived.Test.YtlmeeafppigphaaWGuard
import Derived.Test.YtlmeeafppigphaaWNEv
import Derived.Test.YtlmeeafppigphaaWMore
namespace Go.Proofs.Ytlmeeafppigphaa.AManyW
open Go.RowKit Go.Proofs.YtlmeeafppigphaaW.PrintWords Go.Proofs.YtlmeeafppigphaaW.PrintLast Go.Proofs.YtlmeeafppigphaaW.PrintMore
set_option linter.unusedVariables false
set_option linter.unusedSimpArgs false
open Go.Proofs.Ytlmeeafppigphaa.AMap (GM TM Wf)
open Arena AFree AFree2 APlain AMany AMany2 APlain2 AOnce0 AMany0
theorem ixc (x : Int) (K : Nat) (h1 : 1 ≤ K) (h2 : K ≤ 100) : 0 ≤ (wrap64 (x.tmod (K : Int) + (K : Int))).tmod (K : Int) ∧ (wrap64 (x.tmod (K : Int) + (K : Int))).tmod (K : Int) < (K : Int) := by
  have a := Int.tmod_lt_of_pos x (b := (K : Int)) (by omega)
  have b : -(K : Int) < x.tmod (K : Int) := by
    have := Int.tmod_lt_of_pos (-x) (b := (K : Int)) (by omega)
    rw [Int.neg_tmod] at this
    omega
  have e : wrap64 (x.tmod (K : Int) + (K : Int)) = x.tmod (K : Int) + (K : Int) := by unfold wrap64; omega
  rw [e]
  exact ⟨Int.tmod_nonneg _ (by omega), Int.tmod_lt_of_pos _ (by omega)⟩
theorem kbn (x : Int) (N : Nat) (h1 : 1 ≤ N) (h2 : N ≤ 100) : ∃ K : Nat, (wrap64 (x.tmod (N : Int) + (N : Int))).tmod (N : Int) = (K : Int) ∧ K < N := by
  have h := ixc x N h1 h2
  exact ⟨_, (Int.toNat_of_nonneg h.1).symm, by omega⟩
theorem IsA.lower {base base' : Nat} {ok : Nat → Prop} {W : World} {g n : Nat} {s : Ar} (h : IsA base ok W g n s) (hb : base' ≤ base) : IsA base' ok W g n s := by
  obtain ⟨b1, b2, A, c, hb0, hL, hg, h1, h2, hn, hG, hT, hr⟩ := h
  exact ⟨b1, b2, A, c, hb0, hL, ⟨Nat.le_trans hb hg.1, hg.2⟩, ⟨Nat.le_trans hb h1.1, h1.2⟩, ⟨Nat.le_trans hb h2.1, h2.2⟩, hn, hG, hT, Kd.R_lower hr hb⟩
set_option maxHeartbeats 4000000 in
set_option maxRecDepth 100000 in
theorem walk (a0 a2 : Int) (A : Option Addr) (c : Nat) (l : List Int) (w : World) (hC : (Kd.int .i64).C w A l.length l) (hc : l.length ≤ c) :
    Calls Try.prog 4 #[.int .i64 a0, .slice A l.length c, .int .i64 a2] w fun e w' => e = .returned (.bool true) ∧ Below w.heap.size w w' := by
  have HC := Aside0.mk hC
  clear hC
  by_cases hl : 40 < l.length
  · have hl2 : (40 : Int) < (l.length : Int) := by omega
    go_enter Try.func4, Try.ntmps4
    go_wp2_with fail
    refine Calls.mono (AAwake.awake _) ?_
    rintro e w1 ⟨rfl, hb⟩
    have HB := Aside0.mk hb
    clear hb
    go_wp2_with fail
    refine Calls.mono (AAwake.awake _) ?_
    rintro e w2 ⟨rfl, hb⟩
    have HB2 := Aside0.mk (below_step HB.out hb)
    clear hb
    go_wp2
    go_ret
    exact ⟨rfl, HB2.out⟩
  · have hl2 : (l.length : Int) ≤ 40 := by omega
    go_enter Try.func4, Try.ntmps4
    go_wp2_with fail
    refine Calls.mono (AAwake.awake _) ?_
    rintro e w1 ⟨rfl, hb⟩
    have HB := Aside0.mk hb
    clear hb
    go_wp2_with fail
    obtain ⟨K, hK, hK1⟩ := kbn a0 30 (by decide) (by decide)
    obtain ⟨C2, hC2, hC3⟩ := kbn a2 40 (by decide) (by decide)
    rw [show ((30 : Nat) : Int) = 30 by rfl] at hK
    rw [show ((40 : Nat) : Int) = 40 by rfl] at hC2
    have HC2 := Aside0.mk hC2
    rw [hK]
    clear hK hC2
    refine Calls.mono (new_ok (K : Int) w1 (by omega) (by omega)) ?_
    rintro e w2 ⟨rfl, hI, hb⟩
    obtain ⟨okA, hokA⟩ : ∃ ok : Nat → Prop, ok = fun k => w1.heap.size ≤ k ∧ k ≤ w1.heap.size + 2 := ⟨_, rfl⟩
    rw [← hokA] at hI
    obtain ⟨ga, hga⟩ : ∃ g, g = w1.heap.size + 2 := ⟨_, rfl⟩
    rw [← hga] at hI ⊢
    obtain ⟨sz, hsz⟩ : ∃ sz : Ar, sz = ⟨(K : Int), fun _ => 0, fun _ => false, 0, [], 0⟩ := ⟨_, rfl⟩
    have iz : Inv 0 sz := by rw [hsz]; exact Inv_new _ (by omega) (by omega)
    have HIZ := Aside0.mk iz
    have HRM := Aside0.mk (show sz.room = (K : Int) by rw [hsz])
    have HCT := Aside0.mk (show sz.cnt = 0 by rw [hsz])
    have HSZ := Aside0.mk hsz
    rw [← hsz] at hI
    have HIA := Aside0.mk hI
    have HB2 := Aside0.mk hb
    clear hI hb iz hsz hga hokA
    go_wp2_with fail
    refine Calls.mono (new_ok (K : Int) w2 (by omega) (by omega)) ?_
    rintro e w3 ⟨rfl, hI, hb⟩
    obtain ⟨okB, hokB⟩ : ∃ ok : Nat → Prop, ok = fun k => w2.heap.size ≤ k ∧ k ≤ w2.heap.size + 2 := ⟨_, rfl⟩
    rw [← hokB] at hI
    obtain ⟨gb, hgb⟩ : ∃ g, g = w2.heap.size + 2 := ⟨_, rfl⟩
    rw [← hgb] at hI ⊢
    rw [← HSZ.out] at hI
    have HDAB := Aside0.mk (show ∀ q, okA q → ¬ okB q from fun q h h2 => by have h1 := IsA.lt HIA.out h; rw [hokB] at h2; exact absurd h2.1 (Nat.not_le.2 h1))
    have HIB := Aside0.mk (IsA.lower hI HB2.out.size)
    have HB3 := Aside0.mk (below_step HB2.out hb)
    have HIA3 := Aside0.mk (HIA.out.below hb)
    clear hI hb hgb hokB HIA HB2
    go_wp2_with fail
    refine Calls.mono (many_ok ga 0 okA w1 w3 HIA3.out HB3.out HIZ.out K (by rw [HRM.out, HCT.out]; omega)) ?_
    rintro e w4 ⟨vo, hs, s3, hM, rfl, hR, hI, hb, hk⟩
    obtain ⟨A1, c1, rfl⟩ := Kd.R_slice hR
    have HM := Aside0.mk hM
    have HIB4 := Aside0.mk (HIB.out.kept hk (fun q h h2 => HDAB.out q h2 h))
    have HLA := Aside0.mk (fun q (h : okA q) => IsA.lt HIA3.out h)
    have HLB := Aside0.mk (fun q (h : okB q) => IsA.lt HIB.out h)
    have HIA4 := Aside0.mk hI
    have HB4 := Aside0.mk hb
    have HR4 := Aside0.mk (Kd.R_mono (ok' := fun q => w3.heap.size ≤ q ∧ q < w4.heap.size) (Kd.R_bound hR) (fun q hq => ⟨hq.1, hq.2.2.1⟩))
    have HS4 := Aside0.mk (show w3.heap.size ≤ w4.heap.size from hk.1)
    clear hI hb hk hM hR HIA3 HIB HB3
    go_wp2_with fail
    refine Calls.mono (many_ok gb 0 okB w1 w4 HIB4.out HB4.out HIZ.out K (by rw [HRM.out, HCT.out]; omega)) ?_
    rintro e w5 ⟨vo, hs2, s4, hM, rfl, hR, hI, hb, hk⟩
    rw [HM.out] at hM
    simp only [Option.some.injEq, Prod.mk.injEq] at hM
    obtain ⟨rfl, rfl⟩ := hM
    obtain ⟨A2, c2, rfl⟩ := Kd.R_slice hR
    have HMI := Aside0.mk (MInv_start HIZ.out HCT.out HRM.out HM.out)
    have HN := Aside0.mk (show hs.length = K from HMI.out.ln)
    have hNI : (hs.length : Int) = (K : Int) := by rw [HN.out]
    have HIA5 := Aside0.mk (HIA4.out.kept hk (fun q h h2 => HDAB.out q h h2))
    have HIB5 := Aside0.mk hI
    have HB5 := Aside0.mk hb
    have HR5 := Aside0.mk (Kd.R_kept HR4.out hk (fun q h h2 => by have := HLB.out q h2; omega))
    have HRM5 := Aside0.mk (Kd.R_reads' hR)
    have HS5 := Aside0.mk (show w4.heap.size ≤ w5.heap.size from hk.1)
    clear hI hb hk hR HIB4 HIA4 HB4 HR4 HIZ HRM HCT HSZ HM
    go_wp2_with fail
    refine Calls.mono (PArenaActs.cobweblaw05_same.calls (hs.length + 1) A1 c1 hs A2 c2 hs true w5 (Kd.R_reads' HR5.out).2.2 (Kd.R_reads' HR5.out).2.1 HRM5.out.2.2 HRM5.out.2.1 (same_self hs (by rw [HN.out]; omega))) ?_
    rintro e w6 ⟨rfl, hd⟩
    have hbe : Below w5.heap.size w5 (w6.alloc (.map #[] 0)) := below_alloc hd.below _
    obtain ⟨w7, hw7⟩ : ∃ w7, w7 = w6.alloc (.map #[] 0) := ⟨_, rfl⟩
    obtain ⟨gm, hgm⟩ : ∃ gm, gm = w6.heap.size := ⟨_, rfl⟩
    have hT7 := AMap.TM.made w6
    have m2 := mk_map 40
    have hmk : (Instr.makeMap 40 none).run Try.prog w6 = .ok (.map (some gm)) w7 := by rw [hw7, hgm]; exact m2 w6
    rw [← hw7] at hbe hT7
    rw [← hgm] at hT7
    have HT7 := Aside0.mk hT7
    have HIA7 := Aside0.mk (HIA5.out.below hbe)
    have HIB7 := Aside0.mk (HIB5.out.below hbe)
    have HB7 := Aside0.mk (below_step HB5.out hbe)
    have HR7 := Aside0.mk (Kd.R_below HR5.out hbe)
    obtain ⟨okl, hokl⟩ : ∃ okl : Nat → Prop, okl = fun q => w3.heap.size ≤ q ∧ q < w4.heap.size := ⟨_, rfl⟩
    have hgs : w5.heap.size ≤ gm ∧ gm < w7.heap.size := ⟨by rw [hgm]; exact hd.below.size, by rw [hgm, hw7]; simp⟩
    have HGM := Aside0.mk (show w1.heap.size ≤ gm from Nat.le_trans HB5.out.size hgs.1)
    rw [← hokl] at HR7
    have HD7 := Aside0.mk (show (∀ q, okA q → ¬ okB q) ∧ (∀ q, okl q → q < w7.heap.size ∧ ¬ okA q ∧ ¬ okB q) ∧ (¬ okA gm ∧ ¬ okB gm ∧ ¬ okl gm) from
      ⟨HDAB.out, fun q h => by rw [hokl] at h; exact ⟨by have := HS5.out; omega, fun h2 => by have := HLA.out q h2; omega, fun h2 => by have := HLB.out q h2; omega⟩,
       fun h => by have := HLA.out _ h; have := HS4.out; have := HS5.out; omega, fun h => by have := HLB.out _ h; have := HS4.out; have := HS5.out; omega, fun h => by rw [hokl] at h; have := HS5.out; omega⟩)
    clear hd hbe hT7 m2 hw7 hgm hgs hokl HIA5 HIB5 HB5 HR5 HRM5 HDAB HLA HLB HS4 HS5
    go_wp2_with fail
    clear hmk hNI
    go_loopg [17] (l.length) (fun kq v17 wr => ∃ (i : Nat) (s : Ar) (n cg : Nat) (t : Int → Bool) (okA okB : Nat → Prop), v17 = .int .i64 i ∧ Aside0 (i + kq = l.length) ∧ i ≤ l.length ∧ Aside0 (MInv K n s hs t cg) ∧ Aside0 (n ≤ i ∧ cg ≤ i) ∧ Aside0 (IsA w1.heap.size okA wr ga n s) ∧ Aside0 (IsA w1.heap.size okB wr gb n s) ∧ Aside0 (TM wr gm t cg) ∧ Aside0 ((∀ q, okA q → ¬ okB q) ∧ (∀ q, okl q → q < wr.heap.size ∧ ¬ okA q ∧ ¬ okB q) ∧ (¬ okA gm ∧ ¬ okB gm ∧ ¬ okl gm)) ∧ Aside0 (Kd.R kH 30 wr w1.heap.size okl (.slice A1 hs.length c1) hs) ∧ Aside0 (Below w1.heap.size w1 wr))
    case atStart => exact ⟨0, s3, 0, 0, fun _ => false, okA, okB, rfl, ⟨by omega⟩, Nat.zero_le _, HMI, ⟨Nat.le_refl _, Nat.le_refl _⟩, HIA7, HIB7, HT7, HD7, HR7, HB7⟩
    case round =>
      clear HMI HIA7 HIB7 HT7 HD7 HR7 HB7
      obtain ⟨i, s, n, cg, t, okA, okB, rfl, HQ, hi, HM, HNN, HIA, HIB, HT, HD, HR, HB3⟩ := hrel
      by_cases hgo : i < l.length ∧ 0 < K
      · obtain ⟨hlt, hK0⟩ := hgo
        have hK0i : (0 : Int) < (K : Int) := by omega
        have hKn : (K : Int) ≠ 0 := by omega
        obtain ⟨ad0, e0, hx⟩ := Kd.at_int (Kd.C_below HC.out (below_step HB.out HB3.out)) (i : Int) (by omega) (by omega)
        rw [Int.toNat_natCast] at hx
        obtain ⟨x, hxe⟩ : ∃ x, x = rd l (i : Int) := ⟨_, rfl⟩
        rw [← hxe] at hx
        have hixb := ixc x K (by omega) (by omega)
        obtain ⟨p, hp⟩ : ∃ p : Nat, (wrap64 (x.tmod (K : Int) + (K : Int))).tmod (K : Int) = (p : Int) := ⟨_, (Int.toNat_of_nonneg hixb.1).symm⟩
        rw [hp] at hixb
        have hpl : p < hs.length := by rw [HN.out]; omega
        have hlk := HT.out.look (k := (p : Int)) (AMap.wf_of (by omega) (by omega))
        have hput := HT.out.put (k := (p : Int)) (by have := HNN.out.2; omega) (AMap.wf_of (by omega) (by omega))
        have HPUT := Aside0.mk hput
        clear hxe hput
        cases e0
        cases htp : t (p : Int) with
        | true =>
          rw [htp] at hlk
          clear HPUT
          go_wp2
          go_roundg (l.length - (i + 1))
          case measure => have := HQ.out; omega
          case rel => exact ⟨i + 1, s, n, cg, t, okA, okB, by go_num, ⟨by have := HQ.out; omega⟩, by omega, HM, ⟨by have := HNN.out; omega⟩, HIA, HIB, HT, HD, HR, HB3⟩
        | false =>
          rw [htp] at hlk
          obtain ⟨w5, hput, hT5, hg5⟩ := HPUT.out
          rw [htp, if_neg (by simp)] at hT5
          have HM2 := Aside0.mk (MInv_free HM.out p hpl htp)
          have HLV := Aside0.mk (HM.out.lv p hpl htp)
          have hbnd := HM.out.bd _ (List.getElem_mem hpl)
          have hk5 : Kept wr w5 (fun q => q = gm) := Kept.of_grown hg5 (Kept.refl _ _) (fun k e => .inl (by injection e with e; exact e.symm))
          have HIA5 := Aside0.mk (HIA.out.kept hk5 (fun q h h2 => HD.out.2.2.1 (by rw [← h2]; exact h)))
          have HIB5 := Aside0.mk (HIB.out.kept hk5 (fun q h h2 => HD.out.2.2.2.1 (by rw [← h2]; exact h)))
          have HT5 := Aside0.mk hT5
          have HR5 := Aside0.mk (Kd.R_kept HR.out hk5 (fun q h h2 => HD.out.2.2.2.2 (by rw [← h2]; exact h)))
          have HB5 := Aside0.mk (HB3.out.grown hg5 HB3.out.size (fun k e => by injection e with e; subst e; exact HGM.out))
          have HS5 := Aside0.mk (show wr.heap.size ≤ w5.heap.size ∧ gm < w5.heap.size from ⟨hk5.1, hT5.lt⟩)
          have HLB := Aside0.mk (show ∀ q, okB q → q < w5.heap.size from fun q h => IsA.lt HIB5.out h)
          obtain ⟨ad1, e1, hx0, hx1⟩ := PArenaActs.at_T30 (Kd.R_reads' HR5.out).2.2 (p : Int) (by omega) (by omega)
          rw [hd_nat hs p hpl] at hx0 hx1
          rw [Int.toNat_natCast] at hx0 hx1
          obtain ⟨⟨hx_, hy_⟩, hhe⟩ : ∃ h, h = hs[p] := ⟨_, rfl⟩
          rw [← hhe] at hx0 hx1 HM2 HLV hbnd
          dsimp only at hx0 hx1 hbnd
          have HWX := Aside0.mk (show Wf hx_ from AMap.wf_of (by omega) (by omega))
          have HHE := Aside0.mk hhe
          have hpb : (p : Int) < (hs.length : Int) := by omega
          clear hhe hixb hT5 hg5 hk5 hbnd HPUT HIA HIB HT HR HB3
          cases e1
          go_wp2_with fail
          obtain ⟨wf, hwf⟩ : ∃ wf, wf = w5.alloc (.cells #[.int .i64 hx_, .int .i64 hy_] 30) := ⟨_, rfl⟩
          have hbe : Below w5.heap.size w5 wf := by rw [hwf]; exact below_alloc (Below.refl _ _) _
          have haf := heap_alloc_new w5 (.cells #[.int .i64 hx_, .int .i64 hy_] 30)
          rw [← hwf] at haf ⊢
          have hnX : ¬ okA w5.heap.size := fun h => Nat.lt_irrefl _ (IsA.lt HIA5.out h)
          have hh : Wf hx_ := HWX.out
          have hbf := below_step HB5.out hbe
          refine Calls.mono (free_ok ga n s (some ⟨w5.heap.size, 0, none⟩) 1 [⟨hx_, hy_⟩] okA w1 wf (HIA5.out.below hbe) hbf (fun W' hk => handle_blk (h := ⟨hx_, hy_⟩) (t := 30) (mk := (0, 0)) (blk_kept haf hk hnX)) (fun j hj => by
            match j, hj with
            | 0, _ => exact hh) (by simp) (by rw [chk_one]; exact HLV.out) HM.out.inv.gb (by have := HNN.out; simp; omega) (by have h1 := HM.out.inv.ct; have h2 := HM.out.inv.f1; have h4 := HM.out.room; simp; omega)) ?_
          rintro e w6 ⟨rfl, hI5, hb5, hk5⟩
          have HIA6 := Aside0.mk (show IsA w1.heap.size (fun q => okA q ∨ wf.heap.size ≤ q ∧ q < w6.heap.size) w6 ga (n + 1) (fr s ⟨hx_, hy_⟩) from hI5)
          have hk6 : Kept w5 w6 okA := ((Kept.refl w5 okA).below hbe).then_ hk5 (fun _ h => .inl h)
          have HIB6 := Aside0.mk (HIB5.out.kept hk6 (fun q h h2 => HD.out.1 q h2 h))
          have HT6 := Aside0.mk (TM_kept HT5.out hk6 HD.out.2.2.1)
          have HR6 := Aside0.mk (Kd.R_kept HR5.out hk6 (fun q h h2 => (HD.out.2.1 q h).2.1 h2))
          have HB6 := Aside0.mk hb5
          have HS6 := Aside0.mk (show w5.heap.size < wf.heap.size ∧ wf.heap.size ≤ w6.heap.size from ⟨by rw [hwf]; simp, hk5.1⟩)
          obtain ⟨ad2, e2, hy0, hy1⟩ := PArenaActs.at_T30 (Kd.R_reads' HR6.out).2.2 (p : Int) (by omega) (by omega)
          rw [hd_nat hs p hpl] at hy0 hy1
          rw [Int.toNat_natCast, ← HHE.out] at hy0 hy1
          dsimp only at hy0 hy1
          cases e2
          clear hwf hbe haf hnX hh hbf hI5 hb5 hk5 hk6 hx0 hx1 hput hlk HIA5 HIB5 HT5 HR5 HB5
          go_wp2_with fail
          obtain ⟨wg, hwg⟩ : ∃ wf, wf = w6.alloc (.cells #[.int .i64 hx_, .int .i64 hy_] 30) := ⟨_, rfl⟩
          have hbe : Below w6.heap.size w6 wg := by rw [hwg]; exact below_alloc (Below.refl _ _) _
          have haf := heap_alloc_new w6 (.cells #[.int .i64 hx_, .int .i64 hy_] 30)
          rw [← hwg] at haf ⊢
          have hnX : ¬ okB w6.heap.size := fun h => Nat.lt_irrefl _ (IsA.lt HIB6.out h)
          have hh : Wf hx_ := HWX.out
          have hbf := below_step HB6.out hbe
          refine Calls.mono (free_ok gb n s (some ⟨w6.heap.size, 0, none⟩) 1 [⟨hx_, hy_⟩] okB w1 wg (HIB6.out.below hbe) hbf (fun W' hk => handle_blk (h := ⟨hx_, hy_⟩) (t := 30) (mk := (0, 0)) (blk_kept haf hk hnX)) (fun j hj => by
            match j, hj with
            | 0, _ => exact hh) (by simp) (by rw [chk_one]; exact HLV.out) HM.out.inv.gb (by have := HNN.out; simp; omega) (by have h1 := HM.out.inv.ct; have h2 := HM.out.inv.f1; have h4 := HM.out.room; simp; omega)) ?_
          rintro e w8 ⟨rfl, hI5, hb5, hk5⟩
          have HIB8 := Aside0.mk (show IsA w1.heap.size (fun q => okB q ∨ wg.heap.size ≤ q ∧ q < w8.heap.size) w8 gb (n + 1) (fr s ⟨hx_, hy_⟩) from hI5)
          have hk8 : Kept w6 w8 okB := ((Kept.refl w6 okB).below hbe).then_ hk5 (fun _ h => .inl h)
          have HIA8 := Aside0.mk (HIA6.out.kept hk8 (fun q h h2 => h.elim (fun h => HD.out.1 q h h2) (fun h => by have := IsA.lt HIB6.out h2; have := HS6.out; have h3 := HD.out; have h4 := h.1; exact absurd (HLB.out q h2) (by omega))))
          have HT8 := Aside0.mk (TM_kept HT6.out hk8 HD.out.2.2.2.1)
          have HR8 := Aside0.mk (Kd.R_kept HR6.out hk8 (fun q h h2 => (HD.out.2.1 q h).2.2 h2))
          have HB8 := Aside0.mk hb5
          have HS8 := Aside0.mk (show w6.heap.size < wg.heap.size ∧ wg.heap.size ≤ w8.heap.size from ⟨by rw [hwg]; simp, hk5.1⟩)
          have HLA6 := Aside0.mk (show ∀ q, (okA q ∨ wf.heap.size ≤ q ∧ q < w6.heap.size) → q < w6.heap.size from fun q h => IsA.lt HIA6.out h)
          clear hwg hbe haf hnX hh hbf hI5 hb5 hk5 hk8 hy0 hy1 HIA6 HIB6 HT6 HR6 HB6
          go_wp2
          go_roundg (l.length - (i + 1))
          case measure => have := HQ.out; omega
          case rel => exact ⟨i + 1, fr s ⟨hx_, hy_⟩, n + 1, cg + 1, _, _, _, by go_num, ⟨by have := HQ.out; omega⟩, by omega, ⟨by rw [HHE.out]; have h := HM2.out; rw [HHE.out] at h; exact h⟩, ⟨by have := HNN.out; omega⟩, HIA8, HIB8, HT8, ⟨⟨fun q h h2 => h.elim (fun h => h2.elim (HD.out.1 q h) (fun h2 => by have := HLA6.out q (.inl h); have := HS8.out; omega)) (fun h => h2.elim (fun h2 => by have := HLB.out q h2; have := HS6.out; omega) (fun h2 => by have := HS8.out; omega)), fun q h => ⟨by have := (HD.out.2.1 q h).1; have := HS5.out; have := HS6.out; have := HS8.out; omega, fun h2 => h2.elim (HD.out.2.1 q h).2.1 (fun h2 => by have := (HD.out.2.1 q h).1; have := HS5.out; have := HS6.out; omega), fun h2 => h2.elim (HD.out.2.1 q h).2.2 (fun h2 => by have := (HD.out.2.1 q h).1; have := HS5.out; have := HS6.out; have := HS8.out; omega)⟩, ⟨fun h => h.elim HD.out.2.2.1 (fun h => by have := HS5.out; have := HS6.out; omega), fun h => h.elim HD.out.2.2.2.1 (fun h => by have := HS5.out; have := HS6.out; have := HS8.out; omega), HD.out.2.2.2.2⟩⟩⟩, HR8, HB8⟩
      · by_cases hlt : i < l.length
        · have hK0 : K = 0 := by omega
          have hK0i : ¬ (0 : Int) < (K : Int) := by omega
          clear hK0
          have HINV := Aside0.mk HM.out.inv
          have hcn : (s.cnt : Int) = (K : Int) - (cg : Int) := by have := HM.out.cn; omega
          have hrm := HM.out.room
          have HCN := Aside0.mk hcn
          have HRM := Aside0.mk hrm
          have hwk : IntKind.i64.wrap ((K : Int) - (cg : Int)) = (K : Int) - (cg : Int) := by have h1 := HM.out.cn; rw [IntKind.wrap_i64]; omega
          clear hcn hrm
          by_cases hcc : (cg : Int) < (C2 : Int)
          · have hle := (show TM wr.drew gm t cg from HT.out.at rfl).len 3
            go_wp2_with fail
            rw [HC2.out]
            refine Calls.mono (many_full ga n okA w1 wr HIA.out HINV.out (C2 : Int) (by omega) (by have := HCN.out; have := HRM.out; omega)) ?_
            rintro e w5 ⟨rfl, rfl⟩
            go_wp2_with fail
            refine Calls.mono (len ga n s okA w1 wr.drew HIA.out.drew) ?_
            rintro e w6 ⟨rfl, rfl⟩
            rw [HCN.out]
            go_wp2
            go_ret
            exact ⟨by simp, below_step HB.out (below_drew1 HB3.out)⟩
          · go_wp2_with fail
            rw [HC2.out]
            refine Calls.mono (many_ok ga n okA w1 wr HIA.out HB3.out HINV.out C2 (by have := HCN.out; have := HRM.out; omega)) ?_
            rintro e w5 ⟨vo, xs, s', hMx, rfl, hR, hI, hb, hk⟩
            obtain ⟨A3, c3, rfl⟩ := Kd.R_slice hR
            have HMX := Aside0.mk hMx
            have HLB := Aside0.mk (show ∀ q, okB q → q < wr.heap.size from fun q h => IsA.lt HIB.out h)
            have HIA5 := Aside0.mk hI
            have HIB5 := Aside0.mk (HIB.out.kept hk (fun q h h2 => HD.out.1 q h2 h))
            have HB5 := Aside0.mk hb
            have HXL := Aside0.mk (manyA_wf HINV.out C2 hMx)
            obtain ⟨okx, hokx⟩ : ∃ okx : Nat → Prop, okx = fun q => wr.heap.size ≤ q := ⟨_, rfl⟩
            rw [← hokx] at hR
            have HX := Aside0.mk (show ∀ q, okx q → ¬ okB q from fun q h h2 => by rw [hokx] at h; exact absurd (HLB.out q h2) (Nat.not_lt.2 h))
            have HR5 := Aside0.mk hR
            have HD1 := Aside0.mk HD.out.1
            have hle := (show TM w5 gm t cg from TM_kept HT.out hk HD.out.2.2.1).len 3
            clear hR hI hb hk hMx hokx HIA HIB HT HR HB3 HM HD HLB
            go_wp2_with fail
            clear hle hwk
            go_loopg [22] (C2) (fun kq v22 wr => ∃ (j : Nat) (si : Ar), v22 = .int .i64 j ∧ Aside0 (j + kq = C2) ∧ j ≤ C2 ∧ Aside0 (manyA j s = some (xs.take j, si)) ∧ Aside0 (IsA w1.heap.size okA wr ga n s') ∧ Aside0 (IsA w1.heap.size okB wr gb n si) ∧ Aside0 (Kd.R kH 30 wr w1.heap.size okx (.slice A3 xs.length c3) xs) ∧ Aside0 (Below w1.heap.size w1 wr))
            case atStart => exact ⟨0, s, rfl, ⟨by omega⟩, Nat.zero_le _, ⟨rfl⟩, HIA5, HIB5, HR5, HB5⟩
            case round =>
              clear HIA5 HIB5 HR5 HB5
              obtain ⟨j, si, rfl, HJ, hj, HMJ, HIA, HIB, HR, HB3⟩ := hrel
              by_cases hjl : j < C2
              · have hjx : j < xs.length := by have := HXL.out.2.2.2.1; omega
                have HTJ : ∃ sj, Aside0 (takeA si = some (xs[j], sj)) ∧ Aside0 (manyA (j + 1) s = some (xs.take (j + 1), sj)) := by
                  obtain ⟨si', e1, e2⟩ := manyA_step C2 HMX.out j (by omega)
                  rw [HMJ.out] at e1
                  simp only [Option.some.injEq, Prod.mk.injEq, true_and] at e1
                  subst e1
                  obtain ⟨sj, e3, e4⟩ := e2 hjx
                  exact ⟨sj, ⟨e3⟩, ⟨e4⟩⟩
                obtain ⟨sj, HTJ, HMJ1⟩ := HTJ
                have HINJ := Aside0.mk (manyA_wf HINV.out j HMJ.out).1
                obtain ⟨⟨x, y⟩, hxy⟩ : ∃ h, h = xs[j] := ⟨_, rfl⟩
                have HXY := Aside0.mk hxy
                have htj := HTJ.out
                rw [← hxy] at htj
                have HTJ2 := Aside0.mk htj
                have hjb : (j : Int) < (xs.length : Int) := by omega
                clear hxy htj HTJ
                go_wp2_with fail
                refine Calls.mono (take_some gb n okB w1 wr HIB.out HB3.out HINJ.out HTJ2.out) ?_
                rintro e w6 ⟨rfl, hI6, hb6, hk6⟩
                obtain ⟨w7, hw7⟩ : ∃ w7, w7 = w6.alloc (.cells #[.int .i64 x, .int .i64 y] 30) := ⟨_, rfl⟩
                have hbe : Below w6.heap.size w6 w7 := by rw [hw7]; exact below_alloc (Below.refl _ _) _
                have hn7 : w7.heap[w6.heap.size]? = some (.cells #[.int .i64 x, .int .i64 y] 30 (0, 0)) := by rw [hw7]; exact heap_alloc_new _ _
                have HIA7 := Aside0.mk ((HIA.out.kept hk6 (fun q h h2 => HD1.out q h h2)).below hbe)
                have HIB7 := Aside0.mk (hI6.below hbe)
                have HB7 := Aside0.mk (below_step hb6 hbe)
                have HR7 := Aside0.mk (Kd.R_below (Kd.R_kept HR.out hk6 (fun q h h2 => HX.out q h h2)) hbe)
                have hz0 : w7.cell? ⟨w6.heap.size, 0, none⟩ = some (.int .i64 x) := (blk_cell hn7 0).trans rfl
                have hz1 : w7.cell? ⟨w6.heap.size, 1, none⟩ = some (.int .i64 y) := (blk_cell hn7 1).trans rfl
                obtain ⟨ad3, e3, hx0, hx1⟩ := PArenaActs.at_T30 (Kd.R_reads' HR7.out).2.2 (j : Int) (by omega) (by omega)
                rw [hd_nat xs j hjx, Int.toNat_natCast, ← HXY.out] at hx0 hx1
                dsimp only at hx0 hx1
                cases e3
                have hu30 := Try.underlying30
                dsimp only
                go_wp2_with fail
                rw [← hw7]
                clear hw7 hbe hn7 hI6 hb6 hk6 HIA HIB HR HB3
                go_quiet (fail)
                go_wp2
                go_roundg (C2 - (j + 1))
                case measure => have := HJ.out; omega
                case rel => exact ⟨j + 1, sj, by go_num, ⟨by have := HJ.out; omega⟩, by omega, HMJ1, ⟨by first | exact HIA7.out | exact HIA7.out.drewN _ | exact HIA7.out.drew⟩, ⟨by first | exact HIB7.out | exact HIB7.out.drewN _ | exact HIB7.out.drew⟩, ⟨by first | exact HR7.out | exact Kd.R_below HR7.out (pw_below_drewN (Below.refl _ _) _) | exact Kd.R_below HR7.out (below_drew1 (Below.refl _ _))⟩, ⟨by first | exact pw_below_drewN HB7.out _ | exact below_drew1 HB7.out | exact HB7.out⟩⟩
              · have hjj : j = C2 := by omega
                subst hjj
                have hss : si = s' := by
                  have h1 := HMX.out
                  rw [HMJ.out] at h1
                  simp only [Option.some.injEq, Prod.mk.injEq] at h1
                  exact h1.2
                subst hss
                go_wp2_with fail
                refine Calls.mono (len ga n si okA w1 wr HIA.out) ?_
                rintro e w6 ⟨rfl, hw6⟩
                rw [hw6]
                go_wp2_with fail
                refine Calls.mono (len gb n si okB w1 wr HIB.out) ?_
                rintro e w7 ⟨rfl, hw7⟩
                rw [hw7]
                go_wp2
                go_ret
                exact ⟨by simp, below_step HB.out HB3.out⟩
        · have hii : i = l.length := by omega
          subst hii
          have HINV := Aside0.mk HM.out.inv
          have hcn : (s.cnt : Int) = (K : Int) - (cg : Int) := by have := HM.out.cn; omega
          have hrm := HM.out.room
          have HCN := Aside0.mk hcn
          have HRM := Aside0.mk hrm
          have hwk : IntKind.i64.wrap ((K : Int) - (cg : Int)) = (K : Int) - (cg : Int) := by have h1 := HM.out.cn; rw [IntKind.wrap_i64]; omega
          clear hcn hrm
          by_cases hcc : (cg : Int) < (C2 : Int)
          · have hle := (show TM wr.drew gm t cg from HT.out.at rfl).len 3
            go_wp2_with fail
            rw [HC2.out]
            refine Calls.mono (many_full ga n okA w1 wr HIA.out HINV.out (C2 : Int) (by omega) (by have := HCN.out; have := HRM.out; omega)) ?_
            rintro e w5 ⟨rfl, rfl⟩
            go_wp2_with fail
            refine Calls.mono (len ga n s okA w1 wr.drew HIA.out.drew) ?_
            rintro e w6 ⟨rfl, rfl⟩
            rw [HCN.out]
            go_wp2
            go_ret
            exact ⟨by simp, below_step HB.out (below_drew1 HB3.out)⟩
          · go_wp2_with fail
            rw [HC2.out]
            refine Calls.mono (many_ok ga n okA w1 wr HIA.out HB3.out HINV.out C2 (by have := HCN.out; have := HRM.out; omega)) ?_
            rintro e w5 ⟨vo, xs, s', hMx, rfl, hR, hI, hb, hk⟩
            obtain ⟨A3, c3, rfl⟩ := Kd.R_slice hR
            have HMX := Aside0.mk hMx
            have HLB := Aside0.mk (show ∀ q, okB q → q < wr.heap.size from fun q h => IsA.lt HIB.out h)
            have HIA5 := Aside0.mk hI
            have HIB5 := Aside0.mk (HIB.out.kept hk (fun q h h2 => HD.out.1 q h2 h))
            have HB5 := Aside0.mk hb
            have HXL := Aside0.mk (manyA_wf HINV.out C2 hMx)
            obtain ⟨okx, hokx⟩ : ∃ okx : Nat → Prop, okx = fun q => wr.heap.size ≤ q := ⟨_, rfl⟩
            rw [← hokx] at hR
            have HX := Aside0.mk (show ∀ q, okx q → ¬ okB q from fun q h h2 => by rw [hokx] at h; exact absurd (HLB.out q h2) (Nat.not_lt.2 h))
            have HR5 := Aside0.mk hR
            have HD1 := Aside0.mk HD.out.1
            have hle := (show TM w5 gm t cg from TM_kept HT.out hk HD.out.2.2.1).len 3
            clear hR hI hb hk hMx hokx HIA HIB HT HR HB3 HM HD HLB
            go_wp2_with fail
            clear hle hwk
            go_loopg [22] (C2) (fun kq v22 wr => ∃ (j : Nat) (si : Ar), v22 = .int .i64 j ∧ Aside0 (j + kq = C2) ∧ j ≤ C2 ∧ Aside0 (manyA j s = some (xs.take j, si)) ∧ Aside0 (IsA w1.heap.size okA wr ga n s') ∧ Aside0 (IsA w1.heap.size okB wr gb n si) ∧ Aside0 (Kd.R kH 30 wr w1.heap.size okx (.slice A3 xs.length c3) xs) ∧ Aside0 (Below w1.heap.size w1 wr))
            case atStart => exact ⟨0, s, rfl, ⟨by omega⟩, Nat.zero_le _, ⟨rfl⟩, HIA5, HIB5, HR5, HB5⟩
            case round =>
              clear HIA5 HIB5 HR5 HB5
              obtain ⟨j, si, rfl, HJ, hj, HMJ, HIA, HIB, HR, HB3⟩ := hrel
              by_cases hjl : j < C2
              · have hjx : j < xs.length := by have := HXL.out.2.2.2.1; omega
                have HTJ : ∃ sj, Aside0 (takeA si = some (xs[j], sj)) ∧ Aside0 (manyA (j + 1) s = some (xs.take (j + 1), sj)) := by
                  obtain ⟨si', e1, e2⟩ := manyA_step C2 HMX.out j (by omega)
                  rw [HMJ.out] at e1
                  simp only [Option.some.injEq, Prod.mk.injEq, true_and] at e1
                  subst e1
                  obtain ⟨sj, e3, e4⟩ := e2 hjx
                  exact ⟨sj, ⟨e3⟩, ⟨e4⟩⟩
                obtain ⟨sj, HTJ, HMJ1⟩ := HTJ
                have HINJ := Aside0.mk (manyA_wf HINV.out j HMJ.out).1
                obtain ⟨⟨x, y⟩, hxy⟩ : ∃ h, h = xs[j] := ⟨_, rfl⟩
                have HXY := Aside0.mk hxy
                have htj := HTJ.out
                rw [← hxy] at htj
                have HTJ2 := Aside0.mk htj
                have hjb : (j : Int) < (xs.length : Int) := by omega
                clear hxy htj HTJ
                go_wp2_with fail
                refine Calls.mono (take_some gb n okB w1 wr HIB.out HB3.out HINJ.out HTJ2.out) ?_
                rintro e w6 ⟨rfl, hI6, hb6, hk6⟩
                obtain ⟨w7, hw7⟩ : ∃ w7, w7 = w6.alloc (.cells #[.int .i64 x, .int .i64 y] 30) := ⟨_, rfl⟩
                have hbe : Below w6.heap.size w6 w7 := by rw [hw7]; exact below_alloc (Below.refl _ _) _
                have hn7 : w7.heap[w6.heap.size]? = some (.cells #[.int .i64 x, .int .i64 y] 30 (0, 0)) := by rw [hw7]; exact heap_alloc_new _ _
                have HIA7 := Aside0.mk ((HIA.out.kept hk6 (fun q h h2 => HD1.out q h h2)).below hbe)
                have HIB7 := Aside0.mk (hI6.below hbe)
                have HB7 := Aside0.mk (below_step hb6 hbe)
                have HR7 := Aside0.mk (Kd.R_below (Kd.R_kept HR.out hk6 (fun q h h2 => HX.out q h h2)) hbe)
                have hz0 : w7.cell? ⟨w6.heap.size, 0, none⟩ = some (.int .i64 x) := (blk_cell hn7 0).trans rfl
                have hz1 : w7.cell? ⟨w6.heap.size, 1, none⟩ = some (.int .i64 y) := (blk_cell hn7 1).trans rfl
                obtain ⟨ad3, e3, hx0, hx1⟩ := PArenaActs.at_T30 (Kd.R_reads' HR7.out).2.2 (j : Int) (by omega) (by omega)
                rw [hd_nat xs j hjx, Int.toNat_natCast, ← HXY.out] at hx0 hx1
                dsimp only at hx0 hx1
                cases e3
                have hu30 := Try.underlying30
                dsimp only
                go_wp2_with fail
                rw [← hw7]
                clear hw7 hbe hn7 hI6 hb6 hk6 HIA HIB HR HB3
                go_quiet (fail)
                go_wp2
                go_roundg (C2 - (j + 1))
                case measure => have := HJ.out; omega
                case rel => exact ⟨j + 1, sj, by go_num, ⟨by have := HJ.out; omega⟩, by omega, HMJ1, ⟨by first | exact HIA7.out | exact HIA7.out.drewN _ | exact HIA7.out.drew⟩, ⟨by first | exact HIB7.out | exact HIB7.out.drewN _ | exact HIB7.out.drew⟩, ⟨by first | exact HR7.out | exact Kd.R_below HR7.out (pw_below_drewN (Below.refl _ _) _) | exact Kd.R_below HR7.out (below_drew1 (Below.refl _ _))⟩, ⟨by first | exact pw_below_drewN HB7.out _ | exact below_drew1 HB7.out | exact HB7.out⟩⟩
              · have hjj : j = C2 := by omega
                subst hjj
                have hss : si = s' := by
                  have h1 := HMX.out
                  rw [HMJ.out] at h1
                  simp only [Option.some.injEq, Prod.mk.injEq] at h1
                  exact h1.2
                subst hss
                go_wp2_with fail
                refine Calls.mono (len ga n si okA w1 wr HIA.out) ?_
                rintro e w6 ⟨rfl, hw6⟩
                rw [hw6]
                go_wp2_with fail
                refine Calls.mono (len gb n si okB w1 wr HIB.out) ?_
                rintro e w7 ⟨rfl, hw7⟩
                rw [hw7]
                go_wp2
                go_ret
                exact ⟨by simp, below_step HB.out HB3.out⟩

end Go.Proofs.Ytlmeeafppigphaa.AManyW
