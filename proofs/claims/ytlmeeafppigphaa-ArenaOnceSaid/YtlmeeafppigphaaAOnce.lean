/-
  ArenaOnce's walk.
-/
import Derived.Test.YtlmeeafppigphaaProg
import Derived.Test.YtlmeeafppigphaaAMap
import Derived.Test.YtlmeeafppigphaaArena
import Derived.Test.YtlmeeafppigphaaAFree
import Derived.Test.YtlmeeafppigphaaAFree2
import Derived.Test.YtlmeeafppigphaaRegH
import Derived.Test.YtlmeeafppigphaaAPlain
import Derived.Test.YtlmeeafppigphaaAMany
import Derived.Test.YtlmeeafppigphaaAMany2
import Derived.Test.YtlmeeafppigphaaAPlain2
import Derived.Test.YtlmeeafppigphaaAAwake
import Derived.Test.YtlmeeafppigphaaATurns
import Derived.Test.YtlmeeafppigphaaAOnce0
import Derived.Test.YtlmeeafppigphaaPArenaActsx0
import Derived.Test.YtlmeeafppigphaaPArenaActsx2
import Derived.Below
import Derived.Deep.Draws
import Derived.Deep.AppendLies
import Derived.Maps.AppendAt
import Derived.OwnWalk
import Derived.Laws.BytesArg
import Derived.Laws.MakeOwn
import Derived.Laws.OwnMore
import Derived.Deep.OwnRows
import Derived.Tactics
import Derived.Lib.ConvBytes
import Derived.Laws.Slices
import Derived.WalkKit
import Derived.KernelRfl
import Derived.RowKit3
import Derived.Deep.LoopGhost
import Derived.Deep.QuietTactic
import Derived.BigQuiet
import Derived.WideLaws
import Derived.Deep.DeepCutAuto
import Derived.Deep.CutBlock
import Derived.Deep.RegionHeld3
import Derived.Laws.Rows
import Derived.Lib.AppendStr
import Derived.ArgAppend
import Derived.Laws.IdiomCopy
import Derived.OrdersHeld
import Derived.Laws.BitsLemmas
import Derived.RowKit
import Derived.Lib.SliceRun
import Derived.Test.YtlmeeafppigphaaWWords
import Derived.Test.YtlmeeafppigphaaWLast
import Derived.Test.YtlmeeafppigphaaWTab
import Derived.Test.YtlmeeafppigphaaWFour
import Derived.Test.YtlmeeafppigphaaWQPut
import Derived.Test.YtlmeeafppigphaaWApart
import Derived.Test.YtlmeeafppigphaaWArr
import Derived.Test.YtlmeeafppigphaaWZeros
import Derived.Test.YtlmeeafppigphaaWFoot
import Derived.Test.YtlmeeafppigphaaWKept
import Derived.Test.YtlmeeafppigphaaWShare
import Derived.Test.YtlmeeafppigphaaWN
import Derived.Test.YtlmeeafppigphaaWFootNe
import Derived.Test.YtlmeeafppigphaaWAt
import Derived.Test.YtlmeeafppigphaaWEqStruct
import Derived.Test.YtlmeeafppigphaaWRepsOne
import Derived.Test.YtlmeeafppigphaaWInv
import Derived.Test.YtlmeeafppigphaaWInvWords
import Derived.Test.YtlmeeafppigphaaWGuard
import Derived.Test.YtlmeeafppigphaaWNEv
import Derived.Test.YtlmeeafppigphaaWMore
namespace Go.Proofs.Ytlmeeafppigphaa.AOnce
open Go.RowKit Go.Proofs.YtlmeeafppigphaaW.PrintWords Go.Proofs.YtlmeeafppigphaaW.PrintLast Go.Proofs.YtlmeeafppigphaaW.PrintMore
set_option linter.unusedVariables false
set_option linter.unusedSimpArgs false
open Go.Proofs.Ytlmeeafppigphaa.AMap (GM TM Wf)
open Arena AFree AFree2 APlain AMany AMany2 APlain2 AOnce0
theorem kb9 (x : Int) : ∃ K : Nat, wrap64 (1 + (wrap64 (x.tmod 9 + 9)).tmod 9) = (K : Int) ∧ 1 ≤ K ∧ K ≤ 9 := by
  have h := ATurns.ixb x 9 (by decide) (by decide)
  have h0 : 0 ≤ (wrap64 (x.tmod 9 + 9)).tmod 9 := h.1
  have h1 : (wrap64 (x.tmod 9 + 9)).tmod 9 < 9 := h.2
  refine ⟨(1 + (wrap64 (x.tmod 9 + 9)).tmod 9).toNat, ?_, by omega, by omega⟩
  unfold wrap64 at *
  omega
theorem R_empty (W : World) (base : Nat) (ok : Nat → Prop) (hb : base ≤ W.heap.size) (hok : ok W.heap.size) : Kd.R kH 30 (W.alloc (.cells #[] 30)) base ok (.slice (some ⟨W.heap.size, 0, none⟩) 0 0) [] := by
  refine ⟨fun k hk => ?_, [], ?_, Reps.none _ _⟩
  · have : W.heap.size = k := by simpa [Value.ownBlock] using hk
    subst this
    exact hok
  · have h2 := World.ownsRow_lit (base := base) (e := 30) (size := kH.sz) W #[] 0 hb (by simp) (by simp)
    simpa using h2
theorem info30a : ∃ i, Try.prog.info? 30 = some i ∧ i.size = 2 := by
  obtain ⟨i, hi, hz⟩ := Option.map_eq_some_iff.1 PArenaActs.info30
  simp only [Prod.mk.injEq] at hz
  exact ⟨i, hi, hz.2.1⟩
theorem C_blk {W : World} {p : Nat} {h : H} {t : Nat} {mk : Nat × Nat} (hp : W.heap[p]? = some (.cells #[.int .i64 h.f0, .int .i64 h.f1] t mk)) : kH.C W (some ⟨p, 0, none⟩) 1 [h] := handle_blk hp
set_option maxHeartbeats 4000000 in
set_option maxRecDepth 100000 in
theorem walk (a0 : Int) (A : Option Addr) (c : Nat) (l : List Int) (w : World) (hC : (Kd.int .i64).C w A l.length l) (hc : l.length ≤ c) :
    Calls Try.prog 3 #[.int .i64 a0, .slice A l.length c] w fun e w' => e = .returned (.bool true) ∧ Below w.heap.size w w' := by
  have HC := Aside0.mk hC
  clear hC
  by_cases hl : 200 < l.length
  · have hl2 : (200 : Int) < (l.length : Int) := by omega
    go_enter Try.func3, Try.ntmps3
    go_wp2_with fail
    refine Calls.mono (AAwake.awake _) ?_
    rintro e w1 ⟨rfl, hb⟩
    have HB := Aside0.mk hb
    clear hb
    go_wp2_with fail
    refine Calls.mono (AAwake.awake _) ?_
    rintro e w2 ⟨rfl, hb⟩
    have HB2 := Aside0.mk (below_step HB.out hb)
    clear hb
    go_wp2
    go_ret
    exact ⟨rfl, HB2.out⟩
  · have hl2 : (l.length : Int) ≤ 200 := by omega
    go_enter Try.func3, Try.ntmps3
    go_wp2_with fail
    refine Calls.mono (AAwake.awake _) ?_
    rintro e w1 ⟨rfl, hb⟩
    have HB := Aside0.mk hb
    clear hb
    go_wp2_with fail
    obtain ⟨K, hK, hK1, hK2⟩ := kb9 a0
    rw [hK]
    clear hK
    have hKn : (K : Int) ≠ 0 := by omega
    refine Calls.mono (new_ok (K : Int) w1 (by omega) (by omega)) ?_
    rintro e w2 ⟨rfl, hI, hb⟩
    obtain ⟨ok, hok⟩ : ∃ ok : Nat → Prop, ok = fun k => w1.heap.size ≤ k ∧ k ≤ w1.heap.size + 2 := ⟨_, rfl⟩
    rw [← hok] at hI
    obtain ⟨g, hg⟩ : ∃ g, g = w1.heap.size + 2 := ⟨_, rfl⟩
    rw [← hg] at hI ⊢
    obtain ⟨sz, hsz⟩ : ∃ sz : Ar, sz = ⟨(K : Int), fun _ => 0, fun _ => false, 0, [], 0⟩ := ⟨_, rfl⟩
    have iz : Inv 0 sz := by rw [hsz]; exact Inv_new _ (by omega) (by omega)
    have HT0 := Aside0.mk (OInv_new iz (by rw [hsz]))
    have HRO0 := Aside0.mk (show sz.room = (K : Int) by rw [hsz])
    rw [← hsz] at hI
    have HI := Aside0.mk hI
    have HB1 := Aside0.mk hb
    clear hI hb iz hok hsz hg
    go_wp2
    go_loopg [8, 9, 10] (l.length) (fun kq v8 v9 v10 wr => ∃ (i : Nat) (live gone : List H) (s : Ar) (n : Nat) (okk okl okg : Nat → Prop), v10 = .int .i64 i ∧ Aside0 (i + kq = l.length) ∧ i ≤ l.length ∧ Aside0 (OInv n s live gone) ∧ Aside0 (n ≤ i ∧ gone.length ≤ i) ∧ Aside0 (s.room = (K : Int)) ∧ Aside0 (IsA w1.heap.size okk wr g n s) ∧ Aside0 (∀ q, okl q → q < wr.heap.size ∧ ¬ okk q) ∧ Aside0 (∀ q, okg q → q < wr.heap.size ∧ ¬ okk q ∧ ¬ okl q) ∧ Aside0 (Kd.R kH 30 wr w1.heap.size okl v8 live) ∧ Aside0 (Kd.R kH 30 wr w1.heap.size okg v9 gone) ∧ Aside0 (Below w1.heap.size w1 wr))
    case atStart => exact ⟨0, [], [], sz, 0, ok, fun _ => False, fun _ => False, rfl, ⟨by omega⟩, Nat.zero_le _, HT0, ⟨Nat.le_refl _, Nat.le_refl _⟩, HRO0, HI, ⟨fun q h => h.elim⟩, ⟨fun q h => h.elim⟩, ⟨Kd.R_nil _ _ _ _ _⟩, ⟨Kd.R_nil _ _ _ _ _⟩, HB1⟩
    case round =>
      clear HT0 HRO0 HI HB1
      obtain ⟨i, live, gone, s, n, okk, okl, okg, rfl, HQ, hi, HT, HNN, HRO, HIA, HOL, HOG, HRL, HRG, HB3⟩ := hrel
      obtain ⟨Al, cl, hu⟩ := Kd.R_slice HRL.out
      subst hu
      obtain ⟨Ag, cg, hu⟩ := Kd.R_slice HRG.out
      subst hu
      by_cases hlt : i < l.length
      · obtain ⟨ad0, e0, hx⟩ := Kd.at_int (Kd.C_below HC.out (below_step HB.out HB3.out)) (i : Int) (by omega) (by omega)
        rw [Int.toNat_natCast] at hx
        obtain ⟨x, hxe⟩ : ∃ x, x = rd l (i : Int) := ⟨_, rfl⟩
        rw [← hxe] at hx
        clear hxe
        cases e0
        obtain ⟨bb, hbb⟩ : ∃ bb : Bool, bb = decide (x.tmod 3 ≠ 0 ∨ live.length = 0) := ⟨_, rfl⟩
        have HBB := Aside0.mk hbb
        clear hbb
        go_upto_region 11 with fail
        go_cut [57] (fun v57 wc => v57 = .bool bb ∧ wr = wc)
        case first =>
          have hb1 := HBB.out
          by_cases h3 : x.tmod 3 = 0
          · by_cases hz : live.length = 0
            · have hz2 : (live.length : Int) = 0 := by omega
              rw [decide_eq_true (.inr hz)] at hb1
              subst hb1
              clear HBB
              go_wp2
              go_meet
              case rel => exact ⟨rfl, rfl⟩
            · have hz2 : ¬ (live.length : Int) = 0 := by omega
              rw [decide_eq_false (fun h => h.elim (fun h => h h3) hz)] at hb1
              subst hb1
              clear HBB
              go_wp2
              go_meet
              case rel => exact ⟨by simp [hz], rfl⟩
          · rw [decide_eq_true (.inl h3)] at hb1
            subst hb1
            clear HBB
            go_wp2
            go_meet
            case rel => exact ⟨rfl, rfl⟩
        obtain ⟨rfl, rfl⟩ := hcut
        go_upto_if 57 with fail
        go_cut [8, 9] (fun v8 v9 wc => ∃ (live gone : List H) (s : Ar) (n : Nat) (okk okl okg : Nat → Prop), Aside0 (OInv n s live gone) ∧ Aside0 (n ≤ i + 1 ∧ gone.length ≤ i + 1) ∧ Aside0 (s.room = (K : Int)) ∧ Aside0 (IsA w1.heap.size okk wc g n s) ∧ Aside0 (∀ q, okl q → q < wc.heap.size ∧ ¬ okk q) ∧ Aside0 (∀ q, okg q → q < wc.heap.size ∧ ¬ okk q ∧ ¬ okl q) ∧ Aside0 (Kd.R kH 30 wc w1.heap.size okl v8 live) ∧ Aside0 (Kd.R kH 30 wc w1.heap.size okg v9 gone) ∧ Aside0 (Below w1.heap.size w1 wc))
        case first =>
          cases bb with
          | true =>
            clear HBB
            cases htk : takeA s with
            | none =>
              have hnk : ¬ (live.length : Int) < (K : Int) := by have h1 := (takeA_none HT.out.inv).1 htk; have h2 := HT.out.ln; have h3 := HRO.out; omega
              go_wp2_with fail
              refine Calls.mono (take_none g n okk w1 wr HIA.out htk) ?_
              rintro e w5 ⟨rfl, hb5⟩
              have HBE := Aside0.mk (below_step hb5 (below_alloc (Below.refl w5.heap.size w5) (.cells #[.int .i64 0, .int .i64 0] 30)))
              clear hb5
              go_wp2_with fail
              go_meet
              case rel => exact ⟨live, gone, s, n, okk, okl, okg, HT, ⟨by have := HNN.out; omega⟩, HRO, ⟨HIA.out.below HBE.out⟩, ⟨fun q h => ⟨Nat.lt_of_lt_of_le (HOL.out q h).1 HBE.out.size, (HOL.out q h).2⟩⟩, ⟨fun q h => ⟨Nat.lt_of_lt_of_le (HOG.out q h).1 HBE.out.size, (HOG.out q h).2⟩⟩, ⟨Kd.R_below HRL.out HBE.out⟩, ⟨Kd.R_below HRG.out HBE.out⟩, ⟨below_step HB3.out HBE.out⟩⟩
            | some p =>
              obtain ⟨⟨hx_, hy_⟩, s'⟩ := p
              have HTK := Aside0.mk htk
              obtain ⟨ht2, hne, hlo, hhi, hrm⟩ := OInv_take HT.out htk
              have hlk : (live.length : Int) < (K : Int) := by
                have h1 : ¬ (s.cnt : Int) = s.room := fun e => by have := (takeA_none HT.out.inv).2 e; rw [htk] at this; exact absurd this (by simp)
                have h2 := HT.out.ln
                have h3 := HRO.out
                have h4 := HT.out.inv.ct
                have h5 := HT.out.inv.f1
                omega
              have HT2 := Aside0.mk ht2
              have HNE := Aside0.mk hne
              have HRO2 := Aside0.mk (hrm.trans HRO.out)
              clear htk ht2 hne hlo hhi hrm
              go_wp2_with fail
              refine Calls.mono (take_some g n okk w1 wr HIA.out HB3.out HT.out.inv HTK.out) ?_
              rintro e w5 ⟨rfl, hI5, hb5, hk5⟩
              obtain ⟨w6, hw6⟩ : ∃ w6, w6 = w5.alloc (.cells #[.int .i64 hx_, .int .i64 hy_] 30) := ⟨_, rfl⟩
              have hbe : Below w5.heap.size w5 w6 := by rw [hw6]; exact below_alloc (Below.refl _ _) _
              have ha6 : w6.heap[w5.heap.size]? = some (.cells #[.int .i64 hx_, .int .i64 hy_] 30 (0, 0)) := by rw [hw6]; exact heap_alloc_new _ _
              have HS6 := Aside0.mk (show wr.heap.size ≤ w5.heap.size ∧ w6.heap.size = w5.heap.size + 1 from ⟨hk5.1, by rw [hw6]; simp⟩)
              have HI6 := Aside0.mk (hI5.below hbe)
              have HI5 := Aside0.mk hI5
              have HB6 := Aside0.mk (below_step hb5 hbe)
              have HRL6 := Aside0.mk (Kd.R_below (Kd.R_kept HRL.out hk5 (fun q h h2 => (HOL.out q h).2 h2)) hbe)
              have HRG6 := Aside0.mk (Kd.R_below (Kd.R_kept HRG.out hk5 (fun q h h2 => (HOG.out q h).2.1 h2)) hbe)
              have HA6 := Aside0.mk ha6
              dsimp only
              go_wp2_with fail
              rw [← hw6]
              clear hw6 hbe ha6 hI5 hb5 hk5 HIA HRL HRG HB3
              go_loopg [13] (live.length) (fun kq v13 wq => ∃ (j : Nat), v13 = .int .i64 j ∧ Aside0 (j + kq = live.length) ∧ j ≤ live.length ∧ Aside0 (Below w6.heap.size w6 wq))
              case atStart => exact ⟨0, rfl, ⟨by omega⟩, Nat.zero_le _, ⟨Below.refl _ _⟩⟩
              case round =>
                obtain ⟨j, rfl, HJ, hj, HBQ⟩ := hrel
                by_cases hjl : j < live.length
                · obtain ⟨ad, e1, hx0, -⟩ := PArenaActs.at_T30 (Kd.C_below (Kd.R_reads' HRL6.out).2.2 HBQ.out) (j : Int) (by omega) (by omega)
                  rw [hd_nat live j hjl, Int.toNat_natCast] at hx0
                  obtain ⟨z, hz⟩ : ∃ z, z = live[j] := ⟨_, rfl⟩
                  have hne : ¬ z.f0 = hx_ := HNE.out z (by rw [hz]; exact List.getElem_mem hjl)
                  rw [← hz] at hx0
                  have hy0 : wr.cell? ⟨w5.heap.size, 0, none⟩ = some (.int .i64 hx_) := (blk_cell (blk_below HA6.out HBQ.out) 0).trans rfl
                  clear hz
                  cases e1
                  go_wp2_with fail
                  go_quiet (fail)
                  go_wp2
                  go_roundg (live.length - (j + 1))
                  case measure => have := HJ.out; omega
                  case rel => exact ⟨j + 1, by go_num, ⟨by have := HJ.out; omega⟩, by omega, ⟨by first | exact pw_below_drewN HBQ.out _ | exact below_drew1 HBQ.out | exact HBQ.out⟩⟩
                · have hjj : j = live.length := by omega
                  subst hjj
                  have HCAP := Aside0.mk (show (live.length + 1) * 16 ≤ 140737488355328 by omega)
                  have HIQ := Aside0.mk (HI6.out.below HBQ.out)
                  have HBQ1 := Aside0.mk (below_step HB6.out HBQ.out)
                  have HRLQ := Aside0.mk (Kd.R_below HRL6.out HBQ.out)
                  have HRGQ := Aside0.mk (Kd.R_below HRG6.out HBQ.out)
                  have hqz := blk_below HA6.out HBQ.out
                  have hz0 : wr.cell? ⟨w5.heap.size, 0, none⟩ = some (.int .i64 hx_) := (blk_cell hqz 0).trans rfl
                  have hz1 : wr.cell? ⟨w5.heap.size, 1, none⟩ = some (.int .i64 hy_) := (blk_cell hqz 1).trans rfl
                  have HSQ := Aside0.mk (show w6.heap.size ≤ wr.heap.size from HBQ.out.size)
                  clear hqz HI6 HB6 HRL6 HRG6
                  go_wp2_with (((with_reducible refine gate_dst (N := 89) rfl ?_); refine Kd.R_append_rows kH (w0 := w1) w1.heap.size rfl (.tmp 86) (.tmp 88) 28 30 (.agg #[.int .i64 0, .int .i64 0]) 16 rfl Try.underlying28 PArenaActs.info30 rfl (by decide) (by decide) _ live [⟨hx_, hy_⟩] (some ⟨wr.heap.size, 0, none⟩) 1 1 (fun q => okl q ∨ wr.heap.size ≤ q) (fun _ => False) rfl rfl (Kd.R_mono (Kd.R_alloc HRLQ.out (.cells #[.int .i64 hx_, .int .i64 hy_] 30)) (fun q h => .inl h)) (handle_blk (h := ⟨hx_, hy_⟩) (t := 30) (mk := (0, 0)) (heap_alloc_new wr _)) (fun _ _ h => h) (fun _ h => h.elim) (fun q hq => .inr (by simp at hq; omega)) (ins1 HBQ1.out HBQ1.out.size _) (by have h1 := HBQ1.out.size; simp; omega) HCAP.out ?_); intro vo w7 hr7 hb7 hg7 _; have HR7 := Aside0.mk (Kd.R_mono (ok' := fun q => (okl q ∨ wr.heap.size ≤ q) ∧ q < w7.heap.size) (Kd.R_bound hr7) (fun q hq => ⟨hq.1, hq.2.2.1⟩)); have HB7 := Aside0.mk hb7; have hown := fun q e => HRLQ.out.1 q e; have hk7 := Kept.of_grown hg7 (Kept.refl _ (fun q => okl q)) (fun q e => .inl (hown q e)); have HI7 := Aside0.mk ((HIQ.out.below (below_alloc (Below.refl _ _) _)).kept hk7 (fun q h h2 => (HOL.out q h2).2 h)); have HRG7 := Aside0.mk (Kd.R_kept (Kd.R_alloc HRGQ.out _) hk7 (fun q h h2 => (HOG.out q h).2.2 h2)); have HS7 := Aside0.mk (show wr.heap.size ≤ w7.heap.size from by have := hg7.size; simp at this; omega); clear hr7 hb7 hg7 hk7 hown)
                  go_meet
                  case rel => exact ⟨live ++ [⟨hx_, hy_⟩], gone, s', n, okk, _, okg, HT2, ⟨by have := HNN.out; omega⟩, HRO2, HI7, ⟨fun q h => ⟨h.2, fun h2 => h.1.elim (fun h1 => (HOL.out q h1).2 h2) (fun h1 => by have := HIQ.out.lt h2; omega)⟩⟩, ⟨fun q h => ⟨by have := (HOG.out q h).1; have := HS6.out; have := HSQ.out; have := HS7.out; omega, (HOG.out q h).2.1, fun h2 => h2.1.elim (HOG.out q h).2.2 (fun h3 => by have := (HOG.out q h).1; have := HS6.out; have := HSQ.out; omega)⟩⟩, HR7, HRG7, HB7⟩
          | false =>
            have hb1 := of_decide_eq_false HBB.out.symm
            have hlz : live.length ≠ 0 := fun e => hb1 (.inr e)
            have hlz2 : (live.length : Int) ≠ 0 := by omega
            have hl9 : live.length ≤ 9 := by have h1 := HT.out.inv.ct; have h2 := HT.out.inv.f1; have h3 := HT.out.ln; have h4 := HRO.out; omega
            have hixb := ATurns.ixb x live.length (by omega) (by omega)
            obtain ⟨p, hp⟩ : ∃ p : Nat, (wrap64 (x.tmod (live.length : Int) + (live.length : Int))).tmod (live.length : Int) = (p : Int) := ⟨_, (Int.toNat_of_nonneg hixb.1).symm⟩
            rw [hp] at hixb
            have hpl : p < live.length := by omega
            obtain ⟨t2, hlv, hdead, hrm⟩ := OInv_free HT.out p hpl
            have hbnd := OInv_bnd HT.out (List.getElem_mem hpl)
            obtain ⟨ad1, e1, hx0, hx1⟩ := PArenaActs.at_T30 (Kd.R_reads' HRL.out).2.2 (p : Int) (by omega) (by omega)
            rw [hd_nat live p hpl] at hx0 hx1
            rw [Int.toNat_natCast] at hx0 hx1
            obtain ⟨⟨hx_, hy_⟩, hhe⟩ : ∃ h, h = live[p] := ⟨_, rfl⟩
            rw [← hhe] at hx0 hx1 t2 hlv hdead hrm hbnd
            dsimp only at hx0 hx1 hbnd
            have HT2 := Aside0.mk t2
            have HLV := Aside0.mk hlv
            have HDD := Aside0.mk hdead
            have HRO2 := Aside0.mk (hrm.trans HRO.out)
            have HWX := Aside0.mk (show Wf hx_ from by have h4 := HRO.out; exact AMap.wf_of (by omega) (by omega))
            have hpb : (p : Int) < (live.length : Int) := by omega
            clear hhe hixb t2 hlv hdead hrm hbnd hb1 HBB
            cases e1
            go_wp2_with fail
            obtain ⟨wf, hwf⟩ : ∃ wf, wf = (wr.alloc (.cells #[.int .i64 hx_, .int .i64 hy_] 30)).alloc (.cells #[.int .i64 hx_, .int .i64 hy_] 30) := ⟨_, rfl⟩
            have hbe : Below wr.heap.size wr wf := by rw [hwf]; exact ins1 (below_alloc (Below.refl _ _) _) (by simp) _
            have haf := heap_alloc2_new wr (.cells #[.int .i64 hx_, .int .i64 hy_] 30) (.cells #[.int .i64 hx_, .int .i64 hy_] 30)
            have hpf := blk_alloc (heap_alloc_new wr (.cells #[.int .i64 hx_, .int .i64 hy_] 30)) (.cells #[.int .i64 hx_, .int .i64 hy_] 30)
            have hszf : wf.heap.size = wr.heap.size + 2 := by rw [hwf]; simp
            rw [← hwf] at haf hpf ⊢
            clear hwf hx hx0 hx1
            have hn1 : ∀ q, wr.heap.size ≤ q → ¬ okk q := fun q hq h => by have := HIA.out.lt h; omega
            have hbf := below_step HB3.out hbe
            have HIF := Aside0.mk (HIA.out.below hbe)
            have HRLF := Aside0.mk (Kd.R_below HRL.out hbe)
            have HRGF := Aside0.mk (Kd.R_below HRG.out hbe)
            have hh : Wf hx_ := HWX.out
            refine Calls.mono (free_ok g n s (some ⟨wr.heap.size + 1, 0, none⟩) 1 [⟨hx_, hy_⟩] okk w1 wf HIF.out hbf (fun W' hk => handle_blk (h := ⟨hx_, hy_⟩) (t := 30) (mk := (0, 0)) (blk_kept haf hk (hn1 _ (by omega)))) (fun j hj => by
              match j, hj with
              | 0, _ => exact hh) (by simp) (by rw [chk_one]; exact HLV.out) HT.out.inv.gb (by have := HNN.out; simp; omega) (by have h1 := HT.out.inv.ct; have h2 := HT.out.inv.f1; have h4 := HRO.out; simp; omega)) ?_
            rintro e w5 ⟨rfl, hI5, hb5, hk5⟩
            have HI5 := Aside0.mk (show IsA w1.heap.size (fun q => okk q ∨ wf.heap.size ≤ q ∧ q < w5.heap.size) w5 g (n + 1) (fr s ⟨hx_, hy_⟩) from hI5)
            have HB5 := Aside0.mk hb5
            have hp5 := blk_kept hpf hk5 (hn1 _ (Nat.le_refl _))
            have hz0 : w5.cell? ⟨wr.heap.size, 0, none⟩ = some (.int .i64 hx_) := (blk_cell hp5 0).trans rfl
            have hz1 : w5.cell? ⟨wr.heap.size, 1, none⟩ = some (.int .i64 hy_) := (blk_cell hp5 1).trans rfl
            have HP5 := Aside0.mk hp5
            have HRL5 := Aside0.mk (Kd.R_kept HRLF.out hk5 (fun q h h2 => (HOL.out q h).2 h2))
            have HRG5 := Aside0.mk (Kd.R_kept HRGF.out hk5 (fun q h h2 => (HOG.out q h).2.1 h2))
            have HS5 := Aside0.mk (show wr.heap.size < wf.heap.size ∧ wf.heap.size ≤ w5.heap.size from ⟨by omega, hk5.1⟩)
            clear hI5 hb5 hk5 hp5 hbf haf hpf hszf hn1 hbe hh HIF HRLF HRGF HIA HRL HRG HB3
            go_wp2_with fail
            obtain ⟨wg, hwg⟩ : ∃ wg, wg = w5.alloc (.cells #[.int .i64 hx_, .int .i64 hy_] 30) := ⟨_, rfl⟩
            have hbe : Below w5.heap.size w5 wg := by rw [hwg]; exact below_alloc (Below.refl _ _) _
            have hag := heap_alloc_new w5 (.cells #[.int .i64 hx_, .int .i64 hy_] 30)
            rw [← hwg] at hag ⊢
            refine Calls.mono (free_bad g (n + 1) (fr s ⟨hx_, hy_⟩) (some ⟨w5.heap.size, 0, none⟩) 1 [⟨hx_, hy_⟩] _ w1 wg (HI5.out.below hbe) (fun W' hk => handle_blk (h := ⟨hx_, hy_⟩) (t := 30) (mk := (0, 0)) (blk_below hag hk)) (fun j hj => by
              match j, hj with
              | 0, _ => exact HWX.out) (by simp) (by rw [chk_one]; exact HDD.out)) ?_
            rintro e w6 ⟨rfl, hb6⟩
            have h56 := below_step hbe hb6
            obtain ⟨ga, hga⟩ : ∃ ga : Nat, ga = wr.heap.size := ⟨_, rfl⟩
            have hp6 := blk_below HP5.out h56
            rw [← hga] at hp6 ⊢
            have HP6 := Aside0.mk hp6
            have HI6 := Aside0.mk (HI5.out.below h56)
            have HB6 := Aside0.mk (below_step HB5.out h56)
            have HRL6 := Aside0.mk (Kd.R_below HRL5.out h56)
            have HRG6 := Aside0.mk (Kd.R_below HRG5.out h56)
            have HS6 := Aside0.mk (show ga < wf.heap.size ∧ wf.heap.size ≤ w5.heap.size ∧ w5.heap.size ≤ w6.heap.size from ⟨by rw [hga]; exact HS5.out.1, HS5.out.2, h56.size⟩)
            have HGA := Aside0.mk hga
            have HI5L := Aside0.mk (fun q h => IsA.lt HI5.out (k := q) h)
            clear hwg hbe hag hb6 h56 hp6 hz0 hz1 HI5 HB5 HRL5 HRG5 HP5 HS5 hga
            have hcl := (Kd.R_reads' HRL6.out).2.1
            have hcut1 := cut_to (P := Try.prog) 28 30 .i64 Try.underlying28 info30a.choose_spec.1 (some ad1) live.length cl (p : Int) (by omega) (by omega) hcl
            have hcut2 := cut_from (P := Try.prog) 28 30 .i64 Try.underlying28 info30a.choose_spec.1 2 info30a.choose_spec.2 (some ad1) live.length cl ((p : Int) + 1) (by omega) (by omega)
            rw [Int.toNat_natCast] at hcut1
            rw [show ((p : Int) + 1).toNat = p + 1 by omega] at hcut2
            have hwp : IntKind.i64.wrap ((p : Int) + 1) = (p : Int) + 1 := by rw [IntKind.wrap_i64]; omega
            have hpl1 : (p : Int) ≤ (live.length : Int) := by omega
            have hpl2 : (p : Int) + 1 ≤ (live.length : Int) := by omega
            obtain ⟨A2, hA2⟩ : ∃ A2, A2 = (if cl = p + 1 then some ad1 else (some ad1).map (·.add ((p + 1) * 2))) := ⟨_, rfl⟩
            rw [← hA2] at hcut2
            have HC1 := Aside0.mk (Kd.C_take (m := p) (Kd.R_reads' HRL6.out).2.2 (by omega))
            have HC2 := Aside0.mk (show Kd.C kH w6 A2 (live.drop (p + 1)).length (live.drop (p + 1)) from by rw [hA2]; exact Kd.C_drop (m := p + 1) (Kd.R_reads' HRL6.out).2.2 (by omega) hcl)
            have HL1 := Aside0.mk (show (live.take p).length = p by rw [List.length_take]; omega)
            have HL2 := Aside0.mk (show (live.drop (p + 1)).length = live.length - (p + 1) from List.length_drop)
            clear hA2 hcl
            go_wp2_with fail
            refine RegH.startH (fun _ => True) (by kernel_rfl) rfl (True.intro) (fun hS => ?_)
            (refine RegH.tkH (i := 1) (d := 120) (oi := ⟨_, _, _, _, _, _⟩) (v := ?_) rfl rfl (by kernel_rfl) (by kernel_rfl) (by kernel_rfl) (fun _ _ _ h => h) (Or.inl ⟨by rfl, ?_⟩) hS ?_; rotate_left; (intro w hSw; (try dsimp only at hSw); go_simp); try (with_reducible rfl))
            try simp only [Act.put, List.setIfInBounds_toArray, List.set_cons_zero, List.set_cons_succ]
            (refine RegH.tkH (i := 2) (d := 121) (oi := ⟨_, _, _, _, _, _⟩) (v := ?_) rfl rfl (by kernel_rfl) (by kernel_rfl) (by kernel_rfl) (fun _ _ _ h => h) (Or.inl ⟨by rfl, ?_⟩) hS ?_; rotate_left; (intro w hSw; (try dsimp only at hSw); go_simp); try (with_reducible rfl))
            try simp only [Act.put, List.setIfInBounds_toArray, List.set_cons_zero, List.set_cons_succ]
            (refine RegH.tkH (i := 3) (d := 122) (oi := ⟨_, _, _, _, _, _⟩) (v := ?_) rfl rfl (by kernel_rfl) (by kernel_rfl) (by kernel_rfl) (fun _ _ _ h => h) (Or.inl ⟨by rfl, ?_⟩) hS ?_; rotate_left; (intro w hSw; (try dsimp only at hSw); go_simp); try (with_reducible rfl))
            try simp only [Act.put, List.setIfInBounds_toArray, List.set_cons_zero, List.set_cons_succ]
            (refine RegH.tkH (i := 5) (d := 124) (oi := ⟨_, _, _, _, _, _⟩) (v := ?_) rfl rfl (by kernel_rfl) (by kernel_rfl) (by kernel_rfl) (fun _ _ _ h => h) (Or.inl ⟨by rfl, ?_⟩) hS ?_; rotate_left; (intro w hSw; (try dsimp only at hSw); go_simp); try (with_reducible rfl))
            try simp only [Act.put, List.setIfInBounds_toArray, List.set_cons_zero, List.set_cons_succ]
            (refine RegH.tkH (i := 6) (d := 125) (oi := ⟨_, _, _, _, _, _⟩) (v := ?_) rfl rfl (by kernel_rfl) (by kernel_rfl) (by kernel_rfl) (fun _ _ _ h => h) (Or.inl ⟨by rfl, ?_⟩) hS ?_; rotate_left; (intro w hSw; (try dsimp only at hSw); go_simp); try (with_reducible rfl))
            try simp only [Act.put, List.setIfInBounds_toArray, List.set_cons_zero, List.set_cons_succ]
            (refine RegH.tkH (i := 7) (d := 126) (oi := ⟨_, _, _, _, _, _⟩) (v := ?_) rfl rfl (by kernel_rfl) (by kernel_rfl) (by kernel_rfl) (fun _ _ _ h => h) (Or.inl ⟨by rfl, ?_⟩) hS ?_; rotate_left; (intro w hSw; (try dsimp only at hSw); go_simp); try (with_reducible rfl))
            try simp only [Act.put, List.setIfInBounds_toArray, List.set_cons_zero, List.set_cons_succ]
            (refine RegH.tkH (i := 8) (d := 127) (oi := ⟨_, _, _, _, _, _⟩) (v := ?_) rfl rfl (by kernel_rfl) (by kernel_rfl) (by kernel_rfl) (fun _ _ _ h => h) (Or.inl ⟨by rfl, ?_⟩) hS ?_; rotate_left; (intro w hSw; (try dsimp only at hSw); go_simp); try (with_reducible rfl))
            try simp only [Act.put, List.setIfInBounds_toArray, List.set_cons_zero, List.set_cons_succ]
            refine RegH.oneH (i := 0) (o := ⟨_, _, _, _, _, _⟩) (by kernel_rfl) rfl (fun K hK => ?_)
            go_simp
            refine hK.out _ _ (True.intro) (fun hS => ?_)
            clear hK K
            try simp only [Act.put, List.setIfInBounds_toArray, List.set_cons_zero, List.set_cons_succ]
            refine RegH.oneH (i := 4) (o := ⟨_, _, _, _, _, _⟩) (by kernel_rfl) rfl (fun K hK => ?_)
            refine Kd.R_append_rows_step kH (w0 := w1) w1.heap.size (by rfl) (.tmp 119) (.tmp 122) 28 30 (.agg #[.int .i64 0, .int .i64 0]) 16 rfl Try.underlying28 PArenaActs.info30 rfl (by decide) (by decide) (.slice (some ⟨w6.drew.heap.size, 0, none⟩) 0 0) [] (live.take p) (some ad1) p cl (fun q => w6.heap.size ≤ q) (fun _ => False) rfl rfl (R_empty _ _ _ (HB6.out.size) (by simp)) (by have h : Kd.C kH (w6.drew.alloc (.cells #[] 30)) (some ad1) (live.take p).length (live.take p) := Kd.C_below HC1.out (below_alloc (below_drew1 (Below.refl _ _)) _); rw [HL1.out] at h; exact h) (fun _ _ h => h) (fun _ h => h.elim) (fun q hq => by simp at hq; omega) (ins1 (below_drew1 HB6.out) HB6.out.size _) ((ins1 (below_drew1 HB6.out) HB6.out.size _).size) (by have := HL1.out; simp; omega) ?_
            intro v7 w7 hr7 hb7 hg7 _
            have h67 : Below w6.heap.size w6 w7 := (below_alloc (below_drew1 (Below.refl w6.heap.size w6)) (.cells #[] 30)).grown hg7 (by simp) (fun k e => Nat.le_of_eq (show w6.heap.size = k by simpa [Value.ownBlock] using e))
            have HR7 : Aside0 (Kd.R kH 30 w7 w1.heap.size (fun q => w6.heap.size ≤ q) v7 (live.take p)) := ⟨hr7⟩
            have HB7 := Aside0.mk hb7
            have H67 := Aside0.mk h67
            clear hr7 hb7 hg7 h67
            refine hK.out (Act.put _ (some 123) _) _ (True.intro) (fun hS => ?_)
            clear hK K
            try simp only [Act.put, List.setIfInBounds_toArray, List.set_cons_zero, List.set_cons_succ]
            refine RegH.oneH (i := 9) (o := ⟨_, _, _, _, _, _⟩) (by kernel_rfl) rfl (fun K hK => ?_)
            refine Kd.R_append_rows_step kH (w0 := w1) w1.heap.size (by rfl) (.tmp 123) (.tmp 127) 28 30 (.agg #[.int .i64 0, .int .i64 0]) 16 rfl Try.underlying28 PArenaActs.info30 rfl (by decide) (by decide) v7 (live.take p) (live.drop (p + 1)) (A2) (live.length - (p + 1)) (cl - (p + 1)) (fun q => w6.heap.size ≤ q) (fun _ => False) rfl rfl (HR7.out) (by have h := Kd.C_below HC2.out H67.out; rw [HL2.out] at h; exact h) (fun _ _ h => h) (fun _ h => h.elim) (fun q hq => Nat.le_trans H67.out.size hq) (HB7.out) ((HB7.out).size) (by have := HL1.out; omega) ?_
            intro v8 w8 hr8 hb8 hg8 _
            have h68 : Below w6.heap.size w6 w8 := H67.out.grown hg8 H67.out.size (fun k e => HR7.out.1 k e)
            have HR8 := Aside0.mk (Kd.R_mono (ok' := fun q => w6.heap.size ≤ q ∧ q < w8.heap.size) (Kd.R_bound hr8) (fun q hq => ⟨hq.1, hq.2.2.1⟩))
            have HB8 := Aside0.mk hb8
            have H68 := Aside0.mk h68
            clear hr8 hb8 hg8 h68
            refine hK.out (Act.put _ (some 128) _) _ (True.intro) (fun hS => ?_)
            clear hK K
            try simp only [Act.put, List.setIfInBounds_toArray, List.set_cons_zero, List.set_cons_succ]
            refine RegH.oneH (i := 10) (o := ⟨_, _, _, _, _, _⟩) (by kernel_rfl) rfl (fun K hK => ?_)
            go_simp
            refine hK.out _ _ (True.intro) (fun hS => ?_)
            clear hK K
            try simp only [Act.put, List.setIfInBounds_toArray, List.set_cons_zero, List.set_cons_succ]
            refine wpAnyH_done (by kernel_rfl) ?_ _
            have HI8 := Aside0.mk (HI6.out.below H68.out)
            have HRG8 := Aside0.mk (Kd.R_below HRG6.out H68.out)
            have hp8 := blk_below HP6.out H68.out
            have hz0 : w8.cell? ⟨ga, 0, none⟩ = some (.int .i64 hx_) := (blk_cell hp8 0).trans rfl
            have hz1 : w8.cell? ⟨ga, 1, none⟩ = some (.int .i64 hy_) := (blk_cell hp8 1).trans rfl
            have HS8 := Aside0.mk H68.out.size
            have HCAP := Aside0.mk (show (gone.length + 1) * 16 ≤ 140737488355328 by have := HNN.out; omega)
            clear hp8 hcut1 hcut2 hwp HI6 HB6 HRL6 HRG6 HP6 HC1 HC2 HL1 HL2 HR7 HB7 H67 H68 hS
            go_wp2_with (((with_reducible refine gate_dst (N := 132) rfl ?_); refine Kd.R_append_rows kH (w0 := w1) w1.heap.size rfl (.tmp 129) (.tmp 131) 28 30 (.agg #[.int .i64 0, .int .i64 0]) 16 rfl Try.underlying28 PArenaActs.info30 rfl (by decide) (by decide) _ gone [⟨hx_, hy_⟩] (some ⟨w8.heap.size, 0, none⟩) 1 1 (fun q => okg q ∨ w8.heap.size ≤ q) (fun _ => False) rfl rfl (Kd.R_mono (Kd.R_alloc HRG8.out (.cells #[.int .i64 hx_, .int .i64 hy_] 30)) (fun q h => .inl h)) (handle_blk (h := ⟨hx_, hy_⟩) (t := 30) (mk := (0, 0)) (heap_alloc_new w8 _)) (fun _ _ h => h) (fun _ h => h.elim) (fun q hq => .inr (by simp at hq; omega)) (ins1 HB8.out HB8.out.size _) (by have h1 := HB8.out.size; simp; omega) HCAP.out ?_); intro vo w9 hr9 hb9 hg9 _; have HR9 := Aside0.mk (Kd.R_mono (ok' := fun q => (okg q ∨ w8.heap.size ≤ q) ∧ q < w9.heap.size) (Kd.R_bound hr9) (fun q hq => ⟨hq.1, hq.2.2.1⟩)); have HB9 := Aside0.mk hb9; have hown := fun q e => HRG8.out.1 q e; have hk9 := Kept.of_grown hg9 (Kept.refl _ (fun q => okg q)) (fun q e => .inl (hown q e)); have HI9 := Aside0.mk ((HI8.out.below (below_alloc (Below.refl _ _) _)).kept hk9 (fun q h h2 => h.elim (fun h => (HOG.out q h2).2.1 h) (fun h => by have := (HOG.out q h2).1; have := HGA.out; have := HS6.out; omega))); have HRL9 := Aside0.mk (Kd.R_kept (Kd.R_alloc HR8.out _) hk9 (fun q h h2 => by have := (HOG.out q h2).1; have := HGA.out; have := HS6.out; omega)); have HS9 := Aside0.mk (show w8.heap.size ≤ w9.heap.size from by have := hg9.size; simp at this; omega); clear hr9 hb9 hg9 hk9 hown)
            go_meet
            case rel => exact ⟨live.take p ++ live.drop (p + 1), gone ++ [⟨hx_, hy_⟩], fr s ⟨hx_, hy_⟩, n + 1, _, _, _, HT2, ⟨by have := HNN.out; simp; omega⟩, HRO2, HI9, ⟨fun q h => ⟨Nat.lt_of_lt_of_le h.2 HS9.out, fun h2 => by have := HI5L.out q h2; have := HS6.out; have := h.1; omega⟩⟩, ⟨fun q h => ⟨h.2, fun h2 => h.1.elim (fun h1 => h2.elim (HOG.out q h1).2.1 (fun h2 => by have := (HOG.out q h1).1; have := HGA.out; have := HS6.out; omega)) (fun h1 => by have := HI5L.out q h2; have := HS6.out; have := HS8.out; omega), fun h2 => h.1.elim (fun h1 => by have := (HOG.out q h1).1; have := HGA.out; have := HS6.out; have := h2.1; omega) (fun h1 => by have := h2.2; omega)⟩⟩, HRL9, HR9, HB9⟩
        clear HT HNN HRO HIA HOL HOG HRL HRG HB3 HBB
        obtain ⟨live, gone, s, n, okk, okl, okg, HT, HNN, HRO, HIA, HOL, HOG, HRL, HRG, HB3⟩ := hcut
        obtain ⟨Al, cl, hu⟩ := Kd.R_slice HRL.out
        subst hu
        obtain ⟨Ag, cg, hu⟩ := Kd.R_slice HRG.out
        subst hu
        have hgl : gone.length ≤ 201 := by have := HNN.out; omega
        go_wp2
        go_loopg [16] (gone.length) (fun kq v16 wq => ∃ (j : Nat), v16 = .int .i64 j ∧ Aside0 (j + kq = gone.length) ∧ j ≤ gone.length ∧ Aside0 (Below wc.heap.size wc wq))
        case atStart => exact ⟨0, rfl, ⟨by omega⟩, Nat.zero_le _, ⟨Below.refl _ _⟩⟩
        case round =>
          obtain ⟨j, rfl, HJ, hj, HBQ⟩ := hrel
          by_cases hjl : j < gone.length
          · obtain ⟨ad, e1, hx0, hx1⟩ := PArenaActs.at_T30 (Kd.C_below (Kd.R_reads' HRG.out).2.2 HBQ.out) (j : Int) (by omega) (by omega)
            rw [hd_nat gone j hjl, Int.toNat_natCast] at hx0 hx1
            have hm := List.getElem_mem hjl
            have hdead : (s.taken gone[j].f0 && decide (s.gens gone[j].f0 = gone[j].f1)) = false := OInv_gone HT.out hm
            have hbnd := (HT.out.gn _ hm).2
            obtain ⟨⟨zx, zy⟩, hz⟩ : ∃ z, z = gone[j] := ⟨_, rfl⟩
            rw [← hz] at hx0 hx1 hdead hbnd
            dsimp only at hx0 hx1 hdead hbnd
            have HWZ := Aside0.mk (show Wf zx from by have h4 := HRO.out; exact AMap.wf_of (by omega) (by omega))
            have HDD := Aside0.mk hdead
            clear hz hm hdead hbnd
            cases e1
            go_wp2_with fail
            refine Calls.mono (Arena.live g n s zx zy HWZ.out okk w1 _ (HIA.out.below HBQ.out)) ?_
            rintro e w5 ⟨rfl, hb5⟩
            rw [HDD.out]
            have HB5 := Aside0.mk (below_step HBQ.out hb5)
            clear hb5
            go_wp2
            go_roundg (gone.length - (j + 1))
            case measure => have := HJ.out; omega
            case rel => exact ⟨j + 1, by go_num, ⟨by have := HJ.out; omega⟩, by omega, HB5⟩
          · have hjj : j = gone.length := by omega
            subst hjj
            have HSQ := Aside0.mk HBQ.out.size
            go_wp2
            go_roundg (l.length - (i + 1))
            case measure => have := HQ.out; omega
            case rel => exact ⟨i + 1, live, gone, s, n, okk, okl, okg, by go_num, ⟨by have := HQ.out; omega⟩, by omega, HT, HNN, HRO, ⟨HIA.out.below HBQ.out⟩, ⟨fun q h => ⟨Nat.lt_of_lt_of_le (HOL.out q h).1 HSQ.out, (HOL.out q h).2⟩⟩, ⟨fun q h => ⟨Nat.lt_of_lt_of_le (HOG.out q h).1 HSQ.out, (HOG.out q h).2⟩⟩, ⟨Kd.R_below HRL.out HBQ.out⟩, ⟨Kd.R_below HRG.out HBQ.out⟩, ⟨below_step HB3.out HBQ.out⟩⟩
      · have hii : i = l.length := by omega
        subst hii
        have hll : s.cnt = live.length := HT.out.ln.symm
        go_wp2_with fail
        refine Calls.mono (len g n s okk w1 wr HIA.out) ?_
        rintro e w6 ⟨rfl, rfl⟩
        rw [hll]
        go_wp2
        go_ret
        exact ⟨by simp, below_step HB.out HB3.out⟩

end Go.Proofs.Ytlmeeafppigphaa.AOnce
