/-
  The reference's arena: named.
-/
import Derived.Test.YtlmeeafppigphaaProg
import Derived.Test.YtlmeeafppigphaaAMap
import Derived.Test.YtlmeeafppigphaaArena
import Derived.Test.YtlmeeafppigphaaAFree
import Derived.Test.YtlmeeafppigphaaAFree2
import Derived.Test.YtlmeeafppigphaaRegH
import Derived.Test.YtlmeeafppigphaaAPlain
import Derived.Test.YtlmeeafppigphaaAMany
import Derived.Test.YtlmeeafppigphaaAMany2
import Derived.Test.YtlmeeafppigphaaARef1
import Derived.Test.YtlmeeafppigphaaPArenaActsx0
import Derived.Test.YtlmeeafppigphaaPArenaActsx2
import Derived.Below
import Derived.Deep.Draws
import Derived.Deep.AppendLies
import Derived.Maps.AppendAt
import Derived.OwnWalk
import Derived.Laws.BytesArg
import Derived.Laws.MakeOwn
import Derived.Laws.OwnMore
import Derived.Deep.OwnRows
import Derived.Tactics
import Derived.Lib.ConvBytes
import Derived.Laws.Slices
import Derived.WalkKit
import Derived.KernelRfl
import Derived.RowKit3
import Derived.Deep.LoopGhost
import Derived.Deep.QuietTactic
import Derived.BigQuiet
import Derived.WideLaws
import Derived.Deep.DeepCutAuto
import Derived.Deep.CutBlock
import Derived.Deep.RegionHeld3
import Derived.Laws.Rows
import Derived.Lib.AppendStr
import Derived.ArgAppend
import Derived.Laws.IdiomCopy
import Derived.OrdersHeld
import Derived.Laws.BitsLemmas
import Derived.RowKit
import Derived.Lib.SliceRun
import Derived.Test.YtlmeeafppigphaaWWords
import Derived.Test.YtlmeeafppigphaaWLast
import Derived.Test.YtlmeeafppigphaaWTab
import Derived.Test.YtlmeeafppigphaaWFour
import Derived.Test.YtlmeeafppigphaaWQPut
import Derived.Test.YtlmeeafppigphaaWApart
import Derived.Test.YtlmeeafppigphaaWArr
import Derived.Test.YtlmeeafppigphaaWZeros
import Derived.Test.YtlmeeafppigphaaWFoot
import Derived.Test.YtlmeeafppigphaaWKept
import Derived.Test.YtlmeeafppigphaaWShare
import Derived.Test.YtlmeeafppigphaaWN
import Derived.Test.YtlmeeafppigphaaWFootNe
import Derived.Test.YtlmeeafppigphaaWAt
import Derived.Test.YtlmeeafppigphaaWEqStruct
import Derived.Test.YtlmeeafppigphaaWRepsOne
import Derived.Test.YtlmeeafppigphaaWInv
import Derived.Test.YtlmeeafppigphaaWInvWords
import Derived.Test.YtlmeeafppigphaaWGuard
import Derived.Test.YtlmeeafppigphaaWNEv
import Derived.Test.YtlmeeafppigphaaWMore
namespace Go.Proofs.Ytlmeeafppigphaa.ARef3
open Go.RowKit Go.Proofs.YtlmeeafppigphaaW.PrintWords Go.Proofs.YtlmeeafppigphaaW.PrintLast Go.Proofs.YtlmeeafppigphaaW.PrintMore
set_option linter.unusedVariables false
set_option linter.unusedSimpArgs false
open Go.Proofs.Ytlmeeafppigphaa.AMap (Wf)
open Arena AFree AFree2 APlain AMany AMany2 ARef1
def ofSlot (tk : List H) (h : H) : List H := tk.filter (fun a => decide (a.f0 = h.f0))
def namedL (tk hs : List H) : List H := hs.flatMap (ofSlot tk)
theorem namedL_succ (tk hs : List H) (i : Nat) (hi : i < hs.length) : namedL tk (hs.take (i + 1)) = namedL tk (hs.take i) ++ ofSlot tk hs[i] := by
  unfold namedL
  rw [List.take_succ_eq_append_getElem hi, List.flatMap_append]
  simp
theorem ofSlot_take (tk : List H) (h : H) (j : Nat) (hj : j < tk.length) : ofSlot (tk.take (j + 1)) h = ofSlot (tk.take j) h ++ (if tk[j].f0 = h.f0 then [tk[j]] else []) := by
  unfold ofSlot
  rw [List.take_succ_eq_append_getElem hj, List.filter_append]
  by_cases e : tk[j].f0 = h.f0 <;> simp [e]

set_option maxHeartbeats 4000000 in
set_option maxRecDepth 100000 in
theorem named_ (r : Nat) (fl tk : List H) (A0 : Option Addr) (c0 : Nat) (hs : List H) (ok : Nat → Prop) (w0 w : World) (hI : IsE w0.heap.size ok w r fl tk) (hB : Below w0.heap.size w0 w)
    (hA : Kd.C kH w A0 hs.length hs) (hh : hs.length ≤ 1000) (ht : tk.length ≤ 1000) :
    Calls Try.prog 19 #[.pointer (some ⟨r, 0, none⟩), .slice A0 hs.length c0] w fun e w' => ∃ vo, e = .returned vo ∧ Kd.R kH 30 w' w0.heap.size (fun q => w.heap.size ≤ q ∧ q < w'.heap.size) vo (namedL tk hs) ∧ (namedL tk hs).length ≤ 1000000 ∧ Below w.heap.size w w' := by
  obtain ⟨Af, cf, At, ct, okf, okt, hb, hL, hr, h1, h2, hf, hRt⟩ := hI
  have HBK := Aside0.mk hb
  have HRT := Aside0.mk hRt
  have HA := Aside0.mk hA
  have HB := Aside0.mk hB
  clear hb hL hr h1 h2 hf hRt hA hB
  go_enter Try.func19, Try.ntmps19
  go_wp2_with fail
  go_loopg [5, 6] (hs.length) (fun kq v5 v6 wr => ∃ (i : Nat) (out : List H), v6 = .int .i64 i ∧ Aside0 (i + kq = hs.length) ∧ i ≤ hs.length ∧ Aside0 (out = namedL tk (hs.take i)) ∧ Aside0 (out.length ≤ i * 1000) ∧ Aside0 (Kd.R kH 30 wr w.heap.size (fun q => w.heap.size ≤ q) v5 out) ∧ Aside0 (Below w.heap.size w wr))
  case atStart => exact ⟨0, [], rfl, ⟨by omega⟩, Nat.zero_le _, ⟨by simp [namedL]⟩, ⟨Nat.le_refl _⟩, ⟨Kd.R_nil _ _ _ _ _⟩, ⟨Below.refl _ _⟩⟩
  case round =>
    obtain ⟨i, out, rfl, HQ, hi, HO, HOL, HR, HBQ⟩ := hrel
    by_cases hlt : i < hs.length
    · obtain ⟨ad, e1, hx0, -⟩ := PArenaActs.at_T30 (Kd.C_below HA.out HBQ.out) (i : Int) (by omega) (by omega)
      have HSUC := Aside0.mk (namedL_succ tk hs i hlt)
      obtain ⟨hi_, hhe⟩ : ∃ h, h = hs[i] := ⟨_, rfl⟩
      rw [← hhe] at HSUC
      have HHE := Aside0.mk hhe
      clear hhe hx0
      cases e1
      go_wp2
      go_loopg [5, 7] (tk.length) (fun kq v5 v7 wr => ∃ (j : Nat) (ou2 : List H), v7 = .int .i64 j ∧ Aside0 (j + kq = tk.length) ∧ j ≤ tk.length ∧ Aside0 (ou2 = out ++ ofSlot (tk.take j) hi_) ∧ Aside0 (ou2.length ≤ i * 1000 + j) ∧ Aside0 (Kd.R kH 30 wr w.heap.size (fun q => w.heap.size ≤ q) v5 ou2) ∧ Aside0 (Below w.heap.size w wr))
      case atStart => exact ⟨0, out, rfl, ⟨by omega⟩, Nat.zero_le _, ⟨by simp [ofSlot]⟩, ⟨by have := HOL.out; omega⟩, HR, HBQ⟩
      case round =>
        clear HR HBQ
        obtain ⟨j, ou2, rfl, HJ, hj, HO2, HOL2, HR, HBQ⟩ := hrel
        have hc1 := cellE1 (blk_below HBK.out HBQ.out)
        by_cases hjl : j < tk.length
        · obtain ⟨adt, e1, hx0, hx1⟩ := PArenaActs.at_T30 (Kd.C_below (Kd.R_reads' HRT.out).2.2 HBQ.out) (j : Int) (by omega) (by omega)
          rw [hd_nat tk j hjl, Int.toNat_natCast] at hx0 hx1
          obtain ⟨ada, e2, hy0, hy1⟩ := PArenaActs.at_T30 (Kd.C_below HA.out HBQ.out) (i : Int) (by omega) (by omega)
          rw [hd_nat hs i hlt, Int.toNat_natCast, ← HHE.out] at hy0 hy1
          have hst := ofSlot_take tk hi_ j hjl
          obtain ⟨⟨a, b⟩, hz⟩ : ∃ z, z = tk[j] := ⟨_, rfl⟩
          rw [← hz] at hx0 hx1 hst
          dsimp only at hx0 hx1 hst
          obtain ⟨x, hx⟩ : ∃ x, x = hi_.f0 := ⟨_, rfl⟩
          rw [← hx] at hy0 hst
          have HST := Aside0.mk hst
          clear hz hst hy1 hx
          cases e1
          cases e2
          by_cases he : a = x
          · subst he
            rw [if_pos rfl] at HST
            have HCAP := Aside0.mk (show (ou2.length + 1) * 16 ≤ 140737488355328 by have := HOL2.out; omega)
            go_wp2_with fail
            go_quiet (fail)
            obtain ⟨wd, hwd⟩ : ∃ wd, wd = wr.drewN nq := ⟨_, rfl⟩
            have hbd : Below wr.heap.size wr wd := by rw [hwd]; exact pw_below_drewN (Below.refl _ _) _
            rw [← hwd]
            replace hx0 := pw_cell_below hbd hx0
            replace hx1 := pw_cell_below hbd hx1
            replace hc1 := pw_cell_below hbd hc1
            have HRD := Aside0.mk (Kd.R_below HR.out hbd)
            have HBD := Aside0.mk (below_step HBQ.out hbd)
            obtain ⟨Ao, co, hu⟩ := Kd.R_slice HRD.out
            subst hu
            clear hwd hbd hy0 HR HBQ
            go_wp2_with (((with_reducible refine gate_dst (N := 46) rfl ?_); refine Kd.R_append_rows kH (w0 := w) w.heap.size rfl (.tmp 37) (.tmp 45) 28 30 (.agg #[.int .i64 0, .int .i64 0]) 16 rfl Try.underlying28 PArenaActs.info30 rfl (by decide) (by decide) (.slice Ao ou2.length co) ou2 [⟨a, b⟩] (some ⟨wd.heap.size, 0, none⟩) 1 1 (fun q => w.heap.size ≤ q) (fun _ => False) rfl rfl (Kd.R_alloc HRD.out (.cells #[.int .i64 a, .int .i64 b] 30)) (handle_blk (h := ⟨a, b⟩) (t := 30) (mk := (0, 0)) (heap_alloc_new wd _)) (fun _ _ h => h) (fun _ h => h.elim) (fun q hq => by have := HBD.out.size; simp at hq; omega) (ins1 HBD.out HBD.out.size _) (by have h1 := HBD.out.size; simp; omega) HCAP.out ?_); intro vo w6 hr6 hb6 hg6 _; have HR6 := Aside0.mk hr6; have HB6 := Aside0.mk hb6; clear hr6 hb6 hg6)
            go_roundg (tk.length - (j + 1))
            case measure => have := HJ.out; omega
            case rel => exact ⟨j + 1, ou2 ++ [⟨a, b⟩], by go_num, ⟨by have := HJ.out; omega⟩, by omega, ⟨by rw [HST.out, HO2.out, List.append_assoc]⟩, ⟨by have := HOL2.out; simp; omega⟩, HR6, HB6⟩
          · rw [if_neg he, List.append_nil] at HST
            go_wp2_with fail
            go_quiet (fail)
            go_wp2
            go_roundg (tk.length - (j + 1))
            case measure => have := HJ.out; omega
            case rel => exact ⟨j + 1, ou2, by go_num, ⟨by have := HJ.out; omega⟩, by omega, ⟨by rw [HST.out, HO2.out]⟩, ⟨by have := HOL2.out; omega⟩, ⟨by first | exact Kd.R_below HR.out (pw_below_drewN (Below.refl _ _) _) | exact Kd.R_below HR.out (below_drew1 (Below.refl _ _)) | exact HR.out⟩, ⟨by first | exact pw_below_drewN HBQ.out _ | exact below_drew1 HBQ.out | exact HBQ.out⟩⟩
        · have hjj : j = tk.length := by omega
          subst hjj
          go_wp2
          go_roundg (hs.length - (i + 1))
          case measure => have := HQ.out; omega
          case rel => exact ⟨i + 1, ou2, by go_num, ⟨by have := HQ.out; omega⟩, by omega, ⟨by rw [HSUC.out, HO2.out, HO.out, List.take_length]⟩, ⟨by have := HOL2.out; omega⟩, HR, HBQ⟩
    · have hii : i = hs.length := by omega
      subst hii
      go_wp2
      go_ret
      have ho := HO.out
      rw [List.take_length] at ho
      refine ⟨_, rfl, ?_, by rw [← ho]; have := HOL.out; omega, HBQ.out⟩
      rw [← ho]
      exact Kd.R_lower (Kd.R_mono (ok' := fun q => w.heap.size ≤ q ∧ q < wr.heap.size) (Kd.R_bound HR.out) (fun q h => ⟨h.1, h.2.2.1⟩)) HB.out.size

end Go.Proofs.Ytlmeeafppigphaa.ARef3
