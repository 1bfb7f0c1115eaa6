/-
  The reference's arena: New and Many.
-/
import Derived.Test.YtlmeeafppigphaaProg
import Derived.Test.YtlmeeafppigphaaAMap
import Derived.Test.YtlmeeafppigphaaArena
import Derived.Test.YtlmeeafppigphaaAFree
import Derived.Test.YtlmeeafppigphaaAFree2
import Derived.Test.YtlmeeafppigphaaRegH
import Derived.Test.YtlmeeafppigphaaAPlain
import Derived.Test.YtlmeeafppigphaaAMany
import Derived.Test.YtlmeeafppigphaaAMany2
import Derived.Test.YtlmeeafppigphaaARef1
import Derived.Test.YtlmeeafppigphaaPArenaActsx0
import Derived.Test.YtlmeeafppigphaaPArenaActsx2
import Derived.Below
import Derived.Deep.Draws
import Derived.Deep.AppendLies
import Derived.Maps.AppendAt
import Derived.OwnWalk
import Derived.Laws.BytesArg
import Derived.Laws.MakeOwn
import Derived.Laws.OwnMore
import Derived.Deep.OwnRows
import Derived.Tactics
import Derived.Lib.ConvBytes
import Derived.Laws.Slices
import Derived.WalkKit
import Derived.KernelRfl
import Derived.RowKit3
import Derived.Deep.LoopGhost
import Derived.Deep.QuietTactic
import Derived.BigQuiet
import Derived.WideLaws
import Derived.Deep.DeepCutAuto
import Derived.Deep.CutBlock
import Derived.Deep.RegionHeld3
import Derived.Laws.Rows
import Derived.Lib.AppendStr
import Derived.ArgAppend
import Derived.Laws.IdiomCopy
import Derived.OrdersHeld
import Derived.Laws.BitsLemmas
import Derived.RowKit
import Derived.Lib.SliceRun
import Derived.Test.YtlmeeafppigphaaWWords
import Derived.Test.YtlmeeafppigphaaWLast
import Derived.Test.YtlmeeafppigphaaWTab
import Derived.Test.YtlmeeafppigphaaWFour
import Derived.Test.YtlmeeafppigphaaWQPut
import Derived.Test.YtlmeeafppigphaaWApart
import Derived.Test.YtlmeeafppigphaaWArr
import Derived.Test.YtlmeeafppigphaaWZeros
import Derived.Test.YtlmeeafppigphaaWFoot
import Derived.Test.YtlmeeafppigphaaWKept
import Derived.Test.YtlmeeafppigphaaWShare
import Derived.Test.YtlmeeafppigphaaWN
import Derived.Test.YtlmeeafppigphaaWFootNe
import Derived.Test.YtlmeeafppigphaaWAt
import Derived.Test.YtlmeeafppigphaaWEqStruct
import Derived.Test.YtlmeeafppigphaaWRepsOne
import Derived.Test.YtlmeeafppigphaaWInv
import Derived.Test.YtlmeeafppigphaaWInvWords
import Derived.Test.YtlmeeafppigphaaWGuard
import Derived.Test.YtlmeeafppigphaaWNEv
import Derived.Test.YtlmeeafppigphaaWMore
namespace Go.Proofs.Ytlmeeafppigphaa.ARef2
open Go.RowKit Go.Proofs.YtlmeeafppigphaaW.PrintWords Go.Proofs.YtlmeeafppigphaaW.PrintLast Go.Proofs.YtlmeeafppigphaaW.PrintMore
set_option linter.unusedVariables false
set_option linter.unusedSimpArgs false
open Go.Proofs.Ytlmeeafppigphaa.AMap (Wf)
open Arena AFree AFree2 APlain AMany AMany2 ARef1
def initF (K : Nat) : List H := (List.range K).map (fun i : Nat => (⟨(i : Int), 0⟩ : H))
theorem initF_succ (i : Nat) : initF (i + 1) = initF i ++ [⟨(i : Int), 0⟩] := by simp [initF, List.range_succ]
theorem initF_length (i : Nat) : (initF i).length = i := by simp [initF]

set_option maxHeartbeats 2000000 in
set_option maxRecDepth 100000 in
theorem rnew (K : Nat) (hK : K ≤ 1000) (w : World) :
    Calls Try.prog 16 #[.int .i64 K] w fun e w' => e = .returned (.pointer (some ⟨w.heap.size, 0, none⟩)) ∧ IsE w.heap.size (fun k => w.heap.size ≤ k ∧ k < w'.heap.size) w' w.heap.size (initF K) [] ∧ Below w.heap.size w w' := by
  obtain ⟨w1, hw1⟩ : ∃ w1, w1 = w.alloc (.cells #[.slice none 0 0, .slice none 0 0] 53) := ⟨_, rfl⟩
  have HN := Aside0.mk (show w1.heap[w.heap.size]? = some (.cells #[.slice none 0 0, .slice none 0 0] 53 (0, 0)) by rw [hw1]; exact heap_alloc_new _ _)
  have HB := Aside0.mk (show Below w.heap.size w w1 by rw [hw1]; exact below_alloc (Below.refl _ _) _)
  obtain ⟨g, hg⟩ : ∃ g, g = w.heap.size := ⟨_, rfl⟩
  have HG := Aside0.mk hg
  go_enter Try.func16, Try.ntmps16
  go_wp2_with fail
  rw [← hw1, ← hg]
  rw [← hg] at HN HB
  clear hw1 hg
  go_loopg [4] (K) (fun kq v4 wr => ∃ (i : Nat) (Af : Option Addr) (cf : Nat), v4 = .int .i64 i ∧ Aside0 (i + kq = K) ∧ i ≤ K ∧ Aside0 (wr.heap[g]? = some (.cells #[.slice Af i cf, .slice none 0 0] 53 (0, 0))) ∧ Aside0 (Kd.R kH 30 wr g (fun q => g < q) (.slice Af i cf) (initF i)) ∧ Aside0 (Below g w wr))
  case atStart => exact ⟨0, none, 0, rfl, ⟨by omega⟩, Nat.zero_le _, HN, ⟨Kd.R_nil _ _ _ _ _⟩, HB⟩
  case round =>
    clear HN HB
    obtain ⟨i, Af, cf, rfl, HQ, hi, HN, HR, HB⟩ := hrel
    have hc0 := cellE0 HN.out
    have hc0' : ∀ o, (wr.alloc o).cell? ⟨g, 0, none⟩ = some (.slice Af i cf) := fun o => cellE0 (blk_alloc HN.out o)
    by_cases hlt : i < K
    · have HCAP := Aside0.mk (show ((initF i).length + 1) * 16 ≤ 140737488355328 by rw [initF_length]; omega)
      go_wp2_with (((with_reducible refine gate_dst (N := 20) rfl ?_); refine Kd.R_append_rows kH (w0 := w) g rfl (.tmp 16) (.tmp 19) 28 30 (.agg #[.int .i64 0, .int .i64 0]) 16 rfl Try.underlying28 PArenaActs.info30 rfl (by decide) (by decide) (.slice Af i cf) (initF i) [⟨(i : Int), 0⟩] (some ⟨wr.heap.size, 0, none⟩) 1 1 (fun q => g < q) (fun _ => False) rfl rfl (Kd.R_alloc HR.out (.cells #[.int .i64 (i : Int), .int .i64 0] 30)) (handle_blk (h := ⟨(i : Int), 0⟩) (t := 30) (mk := (0, 0)) (heap_alloc_new wr _)) (fun _ _ h => h) (fun _ h => h.elim) (fun q hq => by have h1 := blk_lt HN.out; simp at hq; omega) (ins1 HB.out (Nat.le_of_lt (blk_lt HN.out)) _) (by have h1 := blk_lt HN.out; simp; omega) HCAP.out ?_); intro vo w6 hr6 hb6 hg6 _; rw [← initF_succ] at hr6; obtain ⟨A6, c6, hvo⟩ := Kd.R_slice hr6; rw [initF_length] at hvo; subst hvo; have HR6 := Aside0.mk hr6; have HB6 := Aside0.mk hb6; have hblk := (hg6.block g (blk_lt (blk_alloc HN.out (.cells #[.int .i64 (i : Int), .int .i64 0] 30))) (fun he => by have := HR.out.1 g he.symm; omega)).trans (blk_alloc HN.out (.cells #[.int .i64 (i : Int), .int .i64 0] 30)); have HBLK := Aside0.mk hblk; have hd0 := cellE0 hblk; have hf0 := blk_frozen hblk 0; clear hr6 hb6 hg6 hblk hc0 hc0')
      go_roundg (K - (i + 1))
      case measure => have := HQ.out; omega
      case rel => exact ⟨i + 1, A6, c6, by go_num, ⟨by have := HQ.out; omega⟩, by omega, ⟨blk_set HBLK.out 0 _⟩, ⟨Kd.R_far HR6.out (fun q hq => by show q ≠ g; omega) _⟩, ⟨by have h := HB6.out; rw [HG.out] at h ⊢; exact below_set (j := 0) h (Nat.le_refl _)⟩⟩
    · have hii : i = K := by omega
      subst hii
      go_wp2
      go_ret
      have hgl : g < wr.heap.size := blk_lt HN.out
      rw [HG.out] at *
      refine ⟨rfl, ⟨Af, cf, none, 0, fun q => w.heap.size < q ∧ q < wr.heap.size, fun _ => False, by have h := HN.out; rw [initF_length]; exact h, fun k h => h.2, ⟨Nat.le_refl _, Nat.le_refl _, hgl⟩, fun k h => ⟨⟨Nat.le_of_lt h.1, h.2⟩, by omega, id⟩, fun k h => h.elim, by rw [initF_length]; exact Kd.R_mono (Kd.R_bound HR.out) (fun q h => ⟨h.1, h.2.2.1⟩), Kd.R_nil _ _ _ _ _⟩, HB.out⟩

set_option maxHeartbeats 2000000 in
set_option maxRecDepth 100000 in
theorem rmany_neg (r : Nat) (m : Int) (hm : m < 0) (w : World) :
    Calls Try.prog 17 #[.pointer (some ⟨r, 0, none⟩), .int .i64 m] w fun e w' => e = .returned (.tuple #[.slice none 0 0, .int .i64 2]) ∧ w' = w := by
  go_enter Try.func17, Try.ntmps17
  go_wp2_with (fail)
  refine bodyPost_ret (results_tmp2 rfl _ _ _) rfl ?_
  exact ⟨rfl, rfl⟩
set_option maxHeartbeats 2000000 in
set_option maxRecDepth 100000 in
theorem rmany_full (r : Nat) (fl tk : List H) (ok : Nat → Prop) (w0 w : World) (hI : IsE w0.heap.size ok w r fl tk) (m : Int) (hm : 0 ≤ m) (hf : (fl.length : Int) < m) :
    Calls Try.prog 17 #[.pointer (some ⟨r, 0, none⟩), .int .i64 m] w fun e w' => e = .returned (.tuple #[.slice none 0 0, .int .i64 50]) ∧ w' = w := by
  obtain ⟨Af, cf, At, ct, okf, okt, hb, -⟩ := hI
  have hc0 := cellE0 hb
  clear hb
  go_enter Try.func17, Try.ntmps17
  go_wp2_with (fail)
  refine bodyPost_ret (results_tmp2 rfl _ _ _) rfl ?_
  exact ⟨rfl, rfl⟩
theorem info30a : ∃ i, Try.prog.info? 30 = some i ∧ i.size = 2 := by
  obtain ⟨i, hi, hz⟩ := Option.map_eq_some_iff.1 PArenaActs.info30
  simp only [Prod.mk.injEq] at hz
  exact ⟨i, hi, hz.2.1⟩

set_option maxHeartbeats 4000000 in
set_option maxRecDepth 100000 in
theorem rmany_ok (r : Nat) (fl tk : List H) (ok : Nat → Prop) (w0 w : World) (hI : IsE w0.heap.size ok w r fl tk) (hB : Below w0.heap.size w0 w) (m : Nat) (hm : m ≤ fl.length) (hf : fl.length ≤ 100000) (ht : tk.length ≤ 100000) :
    Calls Try.prog 17 #[.pointer (some ⟨r, 0, none⟩), .int .i64 m] w fun e w' => ∃ (vo : Value) (ok' okO : Nat → Prop), e = .returned (.tuple #[vo, .int .i64 0]) ∧ Kd.R kH 30 w' w0.heap.size okO vo (fl.take m) ∧ IsE w0.heap.size ok' w' r (fl.drop m) (tk ++ fl.take m) ∧ Below w0.heap.size w0 w' ∧ Kept w w' ok ∧ (∀ q, ok' q → ok q ∨ w.heap.size ≤ q) ∧ (∀ q, okO q → w.heap.size ≤ q ∧ ¬ ok' q) := by
  have hmi : (m : Int) ≤ (fl.length : Int) := by omega
  obtain ⟨out, hout⟩ : ∃ out, out = fl.take m := ⟨_, rfl⟩
  obtain ⟨rest, hrest⟩ : ∃ rest, rest = fl.drop m := ⟨_, rfl⟩
  have hol : out.length = m := by rw [hout, List.length_take]; omega
  have hrl : rest.length = fl.length - m := by rw [hrest, List.length_drop]
  obtain ⟨Af, cf, At, ct, okf, okt, hb, hL, hr, h1, h2, hRf, hRt⟩ := hI
  have hcl := (Kd.R_reads' hRf).2.1
  have hcut1 := cut_to (P := Try.prog) 28 30 .i64 Try.underlying28 info30a.choose_spec.1 Af fl.length cf (m : Int) (by omega) (by omega) hcl
  have hcut2 := cut_from (P := Try.prog) 28 30 .i64 Try.underlying28 info30a.choose_spec.1 2 info30a.choose_spec.2 Af fl.length cf (m : Int) (by omega) (by omega)
  rw [Int.toNat_natCast] at hcut1 hcut2
  obtain ⟨A2, hA2⟩ : ∃ A2, A2 = (if cf = m then Af else Af.map (·.add (m * 2))) := ⟨_, rfl⟩
  rw [← hA2] at hcut2
  have HC1 := Aside0.mk (show Kd.C kH w Af m out by rw [hout]; have h := Kd.C_take (m := m) (Kd.R_reads' hRf).2.2 hm; rw [List.length_take, Nat.min_eq_left hm] at h; exact h)
  have HC2 := Aside0.mk (show Kd.C kH w A2 (fl.length - m) rest by rw [hA2, hrest]; have h := Kd.C_drop (m := m) (Kd.R_reads' hRf).2.2 hm hcl; rw [List.length_drop] at h; exact h)
  rw [← hout, ← hrest]
  have HOL := Aside0.mk hol
  have HRL := Aside0.mk hrl
  have HFL := Aside0.mk (show fl.length ≤ 100000 ∧ tk.length ≤ 100000 from ⟨hf, ht⟩)
  have HBK := Aside0.mk hb
  have HL := Aside0.mk hL
  have HRR := Aside0.mk hr
  have H1 := Aside0.mk h1
  have H2 := Aside0.mk h2
  have HRT := Aside0.mk hRt
  have HB := Aside0.mk hB
  have hc0 := cellE0 hb
  have hml : decide ((fl.length : Int) < (m : Int)) = false := decide_eq_false (by omega)
  have hm0 : decide ((m : Int) < 0) = false := decide_eq_false (by omega)
  clear hA2 hcl hout hrest hol hrl hb hL hr h1 h2 hRf hRt hB hf ht hm
  go_enter Try.func17, Try.ntmps17
  go_wp2_with (first | ((with_reducible refine gate_dst (N := 24) rfl ?_); refine Kd.R_append_rows kH (w0 := w0) w0.heap.size rfl (.tmp 17) (.tmp 23) 28 30 (.agg #[.int .i64 0, .int .i64 0]) 16 rfl Try.underlying28 PArenaActs.info30 rfl (by decide) (by decide) (.slice none 0 0) [] out Af m cf (fun q => w.heap.size ≤ q) (fun _ => False) rfl rfl (Kd.R_nil _ _ _ _ _) (HC1.out) (fun _ _ h => h) (fun _ h => h.elim) (fun q hq => hq) (HB.out) (HB.out.size) (by have := HOL.out; have := HFL.out; simp; omega) ?_; intro vo w6 hr6 hb6 hg6 _; rw [List.nil_append] at hr6; have HB6 := Aside0.mk hb6; have h06 : Below w.heap.size w w6 := (Below.refl w.heap.size w).grown hg6 (Nat.le_refl _) (fun k e => by simp [Value.ownBlock] at e); have H06 := Aside0.mk h06; have HR6 := Aside0.mk (Kd.R_mono (ok' := fun q => w.heap.size ≤ q ∧ q < w6.heap.size) (Kd.R_bound hr6) (fun q h => ⟨h.1, h.2.2.1⟩)); have hc6 := cellE0 (blk_below HBK.out h06); clear hr6 hb6 hg6 h06 hcut1 hc0) | ((with_reducible refine gate_dst (N := 32) rfl ?_); refine Kd.R_append_rows kH (w0 := w0) w0.heap.size rfl (.tmp 25) (.tmp 31) 28 30 (.agg #[.int .i64 0, .int .i64 0]) 16 rfl Try.underlying28 PArenaActs.info30 rfl (by decide) (by decide) (.slice none 0 0) [] rest A2 (fl.length - m) (cf - m) (fun q => w6.heap.size ≤ q) (fun _ => False) rfl rfl (Kd.R_nil _ _ _ _ _) (Kd.C_below HC2.out H06.out) (fun _ _ h => h) (fun _ h => h.elim) (fun q hq => hq) (HB6.out) (HB6.out.size) (by have := HRL.out; have := HFL.out; simp; omega) ?_; intro vr w8 hr8 hb8 hg8 _; rw [List.nil_append] at hr8; have HB8 := Aside0.mk hb8; have h68 : Below w6.heap.size w6 w8 := (Below.refl w6.heap.size w6).grown hg8 (Nat.le_refl _) (fun k e => by simp [Value.ownBlock] at e); have h08 := below_step H06.out h68; obtain ⟨A8, c8, hvr⟩ := Kd.R_slice hr8; subst hvr; obtain ⟨A6, c6, hvo⟩ := Kd.R_slice HR6.out; subst hvo; have hb8k := blk_below HBK.out h08; have hd8 := cellE0 hb8k; have hf8 := blk_frozen hb8k 0; have hb9k := blk_set hb8k 0 (.slice A8 rest.length c8); have hc9 := cellE1 hb9k; have HBK9 := Aside0.mk hb9k; have hgw := HRR.out; have hlw := HL.out r hgw.2; have HS8 := Aside0.mk (show w.heap.size ≤ w6.heap.size ∧ w6.heap.size ≤ w8.heap.size from ⟨H06.out.size, h68.size⟩); have HR8 := Aside0.mk (Kd.R_far (Kd.R_mono (ok' := fun q => w6.heap.size ≤ q ∧ q < w8.heap.size) (Kd.R_bound hr8) (fun q h => ⟨h.1, h.2.2.1⟩)) (p := ⟨r, 0, none⟩) (fun q hq => by show q ≠ r; have := HS8.out; omega) (.slice A8 rest.length c8)); have HRO8 := Aside0.mk (Kd.R_far (Kd.R_below HR6.out h68) (p := ⟨r, 0, none⟩) (fun q hq => by show q ≠ r; omega) (.slice A8 rest.length c8)); have HRT8 := Aside0.mk (Kd.R_far (Kd.R_below HRT.out h08) (p := ⟨r, 0, none⟩) (fun q hq => (H2.out q hq).2) (.slice A8 rest.length c8)); have HB9 := Aside0.mk (below_set (j := 0) (v := .slice A8 rest.length c8) hb8 hgw.1); have HK9 := Aside0.mk (((Kept.refl w ok).below h08).setCell (p := ⟨r, 0, none⟩) (.inl hgw.2) (.slice A8 rest.length c8)); have HLW := Aside0.mk hlw; have hOR := (Kd.R_reads' HRO8.out).2.2; rw [HOL.out] at hOR; have HOR := Aside0.mk hOR; clear hr8 hb8 hg8 h68 h08 hb8k hb9k hgw hlw hOR hcut2 hc6 HC1 HC2) | ((with_reducible refine gate_dst (N := 43) rfl ?_); refine Kd.R_append_rows kH (w0 := w0) w0.heap.size rfl (.tmp 41) (.tmp 42) 28 30 (.agg #[.int .i64 0, .int .i64 0]) 16 rfl Try.underlying28 PArenaActs.info30 rfl (by decide) (by decide) (.slice At tk.length ct) tk out A6 out.length c6 (fun q => okt q ∨ w8.heap.size ≤ q) (fun _ => False) rfl rfl (Kd.R_mono HRT8.out (fun q h => .inl h)) (by have h := HOR.out; rw [← HOL.out] at h; exact h) (fun _ _ h => h) (fun _ h => h.elim) (fun q hq => .inr (by simpa using hq)) (HB9.out) (by simpa using (by have := HB9.out.size; simpa using this)) (by have := HOL.out; have := HFL.out; omega) ?_; intro vt w10 hr10 hb10 hg10 _; obtain ⟨A10, c10, hvt⟩ := Kd.R_slice hr10; subst hvt; have hown := fun q e => HRT8.out.1 q e; have hb10k := (hg10.block r (blk_lt HBK9.out) (fun he => (H2.out r (hown r he.symm)).2 rfl)).trans HBK9.out; have hd10 := cellE1 hb10k; have hf10 := blk_frozen hb10k 1; have HBK10 := Aside0.mk hb10k; have HS10 := Aside0.mk (show w8.heap.size ≤ w10.heap.size from by have := hg10.size; simpa using this); have HR10 := Aside0.mk (Kd.R_mono (ok' := fun q => (okt q ∨ w8.heap.size ≤ q) ∧ q < w10.heap.size) (Kd.R_bound hr10) (fun q h => ⟨h.1, h.2.2.1⟩)); have HB10 := Aside0.mk hb10; have hk10 := Kept.of_grown hg10 (Kept.refl _ (fun q => okt q)) (fun q e => .inl (hown q e)); have HK10 := Aside0.mk (HK9.out.then_ hk10 (fun q h => .inl (H2.out q h).1)); have HRF10 := Aside0.mk (Kd.R_kept HR8.out hk10 (fun q h h2 => by have := HL.out q (H2.out q h2).1; have := HS8.out; omega)); have HRO10 := Aside0.mk (Kd.R_kept HRO8.out hk10 (fun q h h2 => by have := HL.out q (H2.out q h2).1; omega)); clear hr10 hb10 hg10 hb10k hown hk10 hc9 hd8 hf8))
  refine bodyPost_ret (results_tmp2 rfl _ _ _) rfl ?_
  have hgw := HRR.out
  have hlw := HLW.out
  refine ⟨_, fun q => ok q ∨ (w6.heap.size ≤ q ∧ q < w10.heap.size), fun q => w.heap.size ≤ q ∧ q < w6.heap.size, rfl, Kd.R_far HRO10.out (p := ⟨r, 1, none⟩) (fun q hq => by show q ≠ r; omega) _, ⟨A8, c8, A10, c10, fun q => w6.heap.size ≤ q ∧ q < w8.heap.size, fun q => (okt q ∨ w8.heap.size ≤ q) ∧ q < w10.heap.size, by simpa using blk_set HBK10.out 1 (.slice A10 (tk.length + out.length) c10), fun q h => ?_, ⟨hgw.1, .inl hgw.2⟩, fun q h => ?_, fun q h => ?_, Kd.R_far HRF10.out (p := ⟨r, 1, none⟩) (fun q hq => by show q ≠ r; have := HS8.out; omega) _, Kd.R_far HR10.out (p := ⟨r, 1, none⟩) (fun q hq => by show q ≠ r; exact hq.1.elim (fun h => (H2.out q h).2) (fun h => by have := HS8.out; omega)) _⟩, below_set (j := 1) HB10.out hgw.1, HK10.out.setCell (p := ⟨r, 1, none⟩) (.inl hgw.2) _, fun q h => ?_, fun q h => ?_⟩
  · have := HS8.out; have := HS10.out; have e : ∀ p v, (w10.setCell p v).heap.size = w10.heap.size := fun p v => by simp
    rw [e]; exact h.elim (fun h => by have := HL.out q h; omega) (fun h => h.2)
  · have := HS8.out; have := HS10.out; exact ⟨.inr ⟨h.1, by omega⟩, by omega, fun h2 => h2.1.elim (fun h3 => by have := HL.out q (H2.out q h3).1; omega) (fun h3 => by omega)⟩
  · have := HS8.out; exact ⟨h.1.elim (fun h1 => .inl (H2.out q h1).1) (fun h1 => .inr ⟨by omega, h.2⟩), h.1.elim (fun h1 => (H2.out q h1).2) (fun h1 => by omega)⟩
  · have := HS8.out; exact h.imp id (fun h => by omega)
  · exact ⟨h.1, fun h2 => h2.elim (fun h3 => by have := HL.out q h3; omega) (fun h3 => by omega)⟩

end Go.Proofs.Ytlmeeafppigphaa.ARef2
