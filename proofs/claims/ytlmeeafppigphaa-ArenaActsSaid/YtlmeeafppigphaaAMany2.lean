/-
  An arena's Many where it gives.
-/
import Derived.Test.YtlmeeafppigphaaProg
import Derived.Test.YtlmeeafppigphaaAMap
import Derived.Test.YtlmeeafppigphaaArena
import Derived.Test.YtlmeeafppigphaaAFree
import Derived.Test.YtlmeeafppigphaaAFree2
import Derived.Test.YtlmeeafppigphaaRegH
import Derived.Test.YtlmeeafppigphaaAPlain
import Derived.Test.YtlmeeafppigphaaAMany
import Derived.Test.YtlmeeafppigphaaPArenaActsx0
import Derived.Below
import Derived.Deep.Draws
import Derived.Deep.AppendLies
import Derived.Maps.AppendAt
import Derived.OwnWalk
import Derived.Laws.BytesArg
import Derived.Laws.MakeOwn
import Derived.Laws.OwnMore
import Derived.Deep.OwnRows
import Derived.Tactics
import Derived.Lib.ConvBytes
import Derived.Laws.Slices
import Derived.WalkKit
import Derived.KernelRfl
import Derived.RowKit3
import Derived.Deep.LoopGhost
import Derived.Deep.QuietTactic
import Derived.BigQuiet
import Derived.WideLaws
import Derived.Deep.DeepCutAuto
import Derived.Deep.CutBlock
import Derived.Deep.RegionHeld3
import Derived.Laws.Rows
import Derived.Lib.AppendStr
import Derived.ArgAppend
import Derived.Laws.IdiomCopy
import Derived.OrdersHeld
import Derived.Laws.BitsLemmas
import Derived.RowKit
import Derived.Lib.SliceRun
import Derived.Test.YtlmeeafppigphaaWWords
import Derived.Test.YtlmeeafppigphaaWLast
import Derived.Test.YtlmeeafppigphaaWTab
import Derived.Test.YtlmeeafppigphaaWFour
import Derived.Test.YtlmeeafppigphaaWQPut
import Derived.Test.YtlmeeafppigphaaWApart
import Derived.Test.YtlmeeafppigphaaWArr
import Derived.Test.YtlmeeafppigphaaWZeros
import Derived.Test.YtlmeeafppigphaaWFoot
import Derived.Test.YtlmeeafppigphaaWKept
import Derived.Test.YtlmeeafppigphaaWShare
import Derived.Test.YtlmeeafppigphaaWN
import Derived.Test.YtlmeeafppigphaaWFootNe
import Derived.Test.YtlmeeafppigphaaWAt
import Derived.Test.YtlmeeafppigphaaWEqStruct
import Derived.Test.YtlmeeafppigphaaWRepsOne
import Derived.Test.YtlmeeafppigphaaWInv
import Derived.Test.YtlmeeafppigphaaWInvWords
import Derived.Test.YtlmeeafppigphaaWGuard
import Derived.Test.YtlmeeafppigphaaWNEv
import Derived.Test.YtlmeeafppigphaaWMore
namespace Go.Proofs.Ytlmeeafppigphaa.AMany2
open Go.RowKit Go.Proofs.YtlmeeafppigphaaW.PrintWords Go.Proofs.YtlmeeafppigphaaW.PrintLast Go.Proofs.YtlmeeafppigphaaW.PrintMore
set_option linter.unusedVariables false
set_option linter.unusedSimpArgs false
open Go.Proofs.Ytlmeeafppigphaa.AMap (GM TM Wf)
open Arena AFree AFree2 APlain AMany
def manyA : Nat → Ar → Option (List H × Ar)
  | 0, s => some ([], s)
  | k + 1, s => (manyA k s).bind fun p => (takeA p.2).map fun q => (p.1 ++ [q.1], q.2)
theorem manyA_succ {k : Nat} {s s1 s2 : Ar} {l : List H} {h : H} (h1 : manyA k s = some (l, s1)) (h2 : takeA s1 = some (h, s2)) : manyA (k + 1) s = some (l ++ [h], s2) := by
  simp [manyA, h1, h2]
theorem manyA_some {n : Nat} {s : Ar} (hi : Inv n s) : ∀ k : Nat, (k : Int) ≤ s.room - (s.cnt : Int) → ∃ l s', manyA k s = some (l, s') ∧ Inv n s' ∧ l.length = k ∧ s'.cnt = s.cnt + k ∧ s'.room = s.room
  | 0, _ => ⟨[], s, rfl, hi, rfl, rfl, rfl⟩
  | k + 1, hk => by
    obtain ⟨l, s1, h1, i1, l1, c1, r1⟩ := manyA_some hi k (by omega)
    cases ht : takeA s1 with
    | none => have := (takeA_none i1).1 ht; omega
    | some p =>
      obtain ⟨h, s2⟩ := p
      obtain ⟨i2, t2⟩ := Inv_take i1 ht
      exact ⟨_, s2, manyA_succ h1 ht, i2, by simp [l1], by rw [t2.cnt, c1]; rfl, by rw [t2.room, r1]⟩
theorem row_at {α : Type} {d : Kd α} {W : World} {g : Nat} {l : List α} (hl : l.length ≤ 9223372036854775807) (h : ∀ j p, l[j]? = some p → ∃ c, d.K W p c ∧ ∀ i u, c[i]? = some u → W.cell? ⟨g, j * d.sz + i, none⟩ = some u) : d.C W (some ⟨g, 0, none⟩) l.length l :=
  ⟨rfl, hl, fun _ => ⟨_, rfl, fun j p hj => by
    obtain ⟨c, hK, hc⟩ := h j p hj
    exact ⟨c, d.K_len hK, hK, fun i u hi => by rw [add0]; exact hc i u hi⟩⟩⟩
theorem handle_blk {W : World} {p : Nat} {h : H} {t : Nat} {mk : Nat × Nat} (hp : W.heap[p]? = some (.cells #[.int .i64 h.f0, .int .i64 h.f1] t mk)) : kH.C W (some ⟨p, 0, none⟩) [h].length [h] :=
  row_at (by simp) fun j p hj => by
    match j, hj with
    | 0, hj =>
      obtain rfl := Option.some.inj hj
      refine ⟨[.int .i64 h.f0, .int .i64 h.f1], PArenaActs.k30_mk W h, fun i u hi => ?_⟩
      rw [mk_cell64 hp]
      match i, hi with
      | 0, hi => obtain rfl := Option.some.inj hi; rfl
      | 1, hi => obtain rfl := Option.some.inj hi; rfl

set_option maxHeartbeats 4000000 in
set_option maxRecDepth 100000 in
theorem many_ok {s : Ar} (g n : Nat) (ok : Nat → Prop) (w0 w : World) (hI : IsA w0.heap.size ok w g n s) (hB : Below w0.heap.size w0 w) (hi : Inv n s) (m : Nat) (hf : (m : Int) ≤ s.room - (s.cnt : Int)) :
    Calls Try.prog 13 #[.pointer (some ⟨g, 0, none⟩), .int .i64 m] w fun e w' => ∃ vo l s', manyA m s = some (l, s') ∧ e = .returned (.tuple #[vo, .int .i64 0]) ∧ Kd.R kH 30 w' w0.heap.size (fun q => w.heap.size ≤ q) vo l ∧ IsA w0.heap.size ok w' g n s' ∧ Below w0.heap.size w0 w' ∧ Kept w w' ok := by
  have h1 := hi.ct
  have h2 := hi.f1
  have h3 := hi.f0
  have h4 := hi.rm
  have HL := Aside0.mk (len g n s ok w0 w.drew hI.drew)
  have HI := Aside0.mk hI.drew
  have HB := Aside0.mk (below_drew1 hB)
  have HK := Aside0.mk (show Kept w w.drew ok from Kept.refl w ok)
  have HINV := Aside0.mk hi
  have HF := Aside0.mk hf
  have HLT := Aside0.mk (fun q (h : ok q) => IsA.lt hI h)
  obtain ⟨b1, b2, A, c, hb, -⟩ := hI
  have hc0 : ∀ W, W = w.drew → W.cell? ⟨g, 0, none⟩ = some (.int .i64 s.room) := fun W e => by rw [e]; exact cellA0 (W := w.drew) hb
  have hwr : IntKind.i64.wrap (s.room - (s.cnt : Int)) = s.room - (s.cnt : Int) := by rw [IntKind.wrap_i64]; omega
  have hm2 : m ≤ 1048576 := by omega
  clear hb hi hB
  go_enter Try.func13, Try.ntmps13
  go_wp2_with (fail)
  refine RegH.startH (fun W => W = w.drew) (by kernel_rfl) rfl (rfl) (fun hS => ?_)
  (refine RegH.tkH (i := 0) (d := 13) (oi := ⟨_, _, _, _, _, _⟩) (v := ?_) rfl rfl (by kernel_rfl) (by kernel_rfl) (by kernel_rfl) (fun _ _ _ h => h) (Or.inl ⟨by rfl, ?_⟩) hS ?_; rotate_left; (intro w hSw; (try dsimp only at hSw); go_simp); try (with_reducible rfl))
  try simp only [Act.put, List.setIfInBounds_toArray, List.set_cons_zero, List.set_cons_succ]
  (refine RegH.tkH (i := 1) (d := 14) (oi := ⟨_, _, _, _, _, _⟩) (v := ?_) rfl rfl (by kernel_rfl) (by kernel_rfl) (by kernel_rfl) (fun _ _ _ h => h) (Or.inl ⟨by rfl, ?_⟩) hS ?_; rotate_left; (intro w hSw; (try dsimp only at hSw); go_simp); try (with_reducible rfl))
  try simp only [Act.put, List.setIfInBounds_toArray, List.set_cons_zero, List.set_cons_succ]
  (refine RegH.tkH (i := 2) (d := 15) (oi := ⟨_, _, _, _, _, _⟩) (v := ?_) rfl rfl (by kernel_rfl) (by kernel_rfl) (by kernel_rfl) (fun _ _ _ h => h) (Or.inl ⟨by rfl, ?_⟩) hS ?_; rotate_left; (intro w hSw; (try dsimp only at hSw); go_simp); try (with_reducible rfl))
  try simp only [Act.put, List.setIfInBounds_toArray, List.set_cons_zero, List.set_cons_succ]
  (refine RegH.tkH (i := 3) (d := 16) (oi := ⟨_, _, _, _, _, _⟩) (v := ?_) rfl rfl (by kernel_rfl) (by kernel_rfl) (by kernel_rfl) (fun _ _ _ h => h) (Or.inl ⟨by rfl, ?_⟩) hS ?_; rotate_left; (intro w hSw; (try dsimp only at hSw); go_simp); try (with_reducible rfl))
  try simp only [Act.put, List.setIfInBounds_toArray, List.set_cons_zero, List.set_cons_succ]
  (refine RegH.tkH (i := 4) (d := 17) (oi := ⟨_, _, _, _, _, _⟩) (v := ?_) rfl rfl (by kernel_rfl) (by kernel_rfl) (by kernel_rfl) (fun _ _ _ h => h) (Or.inl ⟨by rfl, ?_⟩) hS ?_; rotate_left; (intro w hSw; (try dsimp only at hSw); go_simp); try (with_reducible rfl))
  try simp only [Act.put, List.setIfInBounds_toArray, List.set_cons_zero, List.set_cons_succ]
  (refine RegH.tkH (i := 5) (d := 18) (oi := ⟨_, _, _, _, _, _⟩) (v := ?_) rfl rfl (by kernel_rfl) (by kernel_rfl) (by kernel_rfl) (fun _ _ _ h => h) (Or.inl ⟨by rfl, ?_⟩) hS ?_; rotate_left; (intro w hSw; (try dsimp only at hSw); go_simp); try (with_reducible rfl))
  try simp only [Act.put, List.setIfInBounds_toArray, List.set_cons_zero, List.set_cons_succ]
  refine RegH.oneH (i := 6) (o := ⟨_, _, _, _, _, _⟩) (by kernel_rfl) rfl (fun K hK => ?_)
  go_simp
  refine Calls.mono HL.out ?_
  rintro e w1 ⟨rfl, rfl⟩
  go_wp2_with (fail)
  refine hK.out _ _ (rfl) (fun hS => ?_)
  clear hK K
  try simp only [Act.put, List.setIfInBounds_toArray, List.set_cons_zero, List.set_cons_succ]
  refine RegH.oneH (i := 7) (o := ⟨_, _, _, _, _, _⟩) (by kernel_rfl) rfl (fun K hK => ?_)
  go_simp
  refine hK.out _ _ (rfl) (fun hS => ?_)
  clear hK K
  try simp only [Act.put, List.setIfInBounds_toArray, List.set_cons_zero, List.set_cons_succ]
  refine RegH.oneH (i := 8) (o := ⟨_, _, _, _, _, _⟩) (by kernel_rfl) rfl (fun K hK => ?_)
  go_simp
  refine hK.out _ _ (rfl) (fun hS => ?_)
  clear hK K
  try simp only [Act.put, List.setIfInBounds_toArray, List.set_cons_zero, List.set_cons_succ]
  refine RegH.oneH (i := 9) (o := ⟨_, _, _, _, _, _⟩) (by kernel_rfl) rfl (fun K hK => ?_)
  go_simp
  refine hK.out _ _ (rfl) (fun hS => ?_)
  clear hK K
  try simp only [Act.put, List.setIfInBounds_toArray, List.set_cons_zero, List.set_cons_succ]
  refine wpAnyH_done (by kernel_rfl) ?_ _
  clear HL hc0 hwr h1 h2 h3 h4
  go_wp2_with (fail)
  clear hf
  obtain ⟨wo, hwo⟩ : ∃ wo : World, wo = w.drew := ⟨_, rfl⟩
  go_loopg [6, 23] (m) (fun kq v6 v23 wr => ∃ (k : Nat) (l : List H) (s' : Ar), v23 = .int .i64 k ∧ Aside0 (k + kq = m) ∧ k ≤ m ∧ Aside0 (manyA k s = some (l, s')) ∧ Aside0 (l.length = k) ∧ Aside0 (Kd.R kH 30 wr w0.heap.size (fun q => w.heap.size ≤ q) v6 l) ∧ Aside0 (IsA w0.heap.size ok wr g n s') ∧ Aside0 (Below w0.heap.size w0 wr) ∧ Aside0 (Kept w wr ok))
  case atStart => exact ⟨0, [], s, rfl, ⟨by omega⟩, Nat.zero_le _, ⟨rfl⟩, ⟨rfl⟩, ⟨Kd.R_nil _ _ _ _ _⟩, HI, HB, HK⟩
  case round =>
    clear HI HB HK
    obtain ⟨k, l, s', rfl, HQ, hk, HM, HLN, HR, HI, HB, HK⟩ := hrel
    by_cases hlt : k < m
    · obtain ⟨h, s2, HT, HINV2⟩ : ∃ h s2, Aside0 (takeA s' = some (h, s2)) ∧ Aside0 (Inv n s') := by
        obtain ⟨l', s'', e1, i1, -, c1, r1⟩ := manyA_some HINV.out k (by have := HF.out; omega)
        rw [HM.out] at e1
        simp only [Option.some.injEq, Prod.mk.injEq] at e1
        obtain ⟨rfl, rfl⟩ := e1
        cases ht : takeA s' with
        | none => have := (takeA_none i1).1 ht; have := HF.out; omega
        | some p => exact ⟨p.1, p.2, ⟨rfl⟩, ⟨i1⟩⟩
      go_wp2_with (fail)
      refine Calls.mono (take_some g n ok w0 wr HI.out HB.out HINV2.out HT.out) ?_
      rintro e w5 ⟨rfl, hI5, hB5, hK5⟩
      have HI5 := Aside0.mk hI5
      have HB5 := Aside0.mk hB5
      have HK5 := Aside0.mk (HK.out.then_ hK5 (fun q h => .inl h))
      have HR5 := Aside0.mk (Kd.R_kept HR.out hK5 (fun q hq h => by have := HLT.out q h; omega))
      clear hI5 hB5 hK5 HI HB HK HR
      have HCAP := Aside0.mk (show (l.length + 1) * 16 ≤ 140737488355328 by rw [HLN.out]; omega)
      go_wp2_with (((with_reducible refine gate_dst (N := 33) rfl ?_); refine Kd.R_append_rows kH (w0 := w0) w0.heap.size rfl (.tmp 30) (.tmp 32) 28 30 (.agg #[.int .i64 0, .int .i64 0]) 16 rfl Try.underlying28 PArenaActs.info30 rfl (by decide) (by decide) _ l [h] (some ⟨w5.heap.size + 1, 0, none⟩) 1 1 (fun q => w.heap.size ≤ q) (fun _ => False) rfl rfl (Kd.R_alloc (Kd.R_alloc HR5.out (.cells #[.int .i64 h.f0, .int .i64 h.f1] 30)) (.cells #[.int .i64 h.f0, .int .i64 h.f1] 30)) (handle_blk (t := 30) (mk := (0, 0)) (heap_alloc2_new w5 _ _)) (fun _ _ h => h) (fun _ h => h.elim) (fun q hq => by have h1 := HK5.out.1; simp at hq; omega) (ins1 (ins1 HB5.out HB5.out.size _) (by have h1 := HB5.out.size; simp; omega) _) (by have h1 := HB5.out.size; simp; omega) HCAP.out ?_); intro vo w6 hr6 hb6 hg6 _; have HR6 := Aside0.mk hr6; have HB6 := Aside0.mk hb6; have HI6 := Aside0.mk ((HI5.out.below (below_alloc (below_alloc (Below.refl _ _) _) _)).kept (Kept.of_grown hg6 (Kept.refl _ (fun q => w.heap.size ≤ q)) (fun q e => .inl (HR5.out.1 q e))) (fun q h h2 => by have := HLT.out q h; omega)); have HK6 := Aside0.mk (Kept.of_grown hg6 ((HK5.out.alloc _).alloc _) (fun q e => .inr (HR5.out.1 q e))); clear hr6 hb6 hg6)
      go_roundg (m - (k + 1))
      case measure => have := HQ.out; omega
      case rel => exact ⟨k + 1, l ++ [h], s2, by go_num, ⟨by have := HQ.out; omega⟩, by omega, ⟨manyA_succ HM.out HT.out⟩, ⟨by rw [List.length_append, HLN.out]; rfl⟩, HR6, HI6, HB6, HK6⟩
    · have hkk : k = m := by omega
      subst hkk
      go_wp2
      refine bodyPost_ret (results_tmp2 rfl _ _ _) rfl ?_
      exact ⟨_, l, s', HM.out, rfl, HR.out, HI.out, HB.out, HK.out⟩

end Go.Proofs.Ytlmeeafppigphaa.AMany2
