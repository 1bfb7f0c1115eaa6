/-
  The plain law of ArenaMany.
-/
import Derived.Test.YtlmeeafppigphaaProg
import Derived.Test.YtlmeeafppigphaaAMap
import Derived.Test.YtlmeeafppigphaaArena
import Derived.Test.YtlmeeafppigphaaAFree
import Derived.Test.YtlmeeafppigphaaAFree2
import Derived.Test.YtlmeeafppigphaaAPlain
import Derived.Test.YtlmeeafppigphaaAMany
import Derived.Test.YtlmeeafppigphaaAMany2
import Derived.Test.YtlmeeafppigphaaAPlain2
import Derived.Test.YtlmeeafppigphaaAOnce0
import Derived.Test.YtlmeeafppigphaaPArenaActsx0
import Derived.Test.YtlmeeafppigphaaPArenaActsx2
import Derived.Below
import Derived.Deep.Draws
import Derived.Deep.AppendLies
import Derived.Maps.AppendAt
import Derived.OwnWalk
import Derived.Laws.BytesArg
import Derived.Laws.MakeOwn
import Derived.Laws.OwnMore
import Derived.Deep.OwnRows
import Derived.Tactics
import Derived.Lib.ConvBytes
import Derived.Laws.Slices
import Derived.WalkKit
import Derived.KernelRfl
import Derived.RowKit3
import Derived.Deep.LoopGhost
import Derived.Deep.QuietTactic
import Derived.BigQuiet
import Derived.WideLaws
import Derived.Deep.DeepCutAuto
import Derived.Deep.CutBlock
import Derived.Deep.RegionHeld3
import Derived.Laws.Rows
import Derived.Lib.AppendStr
import Derived.ArgAppend
import Derived.Laws.IdiomCopy
import Derived.OrdersHeld
import Derived.Laws.BitsLemmas
import Derived.RowKit
import Derived.Lib.SliceRun
import Derived.Test.YtlmeeafppigphaaWWords
import Derived.Test.YtlmeeafppigphaaWLast
import Derived.Test.YtlmeeafppigphaaWTab
import Derived.Test.YtlmeeafppigphaaWFour
import Derived.Test.YtlmeeafppigphaaWQPut
import Derived.Test.YtlmeeafppigphaaWApart
import Derived.Test.YtlmeeafppigphaaWArr
import Derived.Test.YtlmeeafppigphaaWZeros
import Derived.Test.YtlmeeafppigphaaWFoot
import Derived.Test.YtlmeeafppigphaaWKept
import Derived.Test.YtlmeeafppigphaaWShare
import Derived.Test.YtlmeeafppigphaaWN
import Derived.Test.YtlmeeafppigphaaWFootNe
import Derived.Test.YtlmeeafppigphaaWAt
import Derived.Test.YtlmeeafppigphaaWEqStruct
import Derived.Test.YtlmeeafppigphaaWRepsOne
import Derived.Test.YtlmeeafppigphaaWInv
import Derived.Test.YtlmeeafppigphaaWInvWords
import Derived.Test.YtlmeeafppigphaaWGuard
import Derived.Test.YtlmeeafppigphaaWNEv
import Derived.Test.YtlmeeafppigphaaWMore
namespace Go.Proofs.Ytlmeeafppigphaa.AMany0
open Go.RowKit Go.Proofs.YtlmeeafppigphaaW.PrintWords Go.Proofs.YtlmeeafppigphaaW.PrintLast Go.Proofs.YtlmeeafppigphaaW.PrintMore
set_option linter.unusedVariables false
set_option linter.unusedSimpArgs false
open Arena AFree AFree2 APlain AMany AMany2 APlain2 AOnce0
/-- How an arena stands that was full, whose handles were l, and those at places of t were freed since. -/
structure MInv (k n : Nat) (s : Ar) (l : List H) (t : Int → Bool) (cg : Nat) : Prop where
  inv : Inv n s
  room : s.room = (k : Int)
  ln : l.length = k
  nd : (l.map (·.f0)).Nodup
  bd : ∀ h, h ∈ l → 0 ≤ h.f0 ∧ h.f0 < (k : Int)
  lv : ∀ (p : Nat) (h : p < l.length), t (p : Int) = false → liveA s l[p] = true
  cn : s.cnt + cg = k
theorem manyA_live {n : Nat} {s : Ar} (hi : Inv n s) (hc : s.cnt = 0) : ∀ (k : Nat) {l : List H} {s' : Ar}, manyA k s = some (l, s') → OInv n s' l []
  | 0, l, s', e => by
    simp [manyA] at e
    obtain ⟨rfl, rfl⟩ := e
    exact OInv_new hi hc
  | k + 1, l, s', e => by
    simp only [manyA] at e
    cases h1 : manyA k s with
    | none => rw [h1] at e; simp at e
    | some p =>
      obtain ⟨l1, s1⟩ := p
      rw [h1] at e
      have i1 := manyA_live hi hc k h1
      cases h2 : takeA s1 with
      | none => simp [h2] at e
      | some q =>
        obtain ⟨h, s2⟩ := q
        simp [h2] at e
        obtain ⟨rfl, rfl⟩ := e
        exact (OInv_take i1 h2).1
theorem MInv_start {k : Nat} {s s' : Ar} {l : List H} (hi : Inv 0 s) (hc : s.cnt = 0) (hr : s.room = (k : Int)) (h : manyA k s = some (l, s')) : MInv k 0 s' l (fun _ => false) 0 := by
  have o := manyA_live hi hc k h
  obtain ⟨i, r, c, ln, w⟩ := manyA_wf hi k h
  exact ⟨i, by rw [r, hr], ln, o.nd, fun g hg => by have := w g hg; rw [hr] at this; exact this, fun p hp _ => o.lv _ (List.getElem_mem hp), by rw [c, hc]; omega⟩
theorem nodup_get {l : List H} (hn : (l.map (·.f0)).Nodup) {p q : Nat} (hp : p < l.length) (hq : q < l.length) (hne : p ≠ q) : l[p].f0 ≠ l[q].f0 := by
  have h := List.pairwise_iff_getElem.1 hn
  rcases Nat.lt_or_gt_of_ne hne with h1 | h1
  · have := h p q (by simpa using hp) (by simpa using hq) h1
    simpa using this
  · have := h q p (by simpa using hq) (by simpa using hp) h1
    exact fun e => this (by simpa using e.symm)
theorem MInv_free {k n cg : Nat} {s : Ar} {l : List H} {t : Int → Bool} (m : MInv k n s l t cg) (p : Nat) (hp : p < l.length) (ht : t (p : Int) = false) : MInv k (n + 1) (fr s l[p]) l (AMap.up t (p : Int) true) (cg + 1) := by
  have hl := liveA_iff.1 (m.lv p hp ht)
  obtain ⟨i2, c2⟩ := Inv_free m.inv hl.1
  refine ⟨i2, m.room, m.ln, m.nd, m.bd, fun q hq hf => ?_, by have := m.cn; omega⟩
  by_cases e : q = p
  · subst e; rw [AMap.up_same] at hf; exact absurd hf (by simp)
  · rw [AMap.up_other _ _ (by omega)] at hf
    have h2 := liveA_iff.1 (m.lv q hq hf)
    have hne := nodup_get m.nd hq hp e
    rw [liveA_iff]
    show AMap.up s.taken l[p].f0 false l[q].f0 = true ∧ AMap.up s.gens l[p].f0 (s.gens l[p].f0 + 1) l[q].f0 = l[q].f1
    rw [AMap.up_other _ _ hne, AMap.up_other _ _ hne]
    exact h2
/-- Several at once are those that come one by one. -/
theorem manyA_step : ∀ (c : Nat) {s s' : Ar} {l : List H}, manyA c s = some (l, s') → ∀ i, i ≤ c → ∃ si, manyA i s = some (l.take i, si) ∧ ∀ (h : i < l.length), ∃ sj, takeA si = some (l[i], sj) ∧ manyA (i + 1) s = some (l.take (i + 1), sj)
  | 0, s, s', l, e, i, hi => by
    simp [manyA] at e
    obtain ⟨rfl, rfl⟩ := e
    have : i = 0 := by omega
    subst this
    exact ⟨s, rfl, fun h => by simp at h⟩
  | c + 1, s, s', l, e, i, hi => by
    have e0 := e
    simp only [manyA] at e
    cases h1 : manyA c s with
    | none => rw [h1] at e; simp at e
    | some p =>
      obtain ⟨l1, s1⟩ := p
      rw [h1] at e
      cases h2 : takeA s1 with
      | none => simp [h2] at e
      | some q =>
        obtain ⟨h, s2⟩ := q
        simp [h2] at e
        obtain ⟨rfl, rfl⟩ := e
        have hl1 : l1.length = c := by
          clear e0
          revert h1
          have key : ∀ (c : Nat) (s s1 : Ar) (l1 : List H), manyA c s = some (l1, s1) → l1.length = c := by
            intro c
            induction c with
            | zero => intro s s1 l1 h; simp [manyA] at h; rw [h.1]; rfl
            | succ c ih =>
              intro s s1 l1 h
              simp only [manyA] at h
              cases h3 : manyA c s with
              | none => rw [h3] at h; simp at h
              | some p =>
                obtain ⟨l2, s3⟩ := p
                rw [h3] at h
                cases h4 : takeA s3 with
                | none => simp [h4] at h
                | some q => simp [h4] at h; rw [← h.1, List.length_append, ih _ _ _ h3]; rfl
          exact fun h => key _ _ _ _ h
        by_cases hic : i = c + 1
        · subst hic
          refine ⟨s2, ?_, fun hh => by simp [hl1] at hh⟩
          rw [List.take_of_length_le (by simp [hl1])]
          exact e0
        · by_cases hic2 : i = c
          · subst hic2
            refine ⟨s1, ?_, fun hh => ⟨s2, ?_, ?_⟩⟩
            · rw [List.take_append_of_le_length (by omega), List.take_of_length_le (by omega)]; exact h1
            · rw [h2]
              simp [← hl1]
            · rw [List.take_of_length_le (by simp [hl1])]; exact e0
          · obtain ⟨si, e1, e2⟩ := manyA_step c h1 i (by omega)
            refine ⟨si, by rw [List.take_append_of_le_length (by omega)]; exact e1, fun hh => ?_⟩
            have hi1 : i < l1.length := by omega
            obtain ⟨sj, e3, e4⟩ := e2 hi1
            refine ⟨sj, ?_, ?_⟩
            · rw [e3, List.getElem_append_left hi1]
            · rw [List.take_append_of_le_length (by omega)]; exact e4
theorem same_l0 (l : List H) (hl : l.length ≤ 1000000) : ∀ (d i : Nat), i + d = l.length → PArenaActs.cobweblaw05_same.l0 (d + 1) l l (i : Int) = some true
  | 0, i, h => by
    unfold PArenaActs.cobweblaw05_same.l0
    rw [if_neg (by omega)]
  | d + 1, i, h => by
    unfold PArenaActs.cobweblaw05_same.l0
    rw [if_pos (by omega), if_pos (by omega), if_pos (by omega)]
    have hw : wrap64 ((i : Int) + 1) = ((i + 1 : Nat) : Int) := by unfold wrap64; omega
    rw [if_neg (by simp), hw]
    exact same_l0 l hl d (i + 1) (by omega)
theorem same_self (l : List H) (hl : l.length ≤ 1000000) : PArenaActs.cobweblaw05_same.f (l.length + 1) l l = some true := by
  unfold PArenaActs.cobweblaw05_same.f
  rw [if_pos rfl]
  exact same_l0 l hl l.length 0 (by omega)

end Go.Proofs.Ytlmeeafppigphaa.AMany0
