/-
  Slots freed and taken again, in plain lists.
-/
import Derived.Test.YtlmeeafppigphaaProg
import Derived.Test.YtlmeeafppigphaaAMap
import Derived.Test.YtlmeeafppigphaaArena
import Derived.Test.YtlmeeafppigphaaAFree
import Derived.Test.YtlmeeafppigphaaAFree2
import Derived.Test.YtlmeeafppigphaaRegH
import Derived.Test.YtlmeeafppigphaaAPlain
import Derived.Test.YtlmeeafppigphaaAMany
import Derived.Test.YtlmeeafppigphaaAMany2
import Derived.Test.YtlmeeafppigphaaPArenaActsx0
import Derived.Below
import Derived.Deep.Draws
import Derived.Deep.AppendLies
import Derived.Maps.AppendAt
import Derived.OwnWalk
import Derived.Laws.BytesArg
import Derived.Laws.MakeOwn
import Derived.Laws.OwnMore
import Derived.Deep.OwnRows
import Derived.Tactics
import Derived.Lib.ConvBytes
import Derived.Laws.Slices
import Derived.WalkKit
import Derived.KernelRfl
import Derived.RowKit3
import Derived.Deep.LoopGhost
import Derived.Deep.QuietTactic
import Derived.BigQuiet
import Derived.WideLaws
import Derived.Deep.DeepCutAuto
import Derived.Deep.CutBlock
import Derived.Deep.RegionHeld3
import Derived.Laws.Rows
import Derived.Lib.AppendStr
import Derived.ArgAppend
import Derived.Laws.IdiomCopy
import Derived.OrdersHeld
import Derived.Laws.BitsLemmas
import Derived.RowKit
import Derived.Lib.SliceRun
import Derived.Test.YtlmeeafppigphaaWWords
import Derived.Test.YtlmeeafppigphaaWLast
import Derived.Test.YtlmeeafppigphaaWTab
import Derived.Test.YtlmeeafppigphaaWFour
import Derived.Test.YtlmeeafppigphaaWQPut
import Derived.Test.YtlmeeafppigphaaWApart
import Derived.Test.YtlmeeafppigphaaWArr
import Derived.Test.YtlmeeafppigphaaWZeros
import Derived.Test.YtlmeeafppigphaaWFoot
import Derived.Test.YtlmeeafppigphaaWKept
import Derived.Test.YtlmeeafppigphaaWShare
import Derived.Test.YtlmeeafppigphaaWN
import Derived.Test.YtlmeeafppigphaaWFootNe
import Derived.Test.YtlmeeafppigphaaWAt
import Derived.Test.YtlmeeafppigphaaWEqStruct
import Derived.Test.YtlmeeafppigphaaWRepsOne
import Derived.Test.YtlmeeafppigphaaWInv
import Derived.Test.YtlmeeafppigphaaWInvWords
import Derived.Test.YtlmeeafppigphaaWGuard
import Derived.Test.YtlmeeafppigphaaWNEv
import Derived.Test.YtlmeeafppigphaaWMore
namespace Go.Proofs.Ytlmeeafppigphaa.APlain2
open Go.RowKit Go.Proofs.YtlmeeafppigphaaW.PrintWords Go.Proofs.YtlmeeafppigphaaW.PrintLast Go.Proofs.YtlmeeafppigphaaW.PrintMore
set_option linter.unusedVariables false
set_option linter.unusedSimpArgs false
open Arena AFree AFree2 APlain AMany AMany2
/-- How an arena stands whose slots freed since are those of a list, the last one last. -/
structure TInv (n : Nat) (s : Ar) (fs : List H) : Prop where
  inv : Inv n s
  full : s.fresh = s.room
  free : s.free = fs.map (·.f0)
  gen : ∀ f, f ∈ fs → s.gens f.f0 = f.f1 + 1
theorem TInv_start {n : Nat} {s : Ar} (h : Inv n s) (hc : (s.cnt : Int) = s.room) : TInv n s [] := by
  have h1 := h.ct
  have h2 := h.f1
  have h3 : s.free.length = 0 := by omega
  exact ⟨h, by omega, List.eq_nil_of_length_eq_zero h3, fun f hf => by simp at hf⟩
theorem chk_one (s : Ar) (h : H) : chk s (fun _ => false) [h] = liveA s h := by
  simp only [chk]
  cases hl : liveA s h <;> simp
theorem TInv_free {n : Nat} {s : Ar} {fs : List H} {h : H} (t : TInv n s fs) (hl : liveA s h = true) : TInv (n + 1) (fr s h) (fs ++ [h]) := by
  unfold liveA at hl
  simp only [Bool.and_eq_true, decide_eq_true_eq] at hl
  refine ⟨(Inv_free t.inv hl.1).1, t.full, by show s.free ++ [h.f0] = _; rw [t.free]; simp, fun f hf => ?_⟩
  show AMap.up s.gens h.f0 (s.gens h.f0 + 1) f.f0 = f.f1 + 1
  rw [List.mem_append] at hf
  rcases hf with hf | hf
  · have hne : f.f0 ≠ h.f0 := fun e => ((t.inv.tkk h.f0).1 hl.1).2.2 (by rw [t.free, ← e]; exact List.mem_map_of_mem hf)
    rw [AMap.up_other _ _ hne]; exact t.gen f hf
  · simp at hf; subst hf; rw [AMap.up_same, hl.2]
theorem TInv_take {n : Nat} {s : Ar} {fs : List H} {f : H} (t : TInv n s (fs ++ [f])) : ∃ s', takeA s = some (⟨f.f0, f.f1 + 1⟩, s') ∧ TInv n s' fs := by
  have e : s.free = fs.map (·.f0) ++ [f.f0] := by rw [t.free]; simp
  have hk := takeA_free e
  rw [t.gen f (by simp)] at hk
  obtain ⟨i2, _⟩ := Inv_take t.inv hk
  exact ⟨_, hk, i2, t.full, rfl, fun g hg => t.gen g (by simp [hg])⟩
theorem TInv_end {n : Nat} {s : Ar} (t : TInv n s []) : takeA s = none ∧ (s.cnt : Int) = s.room := by
  have h1 := t.inv.ct
  rw [t.free] at h1
  have h2 := t.full
  simp at h1
  have h3 : (s.cnt : Int) = s.room := by omega
  exact ⟨(takeA_none t.inv).2 h3, h3⟩
theorem manyA_wf {n : Nat} {s : Ar} (hi : Inv n s) : ∀ (k : Nat) {l : List H} {s' : Ar}, manyA k s = some (l, s') → Inv n s' ∧ s'.room = s.room ∧ s'.cnt = s.cnt + k ∧ l.length = k ∧ ∀ h, h ∈ l → 0 ≤ h.f0 ∧ h.f0 < s.room
  | 0, l, s', e => by
    simp [manyA] at e
    obtain ⟨rfl, rfl⟩ := e
    exact ⟨hi, rfl, rfl, rfl, fun h hh => by simp at hh⟩
  | k + 1, l, s', e => by
    simp only [manyA] at e
    cases h1 : manyA k s with
    | none => rw [h1] at e; simp at e
    | some p =>
      obtain ⟨l1, s1⟩ := p
      rw [h1] at e
      obtain ⟨i1, r1, c1, n1, w1⟩ := manyA_wf hi k h1
      cases h2 : takeA s1 with
      | none => simp [h2] at e
      | some q =>
        obtain ⟨h, s2⟩ := q
        simp [h2] at e
        obtain ⟨rfl, rfl⟩ := e
        obtain ⟨i2, t2⟩ := Inv_take i1 h2
        refine ⟨i2, by rw [t2.room, r1], by rw [t2.cnt, c1]; rfl, by simp [n1], fun g hg => ?_⟩
        rw [List.mem_append] at hg
        rcases hg with hg | hg
        · exact w1 g hg
        · simp at hg; subst hg; exact ⟨t2.lo, by have := t2.hi; rw [r1] at this; exact this⟩

end Go.Proofs.Ytlmeeafppigphaa.APlain2
