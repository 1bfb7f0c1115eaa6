/-
  The plain law of ArenaOnce.
-/
import Derived.Test.YtlmeeafppigphaaProg
import Derived.Test.YtlmeeafppigphaaAMap
import Derived.Test.YtlmeeafppigphaaArena
import Derived.Test.YtlmeeafppigphaaAFree
import Derived.Test.YtlmeeafppigphaaAFree2
import Derived.Test.YtlmeeafppigphaaAPlain
import Derived.Test.YtlmeeafppigphaaAMany
import Derived.Test.YtlmeeafppigphaaAMany2
import Derived.Test.YtlmeeafppigphaaAPlain2
import Derived.Test.YtlmeeafppigphaaPArenaActsx0
import Derived.Test.YtlmeeafppigphaaPArenaActsx2
import Derived.Below
import Derived.Deep.Draws
import Derived.Deep.AppendLies
import Derived.Maps.AppendAt
import Derived.OwnWalk
import Derived.Laws.BytesArg
import Derived.Laws.MakeOwn
import Derived.Laws.OwnMore
import Derived.Deep.OwnRows
import Derived.Tactics
import Derived.Lib.ConvBytes
import Derived.Laws.Slices
import Derived.WalkKit
import Derived.KernelRfl
import Derived.RowKit3
import Derived.Deep.LoopGhost
import Derived.Deep.QuietTactic
import Derived.BigQuiet
import Derived.WideLaws
import Derived.Deep.DeepCutAuto
import Derived.Deep.CutBlock
import Derived.Deep.RegionHeld3
import Derived.Laws.Rows
import Derived.Lib.AppendStr
import Derived.ArgAppend
import Derived.Laws.IdiomCopy
import Derived.OrdersHeld
import Derived.Laws.BitsLemmas
import Derived.RowKit
import Derived.Lib.SliceRun
import Derived.Test.YtlmeeafppigphaaWWords
import Derived.Test.YtlmeeafppigphaaWLast
import Derived.Test.YtlmeeafppigphaaWTab
import Derived.Test.YtlmeeafppigphaaWFour
import Derived.Test.YtlmeeafppigphaaWQPut
import Derived.Test.YtlmeeafppigphaaWApart
import Derived.Test.YtlmeeafppigphaaWArr
import Derived.Test.YtlmeeafppigphaaWZeros
import Derived.Test.YtlmeeafppigphaaWFoot
import Derived.Test.YtlmeeafppigphaaWKept
import Derived.Test.YtlmeeafppigphaaWShare
import Derived.Test.YtlmeeafppigphaaWN
import Derived.Test.YtlmeeafppigphaaWFootNe
import Derived.Test.YtlmeeafppigphaaWAt
import Derived.Test.YtlmeeafppigphaaWEqStruct
import Derived.Test.YtlmeeafppigphaaWRepsOne
import Derived.Test.YtlmeeafppigphaaWInv
import Derived.Test.YtlmeeafppigphaaWInvWords
import Derived.Test.YtlmeeafppigphaaWGuard
import Derived.Test.YtlmeeafppigphaaWNEv
import Derived.Test.YtlmeeafppigphaaWMore
namespace Go.Proofs.Ytlmeeafppigphaa.AOnce0
open Go.RowKit Go.Proofs.YtlmeeafppigphaaW.PrintWords Go.Proofs.YtlmeeafppigphaaW.PrintLast Go.Proofs.YtlmeeafppigphaaW.PrintMore
set_option linter.unusedVariables false
set_option linter.unusedSimpArgs false
open Arena AFree AFree2 APlain AMany AMany2 APlain2
/-- How an arena stands whose live handles are those of a list, and no handle of another list is live. -/
structure OInv (n : Nat) (s : Ar) (live gone : List H) : Prop where
  inv : Inv n s
  lv : ∀ h, h ∈ live → liveA s h = true
  nd : (live.map (·.f0)).Nodup
  ln : live.length = s.cnt
  gn : ∀ h, h ∈ gone → h.f1 < s.gens h.f0 ∧ 0 ≤ h.f0 ∧ h.f0 < s.room
theorem liveA_iff {s : Ar} {h : H} : liveA s h = true ↔ s.taken h.f0 = true ∧ s.gens h.f0 = h.f1 := by
  unfold liveA
  simp only [Bool.and_eq_true, decide_eq_true_eq]
theorem OInv_new {n : Nat} {s : Ar} (h : Inv n s) (hc : s.cnt = 0) : OInv n s [] [] :=
  ⟨h, fun h hh => by simp at hh, List.nodup_nil, hc.symm, fun h hh => by simp at hh⟩
theorem OInv_bnd {n : Nat} {s : Ar} {live gone : List H} (t : OInv n s live gone) {h : H} (hh : h ∈ live) : 0 ≤ h.f0 ∧ h.f0 < s.room := by
  have h1 := (liveA_iff.1 (t.lv h hh)).1
  have h2 := (t.inv.tkk h.f0).1 h1
  have h3 := t.inv.f1
  exact ⟨h2.1, by omega⟩
theorem OInv_gone {n : Nat} {s : Ar} {live gone : List H} (t : OInv n s live gone) {h : H} (hh : h ∈ gone) : liveA s h = false := by
  have h1 := (t.gn h hh).1
  cases hl : liveA s h with
  | false => rfl
  | true => have := (liveA_iff.1 hl).2; omega
theorem OInv_take {n : Nat} {s s' : Ar} {live gone : List H} {h : H} (t : OInv n s live gone) (ht : takeA s = some (h, s')) : OInv n s' (live ++ [h]) gone ∧ (∀ g, g ∈ live → g.f0 ≠ h.f0) ∧ 0 ≤ h.f0 ∧ h.f0 < s.room ∧ s'.room = s.room := by
  obtain ⟨i2, k⟩ := Inv_take t.inv ht
  have hne : ∀ g, g ∈ live → g.f0 ≠ h.f0 := fun g hg e => by
    have h1 := (liveA_iff.1 (t.lv g hg)).1
    rw [e, k.was] at h1
    exact absurd h1 (by simp)
  refine ⟨⟨i2, fun g hg => ?_, ?_, ?_, fun g hg => ?_⟩, hne, k.lo, k.hi, k.room⟩
  · rw [List.mem_append] at hg
    rw [liveA_iff, k.taken, k.gens]
    rcases hg with hg | hg
    · rw [AMap.up_other _ _ (hne g hg)]; exact liveA_iff.1 (t.lv g hg)
    · simp at hg; subst hg; rw [AMap.up_same]; exact ⟨rfl, k.gen.symm⟩
  · rw [List.map_append, List.nodup_append]
    refine ⟨t.nd, by simp, fun a ha b hb e => ?_⟩
    simp at hb ha
    obtain ⟨g, hg, e2⟩ := ha
    exact hne g hg (by rw [e2, e, hb])
  · rw [List.length_append, t.ln, k.cnt]; rfl
  · rw [k.gens, k.room]; exact t.gn g hg
theorem OInv_free {n : Nat} {s : Ar} {live gone : List H} (t : OInv n s live gone) (k : Nat) (hk : k < live.length) :
    OInv (n + 1) (fr s live[k]) (live.take k ++ live.drop (k + 1)) (gone ++ [live[k]]) ∧ liveA s live[k] = true ∧ liveA (fr s live[k]) live[k] = false ∧ (fr s live[k]).room = s.room := by
  have hm : live[k] ∈ live := List.getElem_mem hk
  have hl := t.lv _ hm
  have hb := OInv_bnd t hm
  have hl2 := liveA_iff.1 hl
  obtain ⟨i2, c2⟩ := Inv_free t.inv hl2.1
  have hsp : live = live.take k ++ live[k] :: live.drop (k + 1) := by
    rw [← List.drop_eq_getElem_cons hk, List.take_append_drop]
  have hnd := t.nd
  have hdis : ∀ g, g ∈ live.take k ++ live.drop (k + 1) → g.f0 ≠ live[k].f0 := by
    intro g hg e
    rw [hsp, List.map_append, List.map_cons, List.nodup_append] at hnd
    rw [List.mem_append] at hg
    rcases hg with hg | hg
    · exact hnd.2.2 g.f0 (List.mem_map_of_mem hg) live[k].f0 (by simp) e
    · exact (List.nodup_cons.1 hnd.2.1).1 (by rw [← e]; exact List.mem_map_of_mem hg)
  have hsub : List.Sublist (live.take k ++ live.drop (k + 1)) live := by
    conv => rhs; rw [hsp]
    exact (List.Sublist.refl _).append (List.sublist_cons_self _ _)
  refine ⟨⟨i2, fun g hg => ?_, ?_, ?_, fun g hg => ?_⟩, hl, ?_, rfl⟩
  · rw [liveA_iff]
    show AMap.up s.taken live[k].f0 false g.f0 = true ∧ AMap.up s.gens live[k].f0 (s.gens live[k].f0 + 1) g.f0 = g.f1
    rw [AMap.up_other _ _ (hdis g hg), AMap.up_other _ _ (hdis g hg)]
    exact liveA_iff.1 (t.lv g (hsub.subset hg))
  · exact (hsub.map _).nodup hnd
  · have h1 := t.ln
    rw [List.length_append, List.length_take, List.length_drop]
    omega
  · show g.f1 < AMap.up s.gens live[k].f0 (s.gens live[k].f0 + 1) g.f0 ∧ 0 ≤ g.f0 ∧ g.f0 < s.room
    rw [List.mem_append] at hg
    rcases hg with hg | hg
    · have h1 := t.gn g hg
      refine ⟨?_, h1.2⟩
      by_cases e : g.f0 = live[k].f0
      · rw [e, AMap.up_same]; have := h1.1; rw [e] at this; omega
      · rw [AMap.up_other _ _ e]; exact h1.1
    · simp at hg
      subst hg
      rw [AMap.up_same, hl2.2]
      exact ⟨by omega, hb⟩
  · cases hh : liveA (fr s live[k]) live[k] with
    | false => rfl
    | true =>
      have h1 : AMap.up s.taken live[k].f0 false live[k].f0 = true := (liveA_iff.1 hh).1
      rw [AMap.up_same] at h1
      exact absurd h1 (by simp)

end Go.Proofs.Ytlmeeafppigphaa.AOnce0
