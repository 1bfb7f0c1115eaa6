/-
  An arena's plain law.
-/
import Derived.Test.YtlmeeafppigphaaProg
import Derived.Test.YtlmeeafppigphaaAMap
import Derived.Test.YtlmeeafppigphaaArena
import Derived.Test.YtlmeeafppigphaaAFree
import Derived.Test.YtlmeeafppigphaaPArenaActsx0
import Derived.Below
import Derived.Deep.Draws
import Derived.Deep.AppendLies
import Derived.Maps.AppendAt
import Derived.OwnWalk
import Derived.Laws.BytesArg
import Derived.Laws.MakeOwn
import Derived.Laws.OwnMore
import Derived.Deep.OwnRows
import Derived.Tactics
import Derived.Lib.ConvBytes
import Derived.Laws.Slices
import Derived.WalkKit
import Derived.KernelRfl
import Derived.RowKit3
import Derived.Deep.LoopGhost
import Derived.Deep.QuietTactic
import Derived.BigQuiet
import Derived.WideLaws
import Derived.Deep.DeepCutAuto
import Derived.Deep.CutBlock
import Derived.Deep.RegionHeld3
import Derived.Laws.Rows
import Derived.Lib.AppendStr
import Derived.ArgAppend
import Derived.Laws.IdiomCopy
import Derived.OrdersHeld
import Derived.Laws.BitsLemmas
import Derived.RowKit
import Derived.Lib.SliceRun
import Derived.Test.YtlmeeafppigphaaWWords
import Derived.Test.YtlmeeafppigphaaWLast
import Derived.Test.YtlmeeafppigphaaWTab
import Derived.Test.YtlmeeafppigphaaWFour
import Derived.Test.YtlmeeafppigphaaWQPut
import Derived.Test.YtlmeeafppigphaaWApart
import Derived.Test.YtlmeeafppigphaaWArr
import Derived.Test.YtlmeeafppigphaaWZeros
import Derived.Test.YtlmeeafppigphaaWFoot
import Derived.Test.YtlmeeafppigphaaWKept
import Derived.Test.YtlmeeafppigphaaWShare
import Derived.Test.YtlmeeafppigphaaWN
import Derived.Test.YtlmeeafppigphaaWFootNe
import Derived.Test.YtlmeeafppigphaaWAt
import Derived.Test.YtlmeeafppigphaaWEqStruct
import Derived.Test.YtlmeeafppigphaaWRepsOne
import Derived.Test.YtlmeeafppigphaaWInv
import Derived.Test.YtlmeeafppigphaaWInvWords
import Derived.Test.YtlmeeafppigphaaWGuard
import Derived.Test.YtlmeeafppigphaaWNEv
import Derived.Test.YtlmeeafppigphaaWMore
namespace Go.Proofs.Ytlmeeafppigphaa.APlain
open Go.RowKit Go.Proofs.YtlmeeafppigphaaW.PrintWords Go.Proofs.YtlmeeafppigphaaW.PrintLast Go.Proofs.YtlmeeafppigphaaW.PrintMore
set_option linter.unusedVariables false
set_option linter.unusedSimpArgs false
open Arena AFree
/-- What Take hands out, and what is left. -/
def takeA (s : Ar) : Option (H × Ar) :=
  match s.free.getLast? with
  | some x => some (⟨x, s.gens x⟩, tk { s with free := s.free.dropLast } x)
  | none => if s.fresh = s.room then none else some (⟨s.fresh, s.gens s.fresh⟩, tk { s with fresh := s.fresh + 1 } s.fresh)
/-- How an arena stays. -/
structure Inv (n : Nat) (s : Ar) : Prop where
  f0 : 0 ≤ s.fresh
  f1 : s.fresh ≤ s.room
  rm : s.room ≤ 1048576
  ct : (s.cnt : Int) + (s.free.length : Int) = s.fresh
  nd : s.free.Nodup
  frr : ∀ k, k ∈ s.free → 0 ≤ k ∧ k < s.fresh
  tkk : ∀ k, s.taken k = true ↔ 0 ≤ k ∧ k < s.fresh ∧ k ∉ s.free
  gb : GB n s
theorem Inv_new (room : Int) (h0 : 0 ≤ room) (h1 : room ≤ 1048576) : Inv 0 ⟨room, fun _ => 0, fun _ => false, 0, [], 0⟩ :=
  ⟨Int.le_refl _, h0, h1, rfl, List.nodup_nil, fun k h => by simp at h, fun k => by simp; try omega, fun k => by simp⟩
theorem nodup_len : ∀ (N : Nat) (l : List Int), l.Nodup → (∀ k, k ∈ l → 0 ≤ k ∧ k < (N : Int)) → l.length ≤ N
  | 0, l, _, h => by
    cases l with
    | nil => simp
    | cons a l => have := h a (by simp); omega
  | N + 1, l, hn, h => by
    by_cases hm : (N : Int) ∈ l
    · have h1 := nodup_len N (l.erase (N : Int)) (hn.erase _) (fun k hk => by
        rw [hn.mem_erase_iff] at hk
        have := h k hk.2
        have := hk.1
        omega)
      rw [List.length_erase_of_mem hm] at h1
      omega
    · have h1 := nodup_len N l hn (fun k hk => by
        have := h k hk
        have : k ≠ (N : Int) := fun e => hm (e ▸ hk)
        omega)
      omega
theorem takeA_free {s : Ar} {xs : List Int} {x : Int} (h : s.free = xs ++ [x]) : takeA s = some (⟨x, s.gens x⟩, tk { s with free := xs } x) := by
  unfold takeA
  simp [h]
theorem takeA_fresh {s : Ar} (h : s.free = []) (hr : s.fresh ≠ s.room) : takeA s = some (⟨s.fresh, s.gens s.fresh⟩, tk { s with fresh := s.fresh + 1 } s.fresh) := by
  unfold takeA
  simp [h, hr]
theorem takeA_full {s : Ar} (h : s.free = []) (hr : s.fresh = s.room) : takeA s = none := by
  unfold takeA
  simp [h, hr]
theorem takeA_cases (s : Ar) : (∃ xs x, s.free = xs ++ [x]) ∨ (s.free = [] ∧ s.fresh ≠ s.room) ∨ (s.free = [] ∧ s.fresh = s.room) := by
  rcases List.eq_nil_or_concat s.free with h | ⟨xs, x, h⟩
  · by_cases hr : s.fresh = s.room
    · exact .inr (.inr ⟨h, hr⟩)
    · exact .inr (.inl ⟨h, hr⟩)
  · exact .inl ⟨xs, x, by simpa using h⟩
theorem takeA_none {n : Nat} {s : Ar} (hi : Inv n s) : takeA s = none ↔ (s.cnt : Int) = s.room := by
  have h1 := hi.ct
  have h2 := hi.f1
  rcases takeA_cases s with ⟨xs, x, h⟩ | ⟨h, hr⟩ | ⟨h, hr⟩
  · rw [takeA_free h]
    rw [h] at h1
    simp at h1 ⊢
    omega
  · rw [takeA_fresh h hr]
    rw [h] at h1
    simp at h1 ⊢
    omega
  · rw [takeA_full h hr]
    rw [h] at h1
    simp at h1 ⊢
    omega
/-- What a slot taken is. -/
structure Took (s : Ar) (h : H) (s' : Ar) : Prop where
  room : s'.room = s.room
  gens : s'.gens = s.gens
  gen : h.f1 = s.gens h.f0
  was : s.taken h.f0 = false
  taken : s'.taken = AMap.up s.taken h.f0 true
  cnt : s'.cnt = s.cnt + 1
  lo : 0 ≤ h.f0
  hi : h.f0 < s.room
  fl : s'.free.length ≤ s.free.length
theorem Inv_take {n : Nat} {s s' : Ar} {h : H} (hi : Inv n s) (ht : takeA s = some (h, s')) : Inv n s' ∧ Took s h s' := by
  have h1 := hi.ct
  have h2 := hi.f1
  have h3 := hi.f0
  have hnd := hi.nd
  have hfr := hi.frr
  have htk := hi.tkk
  rcases takeA_cases s with ⟨xs, x, e⟩ | ⟨e, hr⟩ | ⟨e, hr⟩
  · rw [takeA_free e] at ht
    simp only [Option.some.injEq, Prod.mk.injEq] at ht
    obtain ⟨rfl, rfl⟩ := ht
    rw [e] at h1 hnd hfr htk
    have hx := hfr x (by simp)
    have hxt : s.taken x = false := by
      cases ht : s.taken x with
      | false => rfl
      | true => exact absurd ((htk x).1 ht).2.2 (by simp)
    have hxx : x ∉ xs := by
      intro hm
      have := List.nodup_append.1 hnd
      exact this.2.2 x hm x (by simp) rfl
    refine ⟨⟨h3, h2, hi.rm, ?_, ?_, ?_, ?_, hi.gb⟩, ⟨rfl, rfl, rfl, hxt, rfl, ?_, hx.1, by show x < s.room; omega, by rw [e]; simp [tk]⟩⟩
    · simp [tk, hxt] at h1 ⊢; omega
    · exact (List.nodup_append.1 hnd).1
    · exact fun k hk => hfr k (List.mem_append_left _ hk)
    · intro k
      show AMap.up s.taken x true k = true ↔ 0 ≤ k ∧ k < s.fresh ∧ k ∉ xs
      unfold AMap.up
      by_cases hk : k = x
      · subst hk; simp [hx.1, hx.2, hxx]
      · rw [if_neg hk, htk k]; simp [hk]
    · simp [tk, hxt]
  · rw [takeA_fresh e hr] at ht
    simp only [Option.some.injEq, Prod.mk.injEq] at ht
    obtain ⟨rfl, rfl⟩ := ht
    have hxt : s.taken s.fresh = false := by
      cases ht : s.taken s.fresh with
      | false => rfl
      | true => have := ((htk s.fresh).1 ht).2.1; omega
    rw [e] at h1 htk
    refine ⟨⟨by show 0 ≤ s.fresh + 1; omega, by show s.fresh + 1 ≤ s.room; omega, hi.rm, ?_, hnd, ?_, ?_, hi.gb⟩, ⟨rfl, rfl, rfl, hxt, rfl, ?_, h3, by show s.fresh < s.room; omega, Nat.le_refl _⟩⟩
    · simp [tk, hxt, e] at h1 ⊢; omega
    · intro k hk; have := hfr k hk; exact ⟨this.1, by show k < s.fresh + 1; omega⟩
    · intro k
      show AMap.up s.taken s.fresh true k = true ↔ 0 ≤ k ∧ k < s.fresh + 1 ∧ k ∉ s.free
      rw [e]
      unfold AMap.up
      by_cases hk : k = s.fresh
      · subst hk; simp; omega
      · rw [if_neg hk, htk k]; simp; omega
    · simp [tk, hxt]
  · rw [takeA_full e hr] at ht
    exact absurd ht (by simp)
/-- What a slot freed is. -/
theorem Inv_free {n : Nat} {s : Ar} {h : H} (hi : Inv n s) (ht : s.taken h.f0 = true) : Inv (n + 1) (fr s h) ∧ (fr s h).cnt + 1 = s.cnt := by
  have h1 := hi.ct
  have h2 := (hi.tkk h.f0).1 ht
  have hc : 1 ≤ s.cnt := by
    have := nodup_len s.fresh.toNat (h.f0 :: s.free) (List.nodup_cons.2 ⟨h2.2.2, hi.nd⟩) (fun k hk => by
      rw [List.mem_cons] at hk
      rcases hk with rfl | hk
      · omega
      · have := hi.frr k hk; omega)
    simp at this
    omega
  refine ⟨⟨hi.f0, hi.f1, hi.rm, ?_, ?_, ?_, ?_, hi.gb.fr h⟩, ?_⟩
  · simp [fr, ht]; omega
  · show (s.free ++ [h.f0]).Nodup
    rw [List.nodup_append]
    exact ⟨hi.nd, by simp, fun a ha b hb e => by simp at hb; subst hb; subst e; exact h2.2.2 ha⟩
  · intro k hk
    have hk : k ∈ s.free ++ [h.f0] := hk
    rw [List.mem_append] at hk
    rcases hk with hk | hk
    · exact hi.frr k hk
    · simp at hk; subst hk; exact ⟨h2.1, h2.2.1⟩
  · intro k
    show AMap.up s.taken h.f0 false k = true ↔ 0 ≤ k ∧ k < s.fresh ∧ k ∉ s.free ++ [h.f0]
    unfold AMap.up
    by_cases hk : k = h.f0
    · subst hk; simp
    · rw [if_neg hk, hi.tkk k]; simp [hk]
  · simp [fr, ht]; omega

end Go.Proofs.Ytlmeeafppigphaa.APlain
