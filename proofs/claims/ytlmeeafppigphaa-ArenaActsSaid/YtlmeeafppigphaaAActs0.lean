/-
  The plain law of ArenaActs.
-/
import Derived.Test.YtlmeeafppigphaaProg
import Derived.Test.YtlmeeafppigphaaAMap
import Derived.Test.YtlmeeafppigphaaArena
import Derived.Test.YtlmeeafppigphaaAFree
import Derived.Test.YtlmeeafppigphaaAFree2
import Derived.Test.YtlmeeafppigphaaRegH
import Derived.Test.YtlmeeafppigphaaAPlain
import Derived.Test.YtlmeeafppigphaaAMany
import Derived.Test.YtlmeeafppigphaaAMany2
import Derived.Test.YtlmeeafppigphaaAPlain2
import Derived.Test.YtlmeeafppigphaaAOnce0
import Derived.Test.YtlmeeafppigphaaARef1
import Derived.Test.YtlmeeafppigphaaARef3
import Derived.Test.YtlmeeafppigphaaARef4
import Derived.Test.YtlmeeafppigphaaPArenaActsx0
import Derived.Test.YtlmeeafppigphaaPArenaActsx2
import Derived.Below
import Derived.Deep.Draws
import Derived.Deep.AppendLies
import Derived.Maps.AppendAt
import Derived.OwnWalk
import Derived.Laws.BytesArg
import Derived.Laws.MakeOwn
import Derived.Laws.OwnMore
import Derived.Deep.OwnRows
import Derived.Tactics
import Derived.Lib.ConvBytes
import Derived.Laws.Slices
import Derived.WalkKit
import Derived.KernelRfl
import Derived.RowKit3
import Derived.Deep.LoopGhost
import Derived.Deep.QuietTactic
import Derived.BigQuiet
import Derived.WideLaws
import Derived.Deep.DeepCutAuto
import Derived.Deep.CutBlock
import Derived.Deep.RegionHeld3
import Derived.Laws.Rows
import Derived.Lib.AppendStr
import Derived.ArgAppend
import Derived.Laws.IdiomCopy
import Derived.OrdersHeld
import Derived.Laws.BitsLemmas
import Derived.RowKit
import Derived.Lib.SliceRun
import Derived.Test.YtlmeeafppigphaaWWords
import Derived.Test.YtlmeeafppigphaaWLast
import Derived.Test.YtlmeeafppigphaaWTab
import Derived.Test.YtlmeeafppigphaaWFour
import Derived.Test.YtlmeeafppigphaaWQPut
import Derived.Test.YtlmeeafppigphaaWApart
import Derived.Test.YtlmeeafppigphaaWArr
import Derived.Test.YtlmeeafppigphaaWZeros
import Derived.Test.YtlmeeafppigphaaWFoot
import Derived.Test.YtlmeeafppigphaaWKept
import Derived.Test.YtlmeeafppigphaaWShare
import Derived.Test.YtlmeeafppigphaaWN
import Derived.Test.YtlmeeafppigphaaWFootNe
import Derived.Test.YtlmeeafppigphaaWAt
import Derived.Test.YtlmeeafppigphaaWEqStruct
import Derived.Test.YtlmeeafppigphaaWRepsOne
import Derived.Test.YtlmeeafppigphaaWInv
import Derived.Test.YtlmeeafppigphaaWInvWords
import Derived.Test.YtlmeeafppigphaaWGuard
import Derived.Test.YtlmeeafppigphaaWNEv
import Derived.Test.YtlmeeafppigphaaWMore
namespace Go.Proofs.Ytlmeeafppigphaa.AActs0
open Go.RowKit Go.Proofs.YtlmeeafppigphaaW.PrintWords Go.Proofs.YtlmeeafppigphaaW.PrintLast Go.Proofs.YtlmeeafppigphaaW.PrintMore
set_option linter.unusedVariables false
set_option linter.unusedSimpArgs false
open Arena AFree AFree2 APlain AMany AMany2 APlain2 AOnce0 ARef1 ARef3 ARef4
def rng (a b : Int) : List Int := (List.range (b - a).toNat).map (fun i : Nat => a + (i : Int))
theorem rng_cons {a b : Int} (h : a < b) : rng a b = a :: rng (a + 1) b := by
  unfold rng
  obtain ⟨m, hm⟩ : ∃ m, (b - a).toNat = m + 1 := ⟨(b - a).toNat - 1, by omega⟩
  rw [hm, show (b - (a + 1)).toNat = m by omega, List.range_succ_eq_map, List.map_cons, List.map_map]
  congr 1
  · simp
  · apply List.map_congr_left
    intro i _
    simp
    omega
theorem rng_nil {a b : Int} (h : b ≤ a) : rng a b = [] := by
  unfold rng
  rw [show (b - a).toNat = 0 by omega]; rfl
theorem rng_mem {a b k : Int} (h : k ∈ rng a b) : a ≤ k ∧ k < b := by
  unfold rng at h
  rw [List.mem_map] at h
  obtain ⟨i, hi, rfl⟩ := h
  rw [List.mem_range] at hi
  omega
theorem rng_len (a b : Int) : (rng a b).length = (b - a).toNat := by simp [rng]
def hOf (s : Ar) (k : Int) : H := ⟨k, s.gens k⟩
/-- How the reference's lists are those of an arena. -/
structure RInv (n : Nat) (s : Ar) (fl tk : List H) : Prop where
  inv : Inv n s
  lf : fl = (s.free.reverse ++ rng s.fresh s.room).map (hOf s)
  mt : ∀ h, h ∈ tk ↔ liveA s h = true
  nd : (tk.map (·.f0)).Nodup
  ln : tk.length = s.cnt
theorem RInv.fll {n : Nat} {s : Ar} {fl tk : List H} (r : RInv n s fl tk) : (fl.length : Int) = s.room - (s.cnt : Int) := by
  have h1 := r.inv.ct
  have h2 := r.inv.f1
  rw [r.lf, List.length_map, List.length_append, List.length_reverse, rng_len]
  omega
theorem RInv.bnd {n : Nat} {s : Ar} {fl tk : List H} (r : RInv n s fl tk) {h : H} (hh : h ∈ tk) : (0 ≤ h.f0 ∧ h.f0 < s.room) ∧ 0 ≤ h.f1 ∧ h.f1 ≤ (n : Int) := by
  have h1 := liveA_iff.1 ((r.mt h).1 hh)
  have h2 := (r.inv.tkk h.f0).1 h1.1
  have h3 := r.inv.f1
  have h4 := r.inv.gb h.f0
  rw [h1.2] at h4
  exact ⟨⟨h2.1, by omega⟩, h4⟩
theorem RInv.live {n : Nat} {s : Ar} {fl tk : List H} (r : RInv n s fl tk) (h : H) : inH tk h = liveA s h := by
  cases h1 : liveA s h with
  | true => exact inH_iff.2 ((r.mt h).2 h1)
  | false =>
    cases h2 : inH tk h with
    | false => rfl
    | true => rw [(r.mt h).1 (inH_iff.1 h2)] at h1; exact h1
theorem RInv_new (room : Int) (K : Nat) (hr : room = (K : Int)) (h1 : K ≤ 1000) : RInv 0 ⟨room, fun _ => 0, fun _ => false, 0, [], 0⟩ ((List.range K).map (fun i : Nat => (⟨(i : Int), 0⟩ : H))) [] := by
  subst hr
  refine ⟨Inv_new _ (by omega) (by omega), ?_, fun h => ?_, List.nodup_nil, rfl⟩
  · simp only [List.reverse_nil, List.nil_append]
    unfold rng
    rw [List.map_map, show ((K : Int) - 0).toNat = K by omega]
    apply List.map_congr_left
    intro i _
    simp [hOf]
  · simp [liveA]
theorem RInv_none {n : Nat} {s : Ar} {fl tk : List H} (r : RInv n s fl tk) (h : takeA s = none) : fl = [] := by
  have h1 := (takeA_none r.inv).1 h
  have h2 := r.fll
  exact List.eq_nil_of_length_eq_zero (by omega)
theorem RInv_take {n : Nat} {s s' : Ar} {fl tk : List H} {h : H} (r : RInv n s fl tk) (ht : takeA s = some (h, s')) : ∃ fl', fl = h :: fl' ∧ RInv n s' fl' (tk ++ [h]) := by
  obtain ⟨i2, k⟩ := Inv_take r.inv ht
  have hne : ∀ g, g ∈ tk → g.f0 ≠ h.f0 := fun g hg e => by
    have h1 := (liveA_iff.1 ((r.mt g).1 hg)).1
    rw [e, k.was] at h1
    exact absurd h1 (by simp)
  have hfl : fl = h :: (s'.free.reverse ++ rng s'.fresh s'.room).map (hOf s') := by
    rw [r.lf]
    rcases takeA_cases s with ⟨xs, x, e⟩ | ⟨e, hr⟩ | ⟨e, hr⟩
    · rw [takeA_free e] at ht
      simp only [Option.some.injEq, Prod.mk.injEq] at ht
      obtain ⟨rfl, rfl⟩ := ht
      rw [e, List.reverse_append]
      rfl
    · rw [takeA_fresh e hr] at ht
      simp only [Option.some.injEq, Prod.mk.injEq] at ht
      obtain ⟨rfl, rfl⟩ := ht
      have h5 := r.inv.f1
      rw [e, rng_cons (by omega)]
      rfl
    · rw [takeA_full e hr] at ht
      exact absurd ht (by simp)
  refine ⟨_, hfl, i2, rfl, fun g => ?_, ?_, ?_⟩
  · rw [List.mem_append, liveA_iff, k.taken, k.gens]
    constructor
    · rintro (hg | hg)
      · rw [AMap.up_other _ _ (hne g hg)]; exact liveA_iff.1 ((r.mt g).1 hg)
      · simp at hg; subst hg; rw [AMap.up_same]; exact ⟨rfl, k.gen.symm⟩
    · intro hg
      by_cases e : g.f0 = h.f0
      · right
        have h1 := hg.2
        rw [e, ← k.gen] at h1
        obtain ⟨x, y⟩ := g
        obtain ⟨z, u⟩ := h
        dsimp only at e h1
        subst e h1
        simp
      · left
        rw [AMap.up_other _ _ e] at hg
        exact (r.mt g).2 (liveA_iff.2 hg)
  · rw [List.map_append, List.nodup_append]
    refine ⟨r.nd, by simp, fun a ha b hb e => ?_⟩
    simp at hb ha
    obtain ⟨g, hg, e2⟩ := ha
    exact hne g hg (by rw [e2, e, hb])
  · rw [List.length_append, r.ln, k.cnt]; rfl
theorem RInv_many {n : Nat} {s : Ar} {fl tk : List H} (r : RInv n s fl tk) : ∀ (m : Nat) {l : List H} {s' : Ar}, manyA m s = some (l, s') → l = fl.take m ∧ RInv n s' (fl.drop m) (tk ++ fl.take m)
  | 0, l, s', e => by
    simp [manyA] at e
    obtain ⟨rfl, rfl⟩ := e
    exact ⟨by simp, by simpa using r⟩
  | m + 1, l, s', e => by
    simp only [manyA] at e
    cases h1 : manyA m s with
    | none => rw [h1] at e; simp at e
    | some p =>
      obtain ⟨l1, s1⟩ := p
      rw [h1] at e
      obtain ⟨e1, r1⟩ := RInv_many r m h1
      cases h2 : takeA s1 with
      | none => simp [h2] at e
      | some q =>
        obtain ⟨h, s2⟩ := q
        simp [h2] at e
        obtain ⟨rfl, rfl⟩ := e
        obtain ⟨fl', e3, r3⟩ := RInv_take r1 h2
        have hd : fl.drop (m + 1) = fl' := by
          rw [← List.drop_drop, e3]; rfl
        have hm : m < fl.length := by
          have := congrArg List.length e3
          simp at this
          omega
        have hg : fl[m] = h := by
          have h5 := List.drop_eq_getElem_cons hm
          rw [e3] at h5
          injection h5 with h5 _
          exact h5.symm
        have ht : fl.take (m + 1) = fl.take m ++ [h] := by rw [List.take_succ_eq_append_getElem hm, hg]
        rw [hd, ht, ← List.append_assoc]
        exact ⟨by rw [e1], r3⟩
theorem filt_len : ∀ (l : List H) (h : H), (l.map (·.f0)).Nodup → h ∈ l → (l.filter (fun a => !(eqH a h))).length + 1 = l.length
  | [], h, _, hm => by simp at hm
  | a :: l, h, hn, hm => by
    rw [List.map_cons, List.nodup_cons] at hn
    by_cases e : a = h
    · subst e
      rw [List.filter_cons_of_neg (by simp [eqH_iff.2 rfl]), List.filter_eq_self.2 (fun b hb => by
        cases hh : eqH b a with
        | false => rfl
        | true => rw [eqH_iff.1 hh] at hb; exact absurd (List.mem_map_of_mem hb) hn.1)]
      rfl
    · have h1 : eqH a h = false := by
        cases hh : eqH a h with
        | false => rfl
        | true => exact absurd (eqH_iff.1 hh) e
      rw [List.filter_cons_of_pos (by rw [h1]; rfl), List.length_cons, List.length_cons, filt_len l h hn.2 (by
        rw [List.mem_cons] at hm
        exact hm.elim (fun h => absurd h.symm e) id)]
theorem RInv_free {n : Nat} {s : Ar} {fl tk : List H} {h : H} (r : RInv n s fl tk) (hm : h ∈ tk) : RInv (n + 1) (fr s h) (rf1 (fl, tk) h).1 (rf1 (fl, tk) h).2 := by
  have hl := liveA_iff.1 ((r.mt h).1 hm)
  obtain ⟨i2, c2⟩ := Inv_free r.inv hl.1
  have hk := (r.inv.tkk h.f0).1 hl.1
  have hother : ∀ k, k ≠ h.f0 → hOf (fr s h) k = hOf s k := fun k hk => by
    show (⟨k, AMap.up s.gens h.f0 (s.gens h.f0 + 1) k⟩ : H) = ⟨k, s.gens k⟩
    rw [AMap.up_other _ _ hk]
  refine ⟨i2, ?_, fun g => ?_, ?_, ?_⟩
  · show ⟨h.f0, h.f1 + 1⟩ :: fl = ((s.free ++ [h.f0]).reverse ++ rng s.fresh s.room).map (hOf (fr s h))
    rw [List.reverse_append]
    show ⟨h.f0, h.f1 + 1⟩ :: fl = hOf (fr s h) h.f0 :: (s.free.reverse ++ rng s.fresh s.room).map (hOf (fr s h))
    congr 1
    · show (⟨h.f0, h.f1 + 1⟩ : H) = ⟨h.f0, AMap.up s.gens h.f0 (s.gens h.f0 + 1) h.f0⟩
      rw [AMap.up_same, hl.2]
    · rw [r.lf]
      apply List.map_congr_left
      intro k hk2
      refine (hother k (fun e => ?_)).symm
      subst e
      rw [List.mem_append, List.mem_reverse] at hk2
      rcases hk2 with h1 | h1
      · exact hk.2.2 h1
      · have := rng_mem h1; omega
  · show g ∈ tk.filter (fun a => !(eqH a h)) ↔ _
    rw [List.mem_filter, r.mt g, liveA_iff, liveA_iff]
    show _ ↔ AMap.up s.taken h.f0 false g.f0 = true ∧ AMap.up s.gens h.f0 (s.gens h.f0 + 1) g.f0 = g.f1
    by_cases e : g.f0 = h.f0
    · rw [e, AMap.up_same, AMap.up_same]
      constructor
      · rintro ⟨⟨h1, h2⟩, h3⟩
        exfalso
        have : g = h := by
          obtain ⟨x, y⟩ := g
          obtain ⟨z, u⟩ := h
          dsimp only at e h2 hl
          subst e
          rw [← h2, ← hl.2]
        rw [eqH_iff.2 this] at h3
        exact absurd h3 (by simp)
      · rintro ⟨h1, _⟩
        exact absurd h1 (by simp)
    · rw [AMap.up_other _ _ e, AMap.up_other _ _ e]
      have h1 : eqH g h = false := by
        cases hh : eqH g h with
        | false => rfl
        | true => rw [eqH_iff.1 hh] at e; exact absurd rfl e
      rw [h1]
      simp
  · exact (List.filter_sublist.map _).nodup r.nd
  · have h1 := filt_len tk h r.nd hm
    have h2 := r.ln
    show (tk.filter (fun a => !(eqH a h))).length = _
    omega
theorem chk_iff (s : Ar) : ∀ (hs : List H) (t : Int → Bool), chk s t hs = true ↔ (∀ h, h ∈ hs → liveA s h = true ∧ t h.f0 = false) ∧ (hs.map (·.f0)).Nodup
  | [], t => by simp [chk]
  | a :: l, t => by
    rw [chk]
    by_cases hc : liveA s a = true ∧ t a.f0 = false
    · rw [if_pos hc, chk_iff s l]
      rw [List.map_cons, List.nodup_cons]
      constructor
      · rintro ⟨h1, h2⟩
        refine ⟨fun h hh => ?_, fun hm => ?_, h2⟩
        · rw [List.mem_cons] at hh
          rcases hh with rfl | hh
          · exact hc
          · have h3 := h1 h hh
            refine ⟨h3.1, ?_⟩
            by_cases e : h.f0 = a.f0
            · rw [e]; exact hc.2
            · have h4 := h3.2; rw [AMap.up_other _ _ e] at h4; exact h4
        · obtain ⟨g, hg, e⟩ := List.mem_map.1 hm
          have h3 := (h1 g hg).2
          have e : g.f0 = a.f0 := e
          rw [e, AMap.up_same] at h3
          exact absurd h3 (by simp)
      · rintro ⟨h1, h2, h3⟩
        refine ⟨fun h hh => ?_, h3⟩
        have h4 := h1 h (List.mem_cons_of_mem _ hh)
        refine ⟨h4.1, ?_⟩
        rw [AMap.up_other _ _ (fun e => h2 (by rw [← e]; exact List.mem_map_of_mem hh))]
        exact h4.2
    · rw [if_neg hc]
      constructor
      · intro h; exact absurd h (by simp)
      · rintro ⟨h1, _⟩
        exact absurd (h1 a List.mem_cons_self) hc
theorem okAll_iff {n : Nat} {s : Ar} {fl tk : List H} (r : RInv n s fl tk) (hs : List H) : okAll tk hs ↔ chk s (fun _ => false) hs = true := by
  rw [chk_iff]
  constructor
  · intro h
    refine ⟨fun g hg => ?_, ?_⟩
    · obtain ⟨i, hi, rfl⟩ := List.mem_iff_getElem.1 hg
      exact ⟨(r.mt _).1 (h i hi).1, rfl⟩
    · show List.Pairwise _ _
      rw [List.pairwise_map, List.pairwise_iff_getElem]
      intro i j hi hj hij e
      have h1 := liveA_iff.1 ((r.mt _).1 (h i hi).1)
      have h2 := liveA_iff.1 ((r.mt _).1 (h j hj).1)
      refine (h j hj).2 i hij ?_
      have e2 : hs[i].f1 = hs[j].f1 := by rw [← h1.2, ← h2.2, e]
      generalize hs[i] = a at e e2
      generalize hs[j] = b at e e2
      obtain ⟨x, y⟩ := a
      obtain ⟨z, u⟩ := b
      dsimp only at e e2
      rw [e, e2]
  · rintro ⟨h1, h2⟩ i hi
    refine ⟨(r.mt _).2 (h1 _ (List.getElem_mem hi)).1, fun k hk e => ?_⟩
    have h3 : List.Pairwise _ _ := h2
    rw [List.pairwise_map, List.pairwise_iff_getElem] at h3
    exact h3 k i (by omega) hi hk (by rw [e])
theorem rfs_mem (fl tk hs : List H) (h : H) : ∀ k, k ≤ hs.length → h ∈ tk → (∀ i (hi : i < hs.length), i < k → hs[i] ≠ h) → h ∈ (rfs fl tk hs k).2
  | 0, _, hm, _ => hm
  | k + 1, hk, hm, hne => by
    rw [rfs_succ fl tk hs k hk]
    show h ∈ List.filter _ _
    rw [List.mem_filter]
    refine ⟨rfs_mem fl tk hs h k (Nat.le_of_lt hk) hm (fun i hi h2 => hne i hi (by omega)), ?_⟩
    cases hh : eqH h hs[k] with
    | false => rfl
    | true => exact absurd (eqH_iff.1 hh).symm (hne k hk (Nat.lt_succ_self _))
theorem RInv_all {n : Nat} {s : Ar} {fl tk : List H} (r : RInv n s fl tk) (hs : List H) (ho : okAll tk hs) : ∀ k, k ≤ hs.length → RInv (n + k) (stf s hs k) (rfs fl tk hs k).1 (rfs fl tk hs k).2
  | 0, _ => r
  | k + 1, hk => by
    have r1 := RInv_all r hs ho k (Nat.le_of_lt hk)
    have hm := rfs_mem fl tk hs hs[k] k (Nat.le_of_lt hk) (ho k hk).1 (fun i hi h2 => (ho k hk).2 i h2)
    rw [rfs_succ fl tk hs k hk, stf_succ s hs k hk]
    exact RInv_free r1 hm
theorem fr_room (s : Ar) (h : H) : (fr s h).room = s.room := rfl
theorem stf_room (s : Ar) (hs : List H) : ∀ k, k ≤ hs.length → (stf s hs k).room = s.room
  | 0, _ => rfl
  | k + 1, hk => by rw [stf_succ s hs k hk, fr_room, stf_room s hs k (Nat.le_of_lt hk)]

end Go.Proofs.Ytlmeeafppigphaa.AActs0
