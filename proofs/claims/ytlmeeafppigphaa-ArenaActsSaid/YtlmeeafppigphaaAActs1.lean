/-
  Both arenas side by side.
-/
import Derived.Test.YtlmeeafppigphaaProg
import Derived.Test.YtlmeeafppigphaaAMap
import Derived.Test.YtlmeeafppigphaaArena
import Derived.Test.YtlmeeafppigphaaAFree
import Derived.Test.YtlmeeafppigphaaAFree2
import Derived.Test.YtlmeeafppigphaaRegH
import Derived.Test.YtlmeeafppigphaaAPlain
import Derived.Test.YtlmeeafppigphaaAMany
import Derived.Test.YtlmeeafppigphaaAMany2
import Derived.Test.YtlmeeafppigphaaAPlain2
import Derived.Test.YtlmeeafppigphaaAOnce0
import Derived.Test.YtlmeeafppigphaaAMany0
import Derived.Test.YtlmeeafppigphaaARef1
import Derived.Test.YtlmeeafppigphaaARef2
import Derived.Test.YtlmeeafppigphaaARef3
import Derived.Test.YtlmeeafppigphaaARef4
import Derived.Test.YtlmeeafppigphaaAActs0
import Derived.Test.YtlmeeafppigphaaPArenaActsx0
import Derived.Test.YtlmeeafppigphaaPArenaActsx2
import Derived.Below
import Derived.Deep.Draws
import Derived.Deep.AppendLies
import Derived.Maps.AppendAt
import Derived.OwnWalk
import Derived.Laws.BytesArg
import Derived.Laws.MakeOwn
import Derived.Laws.OwnMore
import Derived.Deep.OwnRows
import Derived.Tactics
import Derived.Lib.ConvBytes
import Derived.Laws.Slices
import Derived.WalkKit
import Derived.KernelRfl
import Derived.RowKit3
import Derived.Deep.LoopGhost
import Derived.Deep.QuietTactic
import Derived.BigQuiet
import Derived.WideLaws
import Derived.Deep.DeepCutAuto
import Derived.Deep.CutBlock
import Derived.Deep.RegionHeld3
import Derived.Laws.Rows
import Derived.Lib.AppendStr
import Derived.ArgAppend
import Derived.Laws.IdiomCopy
import Derived.OrdersHeld
import Derived.Laws.BitsLemmas
import Derived.RowKit
import Derived.Lib.SliceRun
import Derived.Test.YtlmeeafppigphaaWWords
import Derived.Test.YtlmeeafppigphaaWLast
import Derived.Test.YtlmeeafppigphaaWTab
import Derived.Test.YtlmeeafppigphaaWFour
import Derived.Test.YtlmeeafppigphaaWQPut
import Derived.Test.YtlmeeafppigphaaWApart
import Derived.Test.YtlmeeafppigphaaWArr
import Derived.Test.YtlmeeafppigphaaWZeros
import Derived.Test.YtlmeeafppigphaaWFoot
import Derived.Test.YtlmeeafppigphaaWKept
import Derived.Test.YtlmeeafppigphaaWShare
import Derived.Test.YtlmeeafppigphaaWN
import Derived.Test.YtlmeeafppigphaaWFootNe
import Derived.Test.YtlmeeafppigphaaWAt
import Derived.Test.YtlmeeafppigphaaWEqStruct
import Derived.Test.YtlmeeafppigphaaWRepsOne
import Derived.Test.YtlmeeafppigphaaWInv
import Derived.Test.YtlmeeafppigphaaWInvWords
import Derived.Test.YtlmeeafppigphaaWGuard
import Derived.Test.YtlmeeafppigphaaWNEv
import Derived.Test.YtlmeeafppigphaaWMore
namespace Go.Proofs.Ytlmeeafppigphaa.AActs1
open Go.RowKit Go.Proofs.YtlmeeafppigphaaW.PrintWords Go.Proofs.YtlmeeafppigphaaW.PrintLast Go.Proofs.YtlmeeafppigphaaW.PrintMore
set_option linter.unusedVariables false
set_option linter.unusedSimpArgs false
open Go.Proofs.Ytlmeeafppigphaa.AMap (Wf)
open Arena AFree AFree2 APlain AMany AMany2 APlain2 AOnce0 AMany0 ARef1 ARef2 ARef3 ARef4 AActs0
/-- Both arenas: the program's and the reference's; what they own lies apart. -/
def St (w1 W : World) (ga r n : Nat) (s : Ar) (fl tk : List H) (okA okE : Nat → Prop) : Prop :=
  IsA w1.heap.size okA W ga n s ∧ IsE w1.heap.size okE W r fl tk ∧ (∀ q, okA q → ¬ okE q) ∧ Below w1.heap.size w1 W
section
variable {w1 W W' : World} {ga r n : Nat} {s : Ar} {fl tk : List H} {okA okE : Nat → Prop}
theorem St.below (h : St w1 W ga r n s fl tk okA okE) (hw : Below W.heap.size W W') : St w1 W' ga r n s fl tk okA okE :=
  ⟨h.1.below hw, h.2.1.below hw, h.2.2.1, below_step h.2.2.2 hw⟩
theorem St.lt (h : St w1 W ga r n s fl tk okA okE) {q : Nat} (hq : okA q ∨ okE q) : q < W.heap.size :=
  hq.elim (fun h1 => h.1.lt h1) (fun h1 => h.2.1.lt h1)
end
theorem IsA.bound {base : Nat} {ok : Nat → Prop} {W : World} {g n : Nat} {s : Ar} (h : IsA base ok W g n s) : IsA base (fun k => ok k ∧ base ≤ k) W g n s := by
  obtain ⟨b1, b2, A, c, hb, hL, hg, h1, h2, hn, hG, hT, hr⟩ := h
  exact ⟨b1, b2, A, c, hb, fun k hk => hL k hk.1, ⟨hg.1, hg.2, hg.1⟩, ⟨h1.1, h1.2, h1.1⟩, ⟨h2.1, h2.2, h2.1⟩, hn, hG, hT, Kd.R_mono (Kd.R_bound hr) (fun k hk => ⟨⟨hk.1.1, hk.2.1⟩, hk.1.2⟩)⟩
theorem IsE.bound {base : Nat} {ok : Nat → Prop} {W : World} {r : Nat} {fl tk : List H} (h : IsE base ok W r fl tk) : IsE base (fun k => ok k ∧ base ≤ k) W r fl tk := by
  obtain ⟨Af, cf, At, ct, okf, okt, hb, hL, hr, h1, h2, hf, ht⟩ := h
  exact ⟨Af, cf, At, ct, fun k => okf k ∧ base ≤ k, fun k => okt k ∧ base ≤ k, hb, fun k hk => hL k hk.1, ⟨hr.1, hr.2, hr.1⟩, fun k hk => ⟨⟨(h1 k hk.1).1, hk.2⟩, (h1 k hk.1).2.1, fun h3 => (h1 k hk.1).2.2 h3.1⟩, fun k hk => ⟨⟨(h2 k hk.1).1, hk.2⟩, (h2 k hk.1).2⟩, Kd.R_mono (Kd.R_bound hf) (fun k hk => ⟨hk.1, hk.2.1⟩), Kd.R_mono (Kd.R_bound ht) (fun k hk => ⟨hk.1, hk.2.1⟩)⟩
theorem St.bound {w1 W : World} {ga r n : Nat} {s : Ar} {fl tk : List H} {okA okE : Nat → Prop} (h : St w1 W ga r n s fl tk okA okE) : St w1 W ga r n s fl tk (fun k => okA k ∧ w1.heap.size ≤ k) (fun k => okE k ∧ w1.heap.size ≤ k) :=
  ⟨IsA.bound h.1, IsE.bound h.2.1, fun q h1 h2 => h.2.2.1 q h1.1 h2.1, h.2.2.2⟩
theorem heap_kH : Kd.Heap kH := Kd.heap_iso _ (Kd.heap_pair (Kd.heap_int _) (Kd.heap_int _))
theorem namedL_mem {tk hs : List H} {h : H} (hh : h ∈ namedL tk hs) : h ∈ tk := by
  unfold namedL at hh
  rw [List.mem_flatMap] at hh
  obtain ⟨a, _, h2⟩ := hh
  unfold ofSlot at h2
  exact (List.mem_filter.1 h2).1
theorem Kept.or1 {w W : World} {S T : Nat → Prop} (h : Kept w W S) : Kept w W (fun q => S q ∨ T q) := ⟨h.1, fun i hi hn => h.2 i hi (fun h2 => hn (.inl h2))⟩
theorem Kept.or2 {w W : World} {S T : Nat → Prop} (h : Kept w W T) : Kept w W (fun q => S q ∨ T q) := ⟨h.1, fun i hi hn => h.2 i hi (fun h2 => hn (.inr h2))⟩

theorem free_both {w1 W : World} {ga r n : Nat} {s : Ar} {fl tk : List H} {okA okE : Nat → Prop} (h : St w1 W ga r n s fl tk okA okE) (hr : RInv n s fl tk) (hroom : s.room ≤ 1000) (A : Option Addr) (c : Nat) (hs : List H)
    (hA : ∀ W', Kept W W' (fun q => okA q ∨ okE q) → Kd.C kH W' A hs.length hs) (hw : ∀ i (h : i < hs.length), Wf (hs[i]).f0) (hl : hs.length ≤ 1000000) (hn : n ≤ 100000000) :
    Calls Try.prog 10 #[.pointer (some ⟨ga, 0, none⟩), .slice A hs.length c] W fun e W2 => ∃ f : Int, e = .returned (.int .i64 f) ∧ Kept W W2 (fun q => okA q ∨ okE q) ∧
      (Calls Try.prog 18 #[.pointer (some ⟨r, 0, none⟩), .slice A hs.length c] W2 fun e W4 => e = .returned (.int .i64 f) ∧ ∃ (s' : Ar) (n' : Nat) (fl' tk' : List H) (okA' okE' : Nat → Prop), RInv n' s' fl' tk' ∧ s'.room = s.room ∧ n' ≤ n + hs.length ∧ St w1 W4 ga r n' s' fl' tk' okA' okE' ∧ Kept W W4 (fun q => okA q ∨ okE q)) := by
  have h1 := hr.inv.ct
  have h2 := hr.inv.f1
  have h3 := hr.fll
  have h4 := hr.ln
  have hfl : fl.length ≤ 100000 ∧ tk.length ≤ 100000 ∧ hs.length ≤ 10000000 := by omega
  cases hc : chk s (fun _ => false) hs with
  | false =>
    refine Calls.mono (free_bad ga n s A c hs okA w1 W h.1 (fun W' hk => hA W' (Kept.of_below hk _)) hw (by omega) hc) ?_
    rintro e W2 ⟨rfl, hb⟩
    refine ⟨51, rfl, Kept.of_below hb _, ?_⟩
    have hno : ¬ okAll tk hs := fun ho => by rw [(okAll_iff hr hs).1 ho] at hc; exact absurd hc (by simp)
    refine Calls.mono (rfree_bad r fl tk A c hs okE w1 W2 (h.2.1.below hb) (fun W' hk => hA W' ((Kept.of_below hb _).then_ (Kept.or2 (S := okA) hk) (fun q hq => .inl hq))) hfl hno) ?_
    rintro e W4 ⟨rfl, hb4⟩
    exact ⟨rfl, s, n, fl, tk, okA, okE, hr, rfl, by omega, h.below (below_step hb hb4), Kept.of_below (below_step hb hb4) _⟩
  | true =>
    refine Calls.mono (free_ok ga n s A c hs okA w1 W h.1 h.2.2.2 (fun W' hk => hA W' (Kept.or1 hk)) hw (by omega) hc hr.inv.gb (by omega) (by omega)) ?_
    rintro e W2 ⟨rfl, hI, hb, hk⟩
    refine ⟨0, rfl, Kept.or1 hk, ?_⟩
    have ho := (okAll_iff hr hs).2 hc
    have hE := h.2.1.kept hk (fun q h1 h2 => h.2.2.1 q h2 h1)
    refine Calls.mono (rfree_ok r fl tk A c hs okE w1 W2 hE hb (fun W' hk' => hA W' ((Kept.or1 (T := okE) hk).then_ (Kept.or2 (S := okA) hk') (fun q hq => .inl hq))) hfl ho (fun g hg => by
      obtain ⟨i, hi, rfl⟩ := List.mem_iff_getElem.1 hg
      have := (hr.bnd (ho i hi).1).2
      omega)) ?_
    rintro e W4 ⟨ok', rfl, hE4, hb4, hk4, hok4⟩
    refine ⟨rfl, stf s hs hs.length, n + hs.length, _, _, _, ok', RInv_all hr hs ho hs.length (Nat.le_refl _), stf_room s hs _ (Nat.le_refl _), Nat.le_refl _, ⟨hI.kept hk4 (fun q hq hq2 => hq.elim (fun h1 => h.2.2.1 q h1 hq2) (fun h1 => by have := h.2.1.lt hq2; omega)), hE4, fun q hq hq2 => (hok4 q hq2).elim (fun h5 => hq.elim (fun h1 => h.2.2.1 q h1 h5) (fun h1 => by have := h.2.1.lt h5; omega)) (fun h5 => by have := hI.lt hq; omega), hb4⟩, (Kept.or1 (T := okE) hk).then_ (Kept.or2 (S := okA) hk4) (fun q hq => .inl hq)⟩

theorem many_both {w1 W : World} {ga r n : Nat} {s : Ar} {fl tk : List H} {okA okE : Nat → Prop} (h : St w1 W ga r n s fl tk okA okE) (hr : RInv n s fl tk) (hroom : s.room ≤ 1000) (m : Int) :
    Calls Try.prog 13 #[.pointer (some ⟨ga, 0, none⟩), .int .i64 m] W fun e W2 => ∃ (f : Int) (l : List H) (A1 : Option Addr) (c1 : Nat), e = .returned (.tuple #[.slice A1 l.length c1, .int .i64 f]) ∧ Kept W W2 (fun q => okA q ∨ okE q) ∧ l.length ≤ 1000 ∧
      (Calls Try.prog 17 #[.pointer (some ⟨r, 0, none⟩), .int .i64 m] W2 fun e W4 => ∃ (A2 : Option Addr) (c2 : Nat) (s' : Ar) (fl' tk' : List H) (okE' : Nat → Prop), e = .returned (.tuple #[.slice A2 l.length c2, .int .i64 f]) ∧ RInv n s' fl' tk' ∧ s'.room = s.room ∧ St w1 W4 ga r n s' fl' tk' okA okE' ∧
        (Kd.C kH W4 A1 l.length l ∧ l.length ≤ c1 ∧ Kd.C kH W4 A2 l.length l ∧ l.length ≤ c2) ∧ Kept W W4 (fun q => okA q ∨ okE q)) := by
  have h1 := hr.inv.ct
  have h2 := hr.inv.f1
  have h3 := hr.fll
  have h4 := hr.ln
  by_cases hm : m < 0
  · refine Calls.mono (many_neg ga m hm W) ?_
    rintro e W2 ⟨rfl, rfl⟩
    refine ⟨2, [], none, 0, rfl, Kept.refl _ _, Nat.zero_le _, Calls.mono (rmany_neg r m hm W2) ?_⟩
    rintro e W4 ⟨rfl, rfl⟩
    exact ⟨none, 0, s, fl, tk, okE, rfl, hr, rfl, h, ⟨Kd.C_nil _ _, Nat.le_refl _, Kd.C_nil _ _, Nat.le_refl _⟩, Kept.refl _ _⟩
  · by_cases hf : (fl.length : Int) < m
    · refine Calls.mono (many_full ga n okA w1 W h.1 hr.inv m (by omega) (by omega)) ?_
      rintro e W2 ⟨rfl, rfl⟩
      have hb : Below W.heap.size W W.drew := below_drew1 (Below.refl _ _)
      refine ⟨50, [], none, 0, rfl, Kept.of_below hb _, Nat.zero_le _, Calls.mono (rmany_full r fl tk okE w1 W.drew (h.2.1.below hb) m (by omega) hf) ?_⟩
      rintro e W4 ⟨rfl, rfl⟩
      exact ⟨none, 0, s, fl, tk, okE, rfl, hr, rfl, h.below hb, ⟨Kd.C_nil _ _, Nat.le_refl _, Kd.C_nil _ _, Nat.le_refl _⟩, Kept.of_below hb _⟩
    · obtain ⟨k, rfl⟩ : ∃ k : Nat, m = (k : Int) := ⟨m.toNat, by omega⟩
      have hk : k ≤ fl.length := by omega
      refine Calls.mono (many_ok ga n okA w1 W h.1 h.2.2.2 hr.inv k (by omega)) ?_
      rintro e W2 ⟨vo, l, s', hM, rfl, hR, hI, hb, hk2⟩
      obtain ⟨rfl, r2⟩ := RInv_many hr k hM
      have hroom2 := (manyA_wf hr.inv k hM).2.1
      obtain ⟨A1, c1, rfl⟩ := Kd.R_slice hR
      refine ⟨0, fl.take k, A1, c1, rfl, Kept.or1 hk2, by rw [List.length_take]; omega, Calls.mono (rmany_ok r fl tk okE w1 W2 (h.2.1.kept hk2 (fun q h1 h2 => h.2.2.1 q h2 h1)) hb k hk (by omega) (by omega)) ?_⟩
      rintro e W4 ⟨vo, ok', okO, rfl, hR4, hE4, hb4, hk4, ho4, -⟩
      obtain ⟨A2, c2, rfl⟩ := Kd.R_slice hR4
      have hR2 := Kd.R_kept hR hk4 (fun q h1 h2 => by have := h.2.1.lt h2; omega)
      refine ⟨A2, c2, s', fl.drop k, tk ++ fl.take k, ok', rfl, r2, hroom2, ⟨hI.kept hk4 (fun q h1 h2 => h.2.2.1 q h1 h2), hE4, fun q h1 h2 => (ho4 q h2).elim (h.2.2.1 q h1) (fun h5 => by have := hI.lt h1; omega), hb4⟩, ⟨(Kd.R_reads' hR2).2.2, (Kd.R_reads' hR2).2.1, (Kd.R_reads' hR4).2.2, (Kd.R_reads' hR4).2.1⟩, (Kept.or1 (T := okE) hk2).then_ (Kept.or2 (S := okA) hk4) (fun q hq => .inl hq)⟩

end Go.Proofs.Ytlmeeafppigphaa.AActs1
