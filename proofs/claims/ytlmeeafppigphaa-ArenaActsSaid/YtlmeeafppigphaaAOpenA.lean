/-
  A list of acts, opened; ArenaActs' walk.
-/
import Derived.Test.YtlmeeafppigphaaProg
import Derived.Test.YtlmeeafppigphaaAMap
import Derived.Test.YtlmeeafppigphaaArena
import Derived.Test.YtlmeeafppigphaaAFree
import Derived.Test.YtlmeeafppigphaaAActs
import Derived.Test.YtlmeeafppigphaaPArenaActsx0
import Derived.Test.YtlmeeafppigphaaOpenI
import Derived.Deep.Matrix
import Derived.Deep.SlicePairs
import Derived.Deep.Strs
import Derived.OpenShut
import Derived.Below
import Derived.Deep.Draws
import Derived.Deep.AppendLies
import Derived.Maps.AppendAt
import Derived.OwnWalk
import Derived.Laws.BytesArg
import Derived.Laws.MakeOwn
import Derived.Laws.OwnMore
import Derived.Deep.OwnRows
import Derived.Tactics
import Derived.Lib.ConvBytes
import Derived.Laws.Slices
import Derived.WalkKit
import Derived.KernelRfl
import Derived.RowKit3
import Derived.Deep.LoopGhost
import Derived.Deep.QuietTactic
import Derived.BigQuiet
import Derived.WideLaws
import Derived.Deep.DeepCutAuto
import Derived.Deep.CutBlock
import Derived.Deep.RegionHeld3
import Derived.Laws.Rows
import Derived.Lib.AppendStr
import Derived.ArgAppend
import Derived.Laws.IdiomCopy
import Derived.OrdersHeld
import Derived.Laws.BitsLemmas
import Derived.RowKit
import Derived.Lib.SliceRun
import Derived.Test.YtlmeeafppigphaaWWords
import Derived.Test.YtlmeeafppigphaaWLast
import Derived.Test.YtlmeeafppigphaaWTab
import Derived.Test.YtlmeeafppigphaaWFour
import Derived.Test.YtlmeeafppigphaaWQPut
import Derived.Test.YtlmeeafppigphaaWApart
import Derived.Test.YtlmeeafppigphaaWArr
import Derived.Test.YtlmeeafppigphaaWZeros
import Derived.Test.YtlmeeafppigphaaWFoot
import Derived.Test.YtlmeeafppigphaaWKept
import Derived.Test.YtlmeeafppigphaaWShare
import Derived.Test.YtlmeeafppigphaaWN
import Derived.Test.YtlmeeafppigphaaWFootNe
import Derived.Test.YtlmeeafppigphaaWAt
import Derived.Test.YtlmeeafppigphaaWEqStruct
import Derived.Test.YtlmeeafppigphaaWRepsOne
import Derived.Test.YtlmeeafppigphaaWInv
import Derived.Test.YtlmeeafppigphaaWInvWords
import Derived.Test.YtlmeeafppigphaaWGuard
import Derived.Test.YtlmeeafppigphaaWNEv
import Derived.Test.YtlmeeafppigphaaWMore
namespace Go.Proofs.Ytlmeeafppigphaa.AOpenA
open Go.RowKit Go.Proofs.YtlmeeafppigphaaW.PrintWords Go.Proofs.YtlmeeafppigphaaW.PrintLast Go.Proofs.YtlmeeafppigphaaW.PrintMore
set_option linter.unusedVariables false
set_option linter.unusedSimpArgs false
open Go.Deep Go.ChangeShapes
open Arena AFree
theorem shape28 {E : Type} {enc : TypeId × Value → E} {W : World} {fuel : Nat} {v : Value} {x : DataW E × List MemPlace} (h : DataW.trod enc Try.prog W 0 (fun _ => true) true fuel 28 [v] = some x) : ∃ a len cap, v = .slice a len cap := by
  cases v with
  | slice a len cap => exact ⟨a, len, cap, rfl⟩
  | _ =>
    rcases open_slice Try.underlying28 h with ⟨hcs, _⟩ | ⟨a1, len1, cap1, m, n, D, Pl, hcs, _⟩ <;> simp at hcs
theorem handles {E : Type} {enc : TypeId × Value → E} {W : World} {fuel : Nat} {v : Value} {x : DataW E × List MemPlace} (h : DataW.trod enc Try.prog W 0 (fun _ => true) true fuel 28 [v] = some x) :
    ∃ (A : Option Addr) (c : Nat) (l : List H), v = .slice A l.length c ∧ l.length ≤ c ∧ Kd.C kH W A l.length l ∧ (∀ g, g ∈ l → AMap.Wf g.f0) := by
  rcases open_slice_pairs Try.underlying28 Try.underlying30 (by kernel_rfl) rfl rfl (by kernel_rfl) (by kernel_rfl) h with ⟨hcs, _⟩ | ⟨a1, len1, cap1, m, n, V0, V1, D0, D1, P0, P1, hcs, _, hl, hm, hmm, _, hr⟩
  · simp at hcs
    subst hcs
    exact ⟨none, 0, [], rfl, Nat.le_refl _, Kd.C_nil _ _, by simp⟩
  · simp at hcs
    subst hcs
    simp only [if_true] at hmm
    subst hmm
    have each : ∀ i, i < m → ∃ y : Int × Int, V0 i = .int .i64 y.1 ∧ V1 i = .int .i64 y.2 ∧ AMap.Wf y.1 := by
      intro i hi
      obtain ⟨_, _, t0, t1⟩ := hr i hi
      obtain ⟨z, e0, _, wz⟩ := DataW.trod_int Try.underlying3 t0
      obtain ⟨z1, e1, _, _⟩ := DataW.trod_int Try.underlying3 t1
      exact ⟨(z, z1), by simpa using e0, by simpa using e1, wz⟩
    obtain ⟨Y, hY⟩ := choose_lt each
    refine ⟨some a1, m, (List.range len1).map fun r => ⟨(Y r).1, (Y r).2⟩, by simp, by simpa using hl, ⟨rfl, by unfold maxLen at hm; simp; omega, fun _ => ⟨a1, rfl, fun j p hj => ?_⟩⟩, fun b hb => ?_⟩
    · have hjl : j < len1 := by have := (List.getElem?_eq_some_iff.1 hj).1; simpa using this
      obtain rfl : (⟨(Y j).1, (Y j).2⟩ : H) = p := by simpa [hjl] using hj
      obtain ⟨c0, c1, _, _⟩ := hr j (by omega)
      obtain ⟨e0, e1, _⟩ := hY j (by omega)
      rw [e0] at c0
      rw [e1] at c1
      refine ⟨[.int .i64 (Y j).1, .int .i64 (Y j).2], rfl, ⟨[_], [_], rfl, rfl, rfl⟩, fun i u hi => ?_⟩
      match i, hi with
      | 0, hi =>
        obtain rfl := Option.some.inj hi
        exact c0
      | 1, hi =>
        obtain rfl := Option.some.inj hi
        exact c1
    · obtain ⟨r, hr', rfl⟩ := List.mem_map.1 hb
      exact (hY r (by have := List.mem_range.1 hr'; omega)).2.2
theorem acts {E : Type} {enc : TypeId × Value → E} {W : World} {fuel : Nat} {a : Option Addr} {len cap : Nat} {x : DataW E × List MemPlace}
    (h : DataW.trod enc Try.prog W 0 (fun _ => true) true fuel 43 [.slice a len cap] = some x) :
    ∃ l : List (Int × Int × List H), len = l.length ∧ l.length ≤ cap ∧ Kd.C AActs.kA W a l.length l ∧ (∀ q, q ∈ l → ∀ g, g ∈ q.2.2 → AMap.Wf g.f0) := by
  rcases open_slice Try.underlying43 h with ⟨hcs, _⟩ | ⟨a1, len1, cap1, m, n, D, Pl, hcs, _, hl, hm, hmm, _, hx⟩
  · simp at hcs
    obtain ⟨rfl, rfl, rfl⟩ := hcs
    exact ⟨[], rfl, Nat.le_refl _, Kd.C_nil _ _, by simp⟩
  · simp at hcs
    obtain ⟨rfl, rfl, rfl⟩ := hcs
    simp only [if_true] at hmm
    subst hmm
    have ce : Try.prog.cellsOf 47 = 3 := by kernel_rfl
    have each : ∀ i, i < m → ∃ q : Int × Int × (Option Addr × Nat × List H), W.cell? (a1.add (i * 3)) = some (.int .i64 q.1) ∧ W.cell? (a1.add (i * 3 + 1)) = some (.int .i64 q.2.1) ∧ W.cell? (a1.add (i * 3 + 2)) = some (.slice q.2.2.1 q.2.2.2.2.length q.2.2.2.1) ∧
        q.2.2.2.2.length ≤ q.2.2.2.1 ∧ Kd.C kH W q.2.2.1 q.2.2.2.2.length q.2.2.2.2 ∧ (∀ g, g ∈ q.2.2.2.2 → AMap.Wf g.f0) := by
      intro i hi
      obtain ⟨cs', h1, h2⟩ := hx i hi
      rw [ce] at h1
      obtain ⟨_, hlen, hcell⟩ := World.cells?_some h1
      obtain ⟨y0, y1, y2, k, _, hxl, t0, t1, t2⟩ := trod_struct3 Try.underlying47 h2
      have e3 : Try.prog.cellsOf 3 = 1 := by kernel_rfl
      have e28 : Try.prog.cellsOf 28 = 1 := by kernel_rfl
      match cs', hlen with
      | [v0, v1, v2], _ =>
        simp [e3, e28] at t0 t1 t2
        have g0 := hcell 0 (by omega)
        have g1 := hcell 1 (by omega)
        have g2 := hcell 2 (by omega)
        rw [Deep.add_add] at g0 g1 g2
        obtain ⟨z0, q0, _, _⟩ := DataW.trod_int Try.underlying3 t0
        obtain ⟨z1, q1, _, _⟩ := DataW.trod_int Try.underlying3 t1
        obtain ⟨A2, c2, l, rfl, hlc, hC, hwf⟩ := handles t2
        simp at q0 q1
        subst q0 q1
        exact ⟨(z0, z1, (A2, c2, l)), by simpa using g0, by simpa using g1, by simpa using g2, hlc, hC, hwf⟩
    obtain ⟨Y, hY⟩ := choose_lt each
    refine ⟨(List.range len).map fun r => ((Y r).1, (Y r).2.1, (Y r).2.2.2.2), by simp, by simpa using hl, ⟨rfl, by unfold maxLen at hm; simp; omega, fun _ => ⟨a1, rfl, fun j p hj => ?_⟩⟩, fun q hq => ?_⟩
    · have hjl : j < len := by have := (List.getElem?_eq_some_iff.1 hj).1; simpa using this
      obtain rfl : ((Y j).1, (Y j).2.1, (Y j).2.2.2.2) = p := by simpa [hjl] using hj
      obtain ⟨c0, c1, c2, h1, h2, _⟩ := hY j (by omega)
      refine ⟨[.int .i64 (Y j).1, .int .i64 (Y j).2.1, .slice (Y j).2.2.1 (Y j).2.2.2.2.length (Y j).2.2.2.1], rfl, ⟨[_], [_, _], rfl, rfl, ⟨[_], [_], rfl, rfl, ⟨_, _, rfl, h1, h2⟩⟩⟩, fun i u hi => ?_⟩
      match i, hi with
      | 0, hi =>
        obtain rfl := Option.some.inj hi
        exact c0
      | 1, hi =>
        obtain rfl := Option.some.inj hi
        exact c1
      | 2, hi =>
        obtain rfl := Option.some.inj hi
        exact c2
    · obtain ⟨r, hr', rfl⟩ := List.mem_map.1 hq
      exact (hY r (by have := List.mem_range.1 hr'; omega)).2.2.2.2.2
theorem walk (room : Int) (A0 : Option Addr) (c0 : Nat) (l0 : List (Int × Int × List H)) (w : World) (hC0 : Kd.C AActs.kA w A0 l0.length l0) (hw : ∀ q, q ∈ l0 → ∀ g, g ∈ q.2.2 → AMap.Wf g.f0) :
    Calls Try.prog 6 #[.int .i64 room, .slice A0 l0.length c0] w fun e w' => e = .returned (.bool true) ∧ Below w.heap.size w w' := by
  by_cases hl : 60 < l0.length
  · exact AActs.many_acts room A0 c0 l0 hl w
  · by_cases hr : room < 0 ∨ 1048576 < room
    · exact AActs.bad_room room A0 c0 l0 hl hr w
    · exact AActs.main_ room A0 c0 l0 w hC0 (by omega) (by omega) (by omega) hw

end Go.Proofs.Ytlmeeafppigphaa.AOpenA
