/-
  An argument that is a list of acts, opened into what the walk reads; its condition: that the argument is read as data.
-/
import Derived.Test.YtabiloklphjeiaaProg
import Derived.Test.YtabiloklphjeiaaActs
import Derived.Test.YtabiloklphjeiaaOpen
import Derived.Deep.Matrix
import Derived.Deep.SlicePairs
import Derived.Deep.Strs
import Derived.OpenShut
import Derived.Below
import Derived.Deep.Draws
import Derived.Deep.AppendLies
import Derived.Maps.AppendAt
import Derived.OwnWalk
import Derived.Laws.BytesArg
import Derived.Laws.MakeOwn
import Derived.Laws.OwnMore
import Derived.Deep.OwnRows
import Derived.Tactics
import Derived.Lib.ConvBytes
import Derived.Laws.Slices
import Derived.WalkKit
import Derived.KernelRfl
import Derived.RowKit3
import Derived.Deep.LoopGhost
import Derived.Deep.QuietTactic
import Derived.BigQuiet
import Derived.WideLaws
import Derived.Deep.DeepCutAuto
import Derived.Deep.CutBlock
import Derived.Deep.RegionHeld3
import Derived.Laws.Rows
import Derived.Lib.AppendStr
import Derived.ArgAppend
import Derived.Laws.IdiomCopy
import Derived.OrdersHeld
import Derived.Laws.BitsLemmas
import Derived.RowKit
import Derived.Lib.SliceRun
import Derived.Test.YtabiloklphjeiaaWWords
import Derived.Test.YtabiloklphjeiaaWLast
import Derived.Test.YtabiloklphjeiaaWTab
import Derived.Test.YtabiloklphjeiaaWFour
import Derived.Test.YtabiloklphjeiaaWQPut
import Derived.Test.YtabiloklphjeiaaWApart
import Derived.Test.YtabiloklphjeiaaWArr
import Derived.Test.YtabiloklphjeiaaWZeros
import Derived.Test.YtabiloklphjeiaaWFoot
import Derived.Test.YtabiloklphjeiaaWKept
import Derived.Test.YtabiloklphjeiaaWShare
import Derived.Test.YtabiloklphjeiaaWN
import Derived.Test.YtabiloklphjeiaaWFootNe
import Derived.Test.YtabiloklphjeiaaWAt
import Derived.Test.YtabiloklphjeiaaWEqStruct
import Derived.Test.YtabiloklphjeiaaWRepsOne
import Derived.Test.YtabiloklphjeiaaWInv
import Derived.Test.YtabiloklphjeiaaWInvWords
import Derived.Test.YtabiloklphjeiaaWGuard
import Derived.Test.YtabiloklphjeiaaWNEv
import Derived.Test.YtabiloklphjeiaaWMore
namespace Go.Proofs.Ytabiloklphjeiaa.OpenA
open Go.RowKit Go.Proofs.YtabiloklphjeiaaW.PrintWords Go.Proofs.YtabiloklphjeiaaW.PrintLast Go.Proofs.YtabiloklphjeiaaW.PrintMore
set_option linter.unusedVariables false
set_option linter.unusedSimpArgs false
open Go.Deep Go.ChangeShapes
theorem shape22 {H : Type} {enc : TypeId × Value → H} {W : World} {fuel : Nat} {v : Value} {x : DataW H × List MemPlace} (h : DataW.trod enc Try.prog W 0 (fun _ => true) true fuel 22 [v] = some x) : ∃ a len cap, v = .slice a len cap := by
  rcases open_int_rows Try.underlying22 Try.underlying28 Try.underlying5 (by kernel_rfl) (by kernel_rfl) h with ⟨hcs, _⟩ | ⟨a1, len1, cap1, A, L, C, Z, hcs, _⟩
  · simp at hcs; exact ⟨_, _, _, hcs⟩
  · simp at hcs; exact ⟨_, _, _, hcs⟩
theorem acts {H : Type} {enc : TypeId × Value → H} {W : World} {fuel : Nat} {a : Option Addr} {len cap : Nat} {x : DataW H × List MemPlace}
    (h : DataW.trod enc Try.prog W 0 (fun _ => true) true fuel 38 [.slice a len cap] = some x) :
    ∃ l : List (Int × Int × List (List Int)), len = l.length ∧ l.length ≤ cap ∧ Kd.C Acts.kA W a l.length l := by
  rcases open_slice Try.underlying38 h with ⟨hcs, _⟩ | ⟨a1, len1, cap1, m, n, D, Pl, hcs, _, hl, hm, hmm, _, hx⟩
  · simp at hcs
    obtain ⟨rfl, rfl, rfl⟩ := hcs
    exact ⟨[], rfl, Nat.le_refl _, Kd.C_nil _ _⟩
  · simp at hcs
    obtain ⟨rfl, rfl, rfl⟩ := hcs
    simp only [if_true] at hmm
    subst hmm
    have ce : Try.prog.cellsOf 43 = 3 := by kernel_rfl
    have each : ∀ i, i < m → ∃ q : Int × Int × (Option Addr × Nat × List (List Int)), W.cell? (a1.add (i * 3)) = some (.int .i64 q.1) ∧ W.cell? (a1.add (i * 3 + 1)) = some (.int .i64 q.2.1) ∧ W.cell? (a1.add (i * 3 + 2)) = some (.slice q.2.2.1 q.2.2.2.2.length q.2.2.2.1) ∧
        q.2.2.2.2.length ≤ q.2.2.2.1 ∧ Kd.C (Kd.slice 5 (Kd.int .u8)) W q.2.2.1 q.2.2.2.2.length q.2.2.2.2 := by
      intro i hi
      obtain ⟨cs', h1, h2⟩ := hx i hi
      rw [ce] at h1
      obtain ⟨_, hlen, hcell⟩ := World.cells?_some h1
      obtain ⟨y0, y1, y2, k, _, hxl, t0, t1, t2⟩ := trod_struct3 Try.underlying43 h2
      have e3 : Try.prog.cellsOf 3 = 1 := by kernel_rfl
      have e22 : Try.prog.cellsOf 22 = 1 := by kernel_rfl
      match cs', hlen with
      | [v0, v1, v2], _ =>
        simp [e3, e22] at t0 t1 t2
        have g0 := hcell 0 (by omega)
        have g1 := hcell 1 (by omega)
        have g2 := hcell 2 (by omega)
        rw [Deep.add_add] at g0 g1 g2
        obtain ⟨z0, q0, _, _⟩ := DataW.trod_int Try.underlying3 t0
        obtain ⟨z1, q1, _, _⟩ := DataW.trod_int Try.underlying3 t1
        obtain ⟨a2, l2, c2, rfl⟩ := shape22 t2
        obtain ⟨l, rfl, hlc, hC, _⟩ := Open.pieces t2
        simp at q0 q1
        subst q0 q1
        exact ⟨(z0, z1, (a2, c2, l)), by simpa using g0, by simpa using g1, by simpa using g2, hlc, hC⟩
    obtain ⟨Y, hY⟩ := choose_lt each
    refine ⟨(List.range len).map fun r => ((Y r).1, (Y r).2.1, (Y r).2.2.2.2), by simp, by simpa using hl, ⟨rfl, by unfold maxLen at hm; simp; omega, fun _ => ⟨a1, rfl, fun j p hj => ?_⟩⟩⟩
    have hjl : j < len := by have := (List.getElem?_eq_some_iff.1 hj).1; simpa using this
    obtain rfl : ((Y j).1, (Y j).2.1, (Y j).2.2.2.2) = p := by simpa [hjl] using hj
    obtain ⟨c0, c1, c2, h1, h2⟩ := hY j (by omega)
    refine ⟨[.int .i64 (Y j).1, .int .i64 (Y j).2.1, .slice (Y j).2.2.1 (Y j).2.2.2.2.length (Y j).2.2.2.1], rfl, ⟨[_], [_, _], rfl, rfl, ⟨[_], [_], rfl, rfl, ⟨_, _, rfl, h1, h2⟩⟩⟩, fun i u hi => ?_⟩
    match i, hi with
    | 0, hi =>
      obtain rfl := Option.some.inj hi
      exact c0
    | 1, hi =>
      obtain rfl := Option.some.inj hi
      exact c1
    | 2, hi =>
      obtain rfl := Option.some.inj hi
      exact c2

end Go.Proofs.Ytabiloklphjeiaa.OpenA
