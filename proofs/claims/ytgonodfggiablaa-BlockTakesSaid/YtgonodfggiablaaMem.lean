/-
  Small facts on memory for the walks: a block whose cells are known is read as a list of numbers or of pieces. Their conditions stand in each.
-/
import Derived.Test.YtgonodfggiablaaProg
import Derived.Below
import Derived.Deep.Draws
import Derived.Deep.AppendLies
import Derived.Maps.AppendAt
import Derived.OwnWalk
import Derived.Laws.BytesArg
import Derived.Laws.MakeOwn
import Derived.Laws.OwnMore
import Derived.Deep.OwnRows
import Derived.Tactics
import Derived.Lib.ConvBytes
import Derived.Laws.Slices
import Derived.WalkKit
import Derived.KernelRfl
import Derived.RowKit3
import Derived.Deep.LoopGhost
import Derived.Deep.QuietTactic
import Derived.BigQuiet
import Derived.WideLaws
import Derived.Deep.DeepCutAuto
import Derived.Deep.CutBlock
import Derived.Deep.RegionHeld3
import Derived.Laws.Rows
import Derived.Lib.AppendStr
import Derived.ArgAppend
import Derived.Laws.IdiomCopy
import Derived.OrdersHeld
import Derived.Laws.BitsLemmas
import Derived.RowKit
import Derived.Test.YtgonodfggiablaaWWords
import Derived.Test.YtgonodfggiablaaWLast
import Derived.Test.YtgonodfggiablaaWTab
import Derived.Test.YtgonodfggiablaaWFour
import Derived.Test.YtgonodfggiablaaWQPut
import Derived.Test.YtgonodfggiablaaWApart
import Derived.Test.YtgonodfggiablaaWArr
import Derived.Test.YtgonodfggiablaaWZeros
import Derived.Test.YtgonodfggiablaaWFoot
import Derived.Test.YtgonodfggiablaaWKept
import Derived.Test.YtgonodfggiablaaWShare
import Derived.Test.YtgonodfggiablaaWN
import Derived.Test.YtgonodfggiablaaWFootNe
import Derived.Test.YtgonodfggiablaaWAt
import Derived.Test.YtgonodfggiablaaWEqStruct
import Derived.Test.YtgonodfggiablaaWRepsOne
import Derived.Test.YtgonodfggiablaaWInv
import Derived.Test.YtgonodfggiablaaWInvWords
import Derived.Test.YtgonodfggiablaaWGuard
import Derived.Test.YtgonodfggiablaaWNEv
import Derived.Test.YtgonodfggiablaaWMore
import Derived.Lib.SlBytesConst
import Derived.Lib.SmallJoins
namespace Go.Proofs.Ytgonodfggiablaa.Mem
open Go.RowKit Go.Proofs.YtgonodfggiablaaW.PrintWords Go.Proofs.YtgonodfggiablaaW.PrintLast Go.Proofs.YtgonodfggiablaaW.PrintMore
theorem add0 (g j : Nat) : (⟨g, 0, none⟩ : Addr).add j = ⟨g, j, none⟩ := by simp [Addr.add]; exact fun h => h.symm
theorem ints_at {W : World} {g : Nat} {l : List Int} (hl : l.length ≤ 9223372036854775807) (h : ∀ j x, l[j]? = some x → W.cell? ⟨g, j, none⟩ = some (.int .u8 x)) : (Kd.int .u8).C W (some ⟨g, 0, none⟩) l.length l :=
  Kd.C_of_reads (d := (0 : Int)) (h1 := fun _ => rfl) ⟨rfl, hl, fun _ => ⟨_, rfl, fun j hj => by rw [add0]; exact h j _ (by simp [hj])⟩⟩
/-- A row of elements whose cells are known. -/
theorem row_at {α : Type} {d : Kd α} {W : World} {g : Nat} {l : List α} (hl : l.length ≤ 9223372036854775807) (h : ∀ j p, l[j]? = some p → ∃ c, d.K W p c ∧ ∀ i u, c[i]? = some u → W.cell? ⟨g, j * d.sz + i, none⟩ = some u) : d.C W (some ⟨g, 0, none⟩) l.length l :=
  ⟨rfl, hl, fun _ => ⟨_, rfl, fun j p hj => by
    obtain ⟨c, hK, hc⟩ := h j p hj
    exact ⟨c, d.K_len hK, hK, fun i u hi => by rw [add0]; exact hc i u hi⟩⟩⟩
/-- One piece in a row of its own. -/
theorem piece_C {W : World} {g c : Nat} {A : Option Addr} {l : List Int} (hcell : W.cell? ⟨g, 0, none⟩ = some (.slice A l.length c)) (hc : l.length ≤ c) (hC : (Kd.int .u8).C W A l.length l) : Kd.C (Kd.slice 5 (Kd.int .u8)) W (some ⟨g, 0, none⟩) [l].length [l] :=
  row_at (by simp) fun j p hj => by
    match j, hj with
    | 0, hj =>
      obtain rfl := Option.some.inj hj
      refine ⟨[.slice A l.length c], ⟨A, c, rfl, hc, hC⟩, fun i u hi => ?_⟩
      match i, hi with
      | 0, hi =>
        obtain rfl := Option.some.inj hi
        rw [show 0 * (Kd.slice 5 (Kd.int .u8)).sz + 0 = 0 from by rw [Nat.zero_mul]]
        exact hcell
theorem below_pay {w W : World} (h : Below w.heap.size w W) : w.heap.size ≤ W.heap.size := h.size
end Go.Proofs.Ytgonodfggiablaa.Mem
