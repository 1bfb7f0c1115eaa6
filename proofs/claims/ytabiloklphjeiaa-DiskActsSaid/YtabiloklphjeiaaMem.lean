/-
  Rows whose cells are known: slices laid out of literals, told in every world that keeps them.
-/
import Derived.Test.YtabiloklphjeiaaProg
import Derived.Lib.SlBytesConst
import Derived.Lib.SmallJoins
import Derived.Below
import Derived.Deep.Draws
import Derived.Deep.AppendLies
import Derived.Maps.AppendAt
import Derived.OwnWalk
import Derived.Laws.BytesArg
import Derived.Laws.MakeOwn
import Derived.Laws.OwnMore
import Derived.Deep.OwnRows
import Derived.Tactics
import Derived.Lib.ConvBytes
import Derived.Laws.Slices
import Derived.WalkKit
import Derived.KernelRfl
import Derived.RowKit3
import Derived.Deep.LoopGhost
import Derived.Deep.QuietTactic
import Derived.BigQuiet
import Derived.WideLaws
import Derived.Deep.DeepCutAuto
import Derived.Deep.CutBlock
import Derived.Deep.RegionHeld3
import Derived.Laws.Rows
import Derived.Lib.AppendStr
import Derived.ArgAppend
import Derived.Laws.IdiomCopy
import Derived.OrdersHeld
import Derived.Laws.BitsLemmas
import Derived.RowKit
import Derived.Lib.SliceRun
import Derived.Test.YtabiloklphjeiaaWWords
import Derived.Test.YtabiloklphjeiaaWLast
import Derived.Test.YtabiloklphjeiaaWTab
import Derived.Test.YtabiloklphjeiaaWFour
import Derived.Test.YtabiloklphjeiaaWQPut
import Derived.Test.YtabiloklphjeiaaWApart
import Derived.Test.YtabiloklphjeiaaWArr
import Derived.Test.YtabiloklphjeiaaWZeros
import Derived.Test.YtabiloklphjeiaaWFoot
import Derived.Test.YtabiloklphjeiaaWKept
import Derived.Test.YtabiloklphjeiaaWShare
import Derived.Test.YtabiloklphjeiaaWN
import Derived.Test.YtabiloklphjeiaaWFootNe
import Derived.Test.YtabiloklphjeiaaWAt
import Derived.Test.YtabiloklphjeiaaWEqStruct
import Derived.Test.YtabiloklphjeiaaWRepsOne
import Derived.Test.YtabiloklphjeiaaWInv
import Derived.Test.YtabiloklphjeiaaWInvWords
import Derived.Test.YtabiloklphjeiaaWGuard
import Derived.Test.YtabiloklphjeiaaWNEv
import Derived.Test.YtabiloklphjeiaaWMore
namespace Go.Proofs.Ytabiloklphjeiaa.Mem
open Go.RowKit Go.Proofs.YtabiloklphjeiaaW.PrintWords Go.Proofs.YtabiloklphjeiaaW.PrintLast Go.Proofs.YtabiloklphjeiaaW.PrintMore
set_option linter.unusedVariables false
set_option linter.unusedSimpArgs false
theorem add0 (g j : Nat) : (⟨g, 0, none⟩ : Addr).add j = ⟨g, j, none⟩ := by simp [Addr.add]; exact fun h => h.symm
theorem ints_at {W : World} {g : Nat} {l : List Int} (hl : l.length ≤ 9223372036854775807) (h : ∀ j x, l[j]? = some x → W.cell? ⟨g, j, none⟩ = some (.int .u8 x)) : (Kd.int .u8).C W (some ⟨g, 0, none⟩) l.length l :=
  Kd.C_of_reads (d := (0 : Int)) (h1 := fun _ => rfl) ⟨rfl, hl, fun _ => ⟨_, rfl, fun j hj => by rw [add0]; exact h j _ (by simp [hj])⟩⟩
/-- A row of elements whose cells are known. -/
theorem row_at {α : Type} {d : Kd α} {W : World} {g : Nat} {l : List α} (hl : l.length ≤ 9223372036854775807) (h : ∀ j p, l[j]? = some p → ∃ c, d.K W p c ∧ ∀ i u, c[i]? = some u → W.cell? ⟨g, j * d.sz + i, none⟩ = some u) : d.C W (some ⟨g, 0, none⟩) l.length l :=
  ⟨rfl, hl, fun _ => ⟨_, rfl, fun j p hj => by
    obtain ⟨c, hK, hc⟩ := h j p hj
    exact ⟨c, d.K_len hK, hK, fun i u hi => by rw [add0]; exact hc i u hi⟩⟩⟩
/-- One piece in a row of its own. -/
theorem piece_C {W : World} {g c : Nat} {A : Option Addr} {l : List Int} (hcell : W.cell? ⟨g, 0, none⟩ = some (.slice A l.length c)) (hc : l.length ≤ c) (hC : (Kd.int .u8).C W A l.length l) : Kd.C (Kd.slice 5 (Kd.int .u8)) W (some ⟨g, 0, none⟩) [l].length [l] :=
  row_at (by simp) fun j p hj => by
    match j, hj with
    | 0, hj =>
      obtain rfl := Option.some.inj hj
      refine ⟨[.slice A l.length c], ⟨A, c, rfl, hc, hC⟩, fun i u hi => ?_⟩
      match i, hi with
      | 0, hi =>
        obtain rfl := Option.some.inj hi
        rw [show 0 * (Kd.slice 5 (Kd.int .u8)).sz + 0 = 0 from by rw [Nat.zero_mul]]
        exact hcell
/-- Two pieces in a row of their own. -/
theorem pieces_C {W : World} {g c c' : Nat} {A A' : Option Addr} {l l' : List Int} (hcell : W.cell? ⟨g, 0, none⟩ = some (.slice A l.length c)) (hc : l.length ≤ c) (hC : (Kd.int .u8).C W A l.length l) (hcell' : W.cell? ⟨g, 1, none⟩ = some (.slice A' l'.length c')) (hc' : l'.length ≤ c') (hC' : (Kd.int .u8).C W A' l'.length l') : Kd.C (Kd.slice 5 (Kd.int .u8)) W (some ⟨g, 0, none⟩) [l, l'].length [l, l'] :=
  row_at (by simp) fun j p hj => by
    match j, hj with
    | 0, hj =>
      obtain rfl := Option.some.inj hj
      refine ⟨[.slice A l.length c], ⟨A, c, rfl, hc, hC⟩, fun i u hi => ?_⟩
      match i, hi with
      | 0, hi =>
        obtain rfl := Option.some.inj hi
        rw [show 0 * (Kd.slice 5 (Kd.int .u8)).sz + 0 = 0 from by rw [Nat.zero_mul]]
        exact hcell
    | 1, hj =>
      obtain rfl := Option.some.inj hj
      refine ⟨[.slice A' l'.length c'], ⟨A', c', rfl, hc', hC'⟩, fun i u hi => ?_⟩
      match i, hi with
      | 0, hi =>
        obtain rfl := Option.some.inj hi
        exact hcell'
theorem mk_cell {W : World} {g : Nat} {cells : Array Value} {t : Nat} {mk : Nat × Nat} (hb : W.heap[g]? = some (.cells cells t mk)) (j : Nat) : W.cell? ⟨g, j, none⟩ = cells[j]? := by simp [World.cell?, hb]
theorem ints_blk {W : World} {p : Nat} {l : List Int} {t : Nat} {mk : Nat × Nat} (hl : l.length ≤ 9223372036854775807) (hp : W.heap[p]? = some (.cells (l.map (Value.int .u8)).toArray t mk)) : (Kd.int .u8).C W (some ⟨p, 0, none⟩) l.length l :=
  ints_at hl (fun j x hx => by rw [mk_cell hp j]; simp [hx])
/-- A literal piece, told in every world that keeps it. -/
theorem lit_args {W : World} {ok : Nat → Prop} {p q c t t' : Nat} {l : List Int} {mk mk' : Nat × Nat} (hl : l.length ≤ 9223372036854775807) (hp : W.heap[p]? = some (.cells (l.map (Value.int .u8)).toArray t mk)) (hq : W.heap[q]? = some (.cells #[.slice (some ⟨p, 0, none⟩) l.length c] t' mk'))
    (hpk : ¬ ok p) (hqk : ¬ ok q) (hc : l.length ≤ c) : ∀ W', Kept W W' ok → Kd.C (Kd.slice 5 (Kd.int .u8)) W' (some ⟨q, 0, none⟩) [l].length [l] := fun W' hk =>
  piece_C ((mk_cell (blk_kept hq hk hqk) 0).trans rfl) hc (ints_blk hl (blk_kept hp hk hpk))
/-- A piece told so, in a row of its own. -/
theorem one_args {W : World} {ok : Nat → Prop} {q c t' : Nat} {A : Option Addr} {l : List Int} {mk' : Nat × Nat} (hC : ∀ W', Kept W W' ok → (Kd.int .u8).C W' A l.length l) (hq : W.heap[q]? = some (.cells #[.slice A l.length c] t' mk'))
    (hqk : ¬ ok q) (hc : l.length ≤ c) : ∀ W', Kept W W' ok → Kd.C (Kd.slice 5 (Kd.int .u8)) W' (some ⟨q, 0, none⟩) [l].length [l] := fun W' hk =>
  piece_C ((mk_cell (blk_kept hq hk hqk) 0).trans rfl) hc (hC W' hk)
theorem two_args {W : World} {ok : Nat → Prop} {q c c' t' : Nat} {A A' : Option Addr} {l l' : List Int} {mk' : Nat × Nat} (hC : ∀ W', Kept W W' ok → (Kd.int .u8).C W' A l.length l) (hC' : ∀ W', Kept W W' ok → (Kd.int .u8).C W' A' l'.length l') (hq : W.heap[q]? = some (.cells #[.slice A l.length c, .slice A' l'.length c'] t' mk'))
    (hqk : ¬ ok q) (hc : l.length ≤ c) (hc' : l'.length ≤ c') : ∀ W', Kept W W' ok → Kd.C (Kd.slice 5 (Kd.int .u8)) W' (some ⟨q, 0, none⟩) [l, l'].length [l, l'] := fun W' hk =>
  pieces_C ((mk_cell (blk_kept hq hk hqk) 0).trans rfl) hc (hC W' hk) ((mk_cell (blk_kept hq hk hqk) 1).trans rfl) hc' (hC' W' hk)
theorem new1 (w : World) (o o' : Obj) : ((w.alloc o).alloc o').heap[w.heap.size + 1]? = some o' := by simpa using heap_alloc_new (w.alloc o) o'
theorem new2 (w : World) (o o' o'' : Obj) : (((w.alloc o).alloc o').alloc o'').heap[w.heap.size + 2]? = some o'' := by simpa using heap_alloc_new ((w.alloc o).alloc o') o''
theorem old1 (w : World) (o o' o'' : Obj) : (((w.alloc o).alloc o').alloc o'').heap[w.heap.size + 1]? = some o' := blk_alloc (new1 w o o') o''
theorem ins2 {B : Nat} {w W : World} (h : Below B w W) (hB : B ≤ W.heap.size) (o o' : Obj) : Below B w ((W.alloc o).alloc o') := (h.alloc hB o).alloc (by simp; omega) o'
theorem ins1 {B : Nat} {w W : World} (h : Below B w W) (hB : B ≤ W.heap.size) (o : Obj) : Below B w (W.alloc o) := h.alloc hB o
theorem size2 (w : World) (o o' : Obj) : ((w.alloc o).alloc o').heap.size = w.heap.size + 2 := by simp
theorem size1 (w : World) (o : Obj) : (w.alloc o).heap.size = w.heap.size + 1 := by simp

end Go.Proofs.Ytabiloklphjeiaa.Mem
