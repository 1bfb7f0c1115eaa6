/-
  Steps of a region that draws its order, under a condition that every world of it meets.
-/
import Derived.Test.YtgonodfggiablaaProg
import Derived.OrdersHeld
import Derived.Deep.RegionHeld
import Derived.Below
import Derived.Deep.Draws
import Derived.Deep.AppendLies
import Derived.Maps.AppendAt
import Derived.OwnWalk
import Derived.Laws.BytesArg
import Derived.Laws.MakeOwn
import Derived.Laws.OwnMore
import Derived.Deep.OwnRows
import Derived.Tactics
import Derived.Lib.ConvBytes
import Derived.Laws.Slices
import Derived.WalkKit
import Derived.KernelRfl
import Derived.RowKit3
import Derived.Deep.LoopGhost
import Derived.Deep.QuietTactic
import Derived.BigQuiet
import Derived.WideLaws
import Derived.Deep.DeepCutAuto
import Derived.Deep.CutBlock
import Derived.Deep.RegionHeld3
import Derived.Laws.Rows
import Derived.Lib.AppendStr
import Derived.ArgAppend
import Derived.Laws.IdiomCopy
import Derived.OrdersHeld
import Derived.Laws.BitsLemmas
import Derived.RowKit
import Derived.Lib.SliceRun
import Derived.Test.YtgonodfggiablaaWWords
import Derived.Test.YtgonodfggiablaaWLast
import Derived.Test.YtgonodfggiablaaWTab
import Derived.Test.YtgonodfggiablaaWFour
import Derived.Test.YtgonodfggiablaaWQPut
import Derived.Test.YtgonodfggiablaaWApart
import Derived.Test.YtgonodfggiablaaWArr
import Derived.Test.YtgonodfggiablaaWZeros
import Derived.Test.YtgonodfggiablaaWFoot
import Derived.Test.YtgonodfggiablaaWKept
import Derived.Test.YtgonodfggiablaaWShare
import Derived.Test.YtgonodfggiablaaWN
import Derived.Test.YtgonodfggiablaaWFootNe
import Derived.Test.YtgonodfggiablaaWAt
import Derived.Test.YtgonodfggiablaaWEqStruct
import Derived.Test.YtgonodfggiablaaWRepsOne
import Derived.Test.YtgonodfggiablaaWInv
import Derived.Test.YtgonodfggiablaaWInvWords
import Derived.Test.YtgonodfggiablaaWGuard
import Derived.Test.YtgonodfggiablaaWNEv
import Derived.Test.YtgonodfggiablaaWMore
namespace Go.Proofs.Ytgonodfggiablaa.RegH
open Go.RowKit Go.Proofs.YtgonodfggiablaaW.PrintWords Go.Proofs.YtgonodfggiablaaW.PrintLast Go.Proofs.YtgonodfggiablaaW.PrintMore
set_option linter.unusedVariables false
set_option linter.unusedSimpArgs false
structure Go_ (p : Prop) : Prop where mk :: (out : p)
section
variable {P : Program} {ops : Array Oper} {Q : Exit → Act → World → Prop} {md : Region.Mode} {S : World → Prop}
theorem startH (S : World → Prop) {id n : Nat} {a : Act} {w : World} (hm : P.follows .mixedOrders = true) (hn : ops.size = n) (hS : S w.drew)
    (h : S w.drew → wpAnyH P .any ops Q S n (Array.replicate n false) a w.drew) : (Code.region id ops true).wp P Q a w := by
  subst hn
  exact wp_region_held_drew hm hS h
theorem tkH {i d : Nat} {oi : Oper} {v : Value} {fuel : Nat} {listed : Array Bool} {a : Act} {w : World} (hi : ops[i]? = some oi) (hd : oi.dst = some d)
    (hs : Region.noSelect ops = true) (hf : Region.free md ops listed i = true) (hr : (Region.ready md ops listed).contains i = true)
    (hQ : ∀ c a w, Q (.panic c) (a.put (some d) v) w → Q (.panic c) a w) (hy : YieldsIf P ops S oi v a) (hS : S w)
    (h : wpAnyH P md ops Q S fuel (listed.setIfInBounds i true) (a.put (some d) v) w) : wpAnyH P md ops Q S (fuel + 1) listed a w :=
  wpAnyH_take hi hs hf hr (by rw [hd]; exact hQ) hy hS (by rw [hd]; exact h)
theorem stepH {i : Nat} {o : Oper} {fuel : Nat} {listed : Array Bool} {a : Act} {w : World} (ho : ops[i]? = some o)
    (h : ∀ K' : Act → World → Prop, Go_ (∀ a w, S w → (S w → wpAnyH P md ops Q S fuel (listed.setIfInBounds i true) a w) → K' a w) → if Region.wanted o (yielded ops a.tmps) = true then Oper.wp P o a w K' Q else K' (a.put o.dst undef) w) :
    wpOp P ops Q i (fun a' w' => S w' ∧ wpAnyH P md ops Q S fuel (listed.setIfInBounds i true) a' w') a w :=
  wpOp_step ho (fun K' hK => h K' ⟨fun a w hS hr => hK a w ⟨hS, hr hS⟩⟩)
/-- The one operation that may come up. -/
theorem oneH {i : Nat} {o : Oper} {fuel : Nat} {listed : Array Bool} {a : Act} {w : World} (hr : Region.ready md ops listed = [i]) (ho : ops[i]? = some o)
    (h : ∀ K' : Act → World → Prop, Go_ (∀ a w, S w → (S w → wpAnyH P md ops Q S fuel (listed.setIfInBounds i true) a w) → K' a w) → if Region.wanted o (yielded ops a.tmps) = true then Oper.wp P o a w K' Q else K' (a.put o.dst undef) w) :
    wpAnyH P md ops Q S (fuel + 1) listed a w :=
  wpAnyH_all hr (List.cons_ne_nil _ _) (fun j hj => by rw [List.mem_singleton.1 hj]; exact stepH ho h)
/-- The two operations that may come up. -/
theorem twoH {i j : Nat} {o o' : Oper} {fuel : Nat} {listed : Array Bool} {a : Act} {w : World} (hr : Region.ready md ops listed = [i, j]) (ho : ops[i]? = some o) (ho' : ops[j]? = some o')
    (h : ∀ K' : Act → World → Prop, Go_ (∀ a w, S w → (S w → wpAnyH P md ops Q S fuel (listed.setIfInBounds i true) a w) → K' a w) → if Region.wanted o (yielded ops a.tmps) = true then Oper.wp P o a w K' Q else K' (a.put o.dst undef) w)
    (h' : ∀ K' : Act → World → Prop, Go_ (∀ a w, S w → (S w → wpAnyH P md ops Q S fuel (listed.setIfInBounds j true) a w) → K' a w) → if Region.wanted o' (yielded ops a.tmps) = true then Oper.wp P o' a w K' Q else K' (a.put o'.dst undef) w) :
    wpAnyH P md ops Q S (fuel + 1) listed a w :=
  wpAnyH_all hr (List.cons_ne_nil _ _) (fun k hk => by
    rcases List.mem_cons.1 hk with rfl | hk
    · exact stepH ho h
    · rw [List.mem_singleton.1 hk]; exact stepH ho' h')
end

end Go.Proofs.Ytgonodfggiablaa.RegH
