/-
  A region's three pieces and three calls, in whatever order.
-/
import Derived.Test.YtgonodfggiablaaProg
import Derived.Below
import Derived.Deep.Draws
import Derived.Deep.AppendLies
import Derived.Maps.AppendAt
import Derived.OwnWalk
import Derived.Laws.BytesArg
import Derived.Laws.MakeOwn
import Derived.Laws.OwnMore
import Derived.Deep.OwnRows
import Derived.Tactics
import Derived.Lib.ConvBytes
import Derived.Laws.Slices
import Derived.WalkKit
import Derived.KernelRfl
import Derived.RowKit3
import Derived.Deep.LoopGhost
import Derived.Deep.QuietTactic
import Derived.BigQuiet
import Derived.WideLaws
import Derived.Deep.DeepCutAuto
import Derived.Deep.CutBlock
import Derived.Deep.RegionHeld3
import Derived.Laws.Rows
import Derived.Lib.AppendStr
import Derived.ArgAppend
import Derived.Laws.IdiomCopy
import Derived.OrdersHeld
import Derived.Laws.BitsLemmas
import Derived.RowKit
import Derived.Lib.SliceRun
import Derived.Test.YtgonodfggiablaaWWords
import Derived.Test.YtgonodfggiablaaWLast
import Derived.Test.YtgonodfggiablaaWTab
import Derived.Test.YtgonodfggiablaaWFour
import Derived.Test.YtgonodfggiablaaWQPut
import Derived.Test.YtgonodfggiablaaWApart
import Derived.Test.YtgonodfggiablaaWArr
import Derived.Test.YtgonodfggiablaaWZeros
import Derived.Test.YtgonodfggiablaaWFoot
import Derived.Test.YtgonodfggiablaaWKept
import Derived.Test.YtgonodfggiablaaWShare
import Derived.Test.YtgonodfggiablaaWN
import Derived.Test.YtgonodfggiablaaWFootNe
import Derived.Test.YtgonodfggiablaaWAt
import Derived.Test.YtgonodfggiablaaWEqStruct
import Derived.Test.YtgonodfggiablaaWRepsOne
import Derived.Test.YtgonodfggiablaaWInv
import Derived.Test.YtgonodfggiablaaWInvWords
import Derived.Test.YtgonodfggiablaaWGuard
import Derived.Test.YtgonodfggiablaaWNEv
import Derived.Test.YtgonodfggiablaaWMore
namespace Go.Proofs.Ytgonodfggiablaa.RegT
open Go.RowKit Go.Proofs.YtgonodfggiablaaW.PrintWords Go.Proofs.YtgonodfggiablaaW.PrintLast Go.Proofs.YtgonodfggiablaaW.PrintMore
set_option linter.unusedVariables false
set_option linter.unusedSimpArgs false
structure Go_ (p : Prop) : Prop where mk :: (out : p)
/-- The temporaries that three pieces made and three calls over them fill. -/
def fam (a : Act) (v1 v2 v3 v4 v5 v6 : Value) : Act := (((((a.put (some 88) v1).put (some 89) v2).put (some 91) v3).put (some 92) v4).put (some 94) v5).put (some 95) v6
section
variable (a : Act) (v1 v2 v3 v4 v5 v6 v : Value)
theorem put_same (a : Act) (i : Nat) (x y : Value) : (a.put (some i) x).put (some i) y = a.put (some i) y := by simp [Act.put]
theorem put_comm (a : Act) (i j : Nat) (h : i ≠ j) (x y : Value) : (a.put (some i) x).put (some j) y = (a.put (some j) y).put (some i) x := by simp [Act.put, Array.setIfInBounds_comm _ _ h]
theorem fam1 : (fam a v1 v2 v3 v4 v5 v6).put (some 88) v = fam a v v2 v3 v4 v5 v6 := by
  unfold fam
  rw [put_comm _ 95 88 (by decide), put_comm _ 94 88 (by decide), put_comm _ 92 88 (by decide), put_comm _ 91 88 (by decide), put_comm _ 89 88 (by decide), put_same]
theorem fam2 : (fam a v1 v2 v3 v4 v5 v6).put (some 89) v = fam a v1 v v3 v4 v5 v6 := by
  unfold fam
  rw [put_comm _ 95 89 (by decide), put_comm _ 94 89 (by decide), put_comm _ 92 89 (by decide), put_comm _ 91 89 (by decide), put_same]
theorem fam3 : (fam a v1 v2 v3 v4 v5 v6).put (some 91) v = fam a v1 v2 v v4 v5 v6 := by
  unfold fam
  rw [put_comm _ 95 91 (by decide), put_comm _ 94 91 (by decide), put_comm _ 92 91 (by decide), put_same]
theorem fam4 : (fam a v1 v2 v3 v4 v5 v6).put (some 92) v = fam a v1 v2 v3 v v5 v6 := by
  unfold fam
  rw [put_comm _ 95 92 (by decide), put_comm _ 94 92 (by decide), put_same]
theorem fam5 : (fam a v1 v2 v3 v4 v5 v6).put (some 94) v = fam a v1 v2 v3 v4 v v6 := by
  unfold fam
  rw [put_comm _ 95 94 (by decide), put_same]
theorem fam6 : (fam a v1 v2 v3 v4 v5 v6).put (some 95) v = fam a v1 v2 v3 v4 v5 v := by
  unfold fam
  rw [put_same]
end
/-- Which have come up. -/
def LL (a1 c1 a2 c2 a3 c3 : Bool) : Array Bool := #[true, true, true, true, true, true, true, true, true, true, true, true, true, true, true, true, true, true, true, true, true, true, true, true, true, true, true, true, true, true, true, true, true, true, true, true, a1, c1, true, a2, c2, true, a3, c3, false, false, false, false, false, false, false, false, false, false, false, false, false]
section
variable {P : Program} {ops : Array Oper} {Q : Exit → Act → World → Prop} {md : Region.Mode} {S : World → Prop}
theorem stepH {i : Nat} {o : Oper} {fuel : Nat} {listed : Array Bool} {a : Act} {w : World} (ho : ops[i]? = some o)
    (h : ∀ K' : Act → World → Prop, Go_ (∀ a w, S w → (S w → wpAnyH P md ops Q S fuel (listed.setIfInBounds i true) a w) → K' a w) → if Region.wanted o (yielded ops a.tmps) = true then Oper.wp P o a w K' Q else K' (a.put o.dst undef) w) :
    wpOp P ops Q i (fun a' w' => S w' ∧ wpAnyH P md ops Q S fuel (listed.setIfInBounds i true) a' w') a w :=
  wpOp_step ho (fun K' hK => h K' ⟨fun a w hS hr => hK a w ⟨hS, hr hS⟩⟩)
theorem nameA {fuel : Nat} {L L' : Array Bool} {a : Act} {w : World} (hL : L = L') (h : ∀ a0, a0 = a → wpAnyH P md ops Q S fuel L' a0 w) : wpAnyH P md ops Q S fuel L a w := by
  subst hL
  exact h a rfl
/-- What an operation of the six does, whatever the others have done. -/
def Tr (P : Program) (Q : Exit → Act → World → Prop) (S : World → Prop) (ops : Array Oper) (o : Oper) (d : Nat) (a : Act) (C : Value → Value → Value → World → Prop) (G : Value → World → Prop) : Prop :=
  ∀ (v1 v2 v3 v4 v5 v6 : Value) (W : World), S W → C v1 v3 v5 W → ∀ K' : Act → World → Prop,
    Go_ (∀ v W', S W' → Below W.heap.size W W' → G v W' → K' ((fam a v1 v2 v3 v4 v5 v6).put (some d) v) W') →
    if Region.wanted o (yielded ops (fam a v1 v2 v3 v4 v5 v6).tmps) = true then Oper.wp P o (fam a v1 v2 v3 v4 v5 v6) W K' Q else K' ((fam a v1 v2 v3 v4 v5 v6).put o.dst undef) W
theorem three {fuel : Nat} {a0 : Act} {w : World} {o1 o2 o3 o4 o5 o6 : Oper} (A1 A2 A3 : Value → World → Prop) (r1 r2 r3 : Value)
    (st1 : ∀ v W W', A1 v W → Below W.heap.size W W' → A1 v W') (st2 : ∀ v W W', A2 v W → Below W.heap.size W W' → A2 v W') (st3 : ∀ v W W', A3 v W → Below W.heap.size W W' → A3 v W')
    (ho1 : ops[36]? = some o1)
    (ho2 : ops[37]? = some o2)
    (ho3 : ops[39]? = some o3)
    (ho4 : ops[40]? = some o4)
    (ho5 : ops[42]? = some o5)
    (ho6 : ops[43]? = some o6)
    (hr111110 : Region.ready md ops (LL true true true true true false) = [43])
    (hr111010 : Region.ready md ops (LL true true true false true false) = [40])
    (hr111100 : Region.ready md ops (LL true true true true false false) = [42])
    (hr101010 : Region.ready md ops (LL true false true false true false) = [37])
    (hr110010 : Region.ready md ops (LL true true false false true false) = [39])
    (hr111000 : Region.ready md ops (LL true true true false false false) = [40, 42])
    (hr001010 : Region.ready md ops (LL false false true false true false) = [36])
    (hr100010 : Region.ready md ops (LL true false false false true false) = [37, 39])
    (hr101000 : Region.ready md ops (LL true false true false false false) = [37, 42])
    (hr110000 : Region.ready md ops (LL true true false false false false) = [39, 42])
    (hr000010 : Region.ready md ops (LL false false false false true false) = [36, 39])
    (hr001000 : Region.ready md ops (LL false false true false false false) = [36, 42])
    (hr100000 : Region.ready md ops (LL true false false false false false) = [37, 39, 42])
    (hr000000 : Region.ready md ops (LL false false false false false false) = [36, 39, 42])
    (hinit : a0 = fam a0 undef undef undef undef undef undef)
    (t1 : Tr P Q S ops o1 88 a0 (fun _ _ _ _ => True) A1)
    (t2 : Tr P Q S ops o2 89 a0 (fun v _ _ W => A1 v W) (fun v _ => v = r1))
    (t3 : Tr P Q S ops o3 91 a0 (fun _ _ _ _ => True) A2)
    (t4 : Tr P Q S ops o4 92 a0 (fun _ v _ W => A2 v W) (fun v _ => v = r2))
    (t5 : Tr P Q S ops o5 94 a0 (fun _ _ _ _ => True) A3)
    (t6 : Tr P Q S ops o6 95 a0 (fun _ _ v W => A3 v W) (fun v _ => v = r3))
    (tail : ∀ v1 v3 v5 W, S W → wpAnyH P md ops Q S fuel (LL true true true true true true) (fam a0 v1 r1 v3 r2 v5 r3) W)
    (hS : S w) : wpAnyH P md ops Q S (fuel + 6) (LL false false false false false false) a0 w := by
  have g111111 : ∀ v1 v2 v3 v4 v5 v6 W, S W → A1 v1 W → A2 v3 W → A3 v5 W → v2 = r1 → v4 = r2 → v6 = r3 → wpAnyH P md ops Q S (fuel + 0) (LL true true true true true true) (fam a0 v1 v2 v3 v4 v5 v6) W := by
    intro v1 v2 v3 v4 v5 v6 W hS hA1 hA2 hA3 hC1 hC2 hC3
    subst hC1 hC2 hC3
    exact tail v1 v3 v5 W hS
  have g111110 : ∀ v1 v2 v3 v4 v5 v6 W, S W → A1 v1 W → A2 v3 W → A3 v5 W → v2 = r1 → v4 = r2 → wpAnyH P md ops Q S (fuel + 1) (LL true true true true true false) (fam a0 v1 v2 v3 v4 v5 v6) W := by
    intro v1 v2 v3 v4 v5 v6 W hS hA1 hA2 hA3 hC1 hC2
    refine wpAnyH_all hr111110 (List.cons_ne_nil _ _) (fun i hi => ?_)
    simp only [List.mem_cons, List.not_mem_nil, or_false] at hi
    subst hi
    refine stepH ho6 (fun K' hK => t6 v1 v2 v3 v4 v5 v6 W hS hA3 K' ⟨fun v W' hS' hb hG => hK.out _ _ hS' (fun _ => ?_)⟩)
    rw [fam6]
    exact g111111 v1 v2 v3 v4 v5 v W' hS' (st1 _ _ _ hA1 hb) (st2 _ _ _ hA2 hb) (st3 _ _ _ hA3 hb) hC1 hC2 hG
  have g111010 : ∀ v1 v2 v3 v4 v5 v6 W, S W → A1 v1 W → A2 v3 W → A3 v5 W → v2 = r1 → wpAnyH P md ops Q S (fuel + 2) (LL true true true false true false) (fam a0 v1 v2 v3 v4 v5 v6) W := by
    intro v1 v2 v3 v4 v5 v6 W hS hA1 hA2 hA3 hC1
    refine wpAnyH_all hr111010 (List.cons_ne_nil _ _) (fun i hi => ?_)
    simp only [List.mem_cons, List.not_mem_nil, or_false] at hi
    subst hi
    refine stepH ho4 (fun K' hK => t4 v1 v2 v3 v4 v5 v6 W hS hA2 K' ⟨fun v W' hS' hb hG => hK.out _ _ hS' (fun _ => ?_)⟩)
    rw [fam4]
    exact g111110 v1 v2 v3 v v5 v6 W' hS' (st1 _ _ _ hA1 hb) (st2 _ _ _ hA2 hb) (st3 _ _ _ hA3 hb) hC1 hG
  have g111100 : ∀ v1 v2 v3 v4 v5 v6 W, S W → A1 v1 W → A2 v3 W → v2 = r1 → v4 = r2 → wpAnyH P md ops Q S (fuel + 2) (LL true true true true false false) (fam a0 v1 v2 v3 v4 v5 v6) W := by
    intro v1 v2 v3 v4 v5 v6 W hS hA1 hA2 hC1 hC2
    refine wpAnyH_all hr111100 (List.cons_ne_nil _ _) (fun i hi => ?_)
    simp only [List.mem_cons, List.not_mem_nil, or_false] at hi
    subst hi
    refine stepH ho5 (fun K' hK => t5 v1 v2 v3 v4 v5 v6 W hS trivial K' ⟨fun v W' hS' hb hG => hK.out _ _ hS' (fun _ => ?_)⟩)
    rw [fam5]
    exact g111110 v1 v2 v3 v4 v v6 W' hS' (st1 _ _ _ hA1 hb) (st2 _ _ _ hA2 hb) hG hC1 hC2
  have g101010 : ∀ v1 v2 v3 v4 v5 v6 W, S W → A1 v1 W → A2 v3 W → A3 v5 W → wpAnyH P md ops Q S (fuel + 3) (LL true false true false true false) (fam a0 v1 v2 v3 v4 v5 v6) W := by
    intro v1 v2 v3 v4 v5 v6 W hS hA1 hA2 hA3
    refine wpAnyH_all hr101010 (List.cons_ne_nil _ _) (fun i hi => ?_)
    simp only [List.mem_cons, List.not_mem_nil, or_false] at hi
    subst hi
    refine stepH ho2 (fun K' hK => t2 v1 v2 v3 v4 v5 v6 W hS hA1 K' ⟨fun v W' hS' hb hG => hK.out _ _ hS' (fun _ => ?_)⟩)
    rw [fam2]
    exact g111010 v1 v v3 v4 v5 v6 W' hS' (st1 _ _ _ hA1 hb) (st2 _ _ _ hA2 hb) (st3 _ _ _ hA3 hb) hG
  have g110010 : ∀ v1 v2 v3 v4 v5 v6 W, S W → A1 v1 W → A3 v5 W → v2 = r1 → wpAnyH P md ops Q S (fuel + 3) (LL true true false false true false) (fam a0 v1 v2 v3 v4 v5 v6) W := by
    intro v1 v2 v3 v4 v5 v6 W hS hA1 hA3 hC1
    refine wpAnyH_all hr110010 (List.cons_ne_nil _ _) (fun i hi => ?_)
    simp only [List.mem_cons, List.not_mem_nil, or_false] at hi
    subst hi
    refine stepH ho3 (fun K' hK => t3 v1 v2 v3 v4 v5 v6 W hS trivial K' ⟨fun v W' hS' hb hG => hK.out _ _ hS' (fun _ => ?_)⟩)
    rw [fam3]
    exact g111010 v1 v2 v v4 v5 v6 W' hS' (st1 _ _ _ hA1 hb) hG (st3 _ _ _ hA3 hb) hC1
  have g111000 : ∀ v1 v2 v3 v4 v5 v6 W, S W → A1 v1 W → A2 v3 W → v2 = r1 → wpAnyH P md ops Q S (fuel + 3) (LL true true true false false false) (fam a0 v1 v2 v3 v4 v5 v6) W := by
    intro v1 v2 v3 v4 v5 v6 W hS hA1 hA2 hC1
    refine wpAnyH_all hr111000 (List.cons_ne_nil _ _) (fun i hi => ?_)
    simp only [List.mem_cons, List.not_mem_nil, or_false] at hi
    rcases hi with rfl | rfl
    · refine stepH ho4 (fun K' hK => t4 v1 v2 v3 v4 v5 v6 W hS hA2 K' ⟨fun v W' hS' hb hG => hK.out _ _ hS' (fun _ => ?_)⟩)
      rw [fam4]
      exact g111100 v1 v2 v3 v v5 v6 W' hS' (st1 _ _ _ hA1 hb) (st2 _ _ _ hA2 hb) hC1 hG
    · refine stepH ho5 (fun K' hK => t5 v1 v2 v3 v4 v5 v6 W hS trivial K' ⟨fun v W' hS' hb hG => hK.out _ _ hS' (fun _ => ?_)⟩)
      rw [fam5]
      exact g111010 v1 v2 v3 v4 v v6 W' hS' (st1 _ _ _ hA1 hb) (st2 _ _ _ hA2 hb) hG hC1
  have g001010 : ∀ v1 v2 v3 v4 v5 v6 W, S W → A2 v3 W → A3 v5 W → wpAnyH P md ops Q S (fuel + 4) (LL false false true false true false) (fam a0 v1 v2 v3 v4 v5 v6) W := by
    intro v1 v2 v3 v4 v5 v6 W hS hA2 hA3
    refine wpAnyH_all hr001010 (List.cons_ne_nil _ _) (fun i hi => ?_)
    simp only [List.mem_cons, List.not_mem_nil, or_false] at hi
    subst hi
    refine stepH ho1 (fun K' hK => t1 v1 v2 v3 v4 v5 v6 W hS trivial K' ⟨fun v W' hS' hb hG => hK.out _ _ hS' (fun _ => ?_)⟩)
    rw [fam1]
    exact g101010 v v2 v3 v4 v5 v6 W' hS' hG (st2 _ _ _ hA2 hb) (st3 _ _ _ hA3 hb)
  have g100010 : ∀ v1 v2 v3 v4 v5 v6 W, S W → A1 v1 W → A3 v5 W → wpAnyH P md ops Q S (fuel + 4) (LL true false false false true false) (fam a0 v1 v2 v3 v4 v5 v6) W := by
    intro v1 v2 v3 v4 v5 v6 W hS hA1 hA3
    refine wpAnyH_all hr100010 (List.cons_ne_nil _ _) (fun i hi => ?_)
    simp only [List.mem_cons, List.not_mem_nil, or_false] at hi
    rcases hi with rfl | rfl
    · refine stepH ho2 (fun K' hK => t2 v1 v2 v3 v4 v5 v6 W hS hA1 K' ⟨fun v W' hS' hb hG => hK.out _ _ hS' (fun _ => ?_)⟩)
      rw [fam2]
      exact g110010 v1 v v3 v4 v5 v6 W' hS' (st1 _ _ _ hA1 hb) (st3 _ _ _ hA3 hb) hG
    · refine stepH ho3 (fun K' hK => t3 v1 v2 v3 v4 v5 v6 W hS trivial K' ⟨fun v W' hS' hb hG => hK.out _ _ hS' (fun _ => ?_)⟩)
      rw [fam3]
      exact g101010 v1 v2 v v4 v5 v6 W' hS' (st1 _ _ _ hA1 hb) hG (st3 _ _ _ hA3 hb)
  have g101000 : ∀ v1 v2 v3 v4 v5 v6 W, S W → A1 v1 W → A2 v3 W → wpAnyH P md ops Q S (fuel + 4) (LL true false true false false false) (fam a0 v1 v2 v3 v4 v5 v6) W := by
    intro v1 v2 v3 v4 v5 v6 W hS hA1 hA2
    refine wpAnyH_all hr101000 (List.cons_ne_nil _ _) (fun i hi => ?_)
    simp only [List.mem_cons, List.not_mem_nil, or_false] at hi
    rcases hi with rfl | rfl
    · refine stepH ho2 (fun K' hK => t2 v1 v2 v3 v4 v5 v6 W hS hA1 K' ⟨fun v W' hS' hb hG => hK.out _ _ hS' (fun _ => ?_)⟩)
      rw [fam2]
      exact g111000 v1 v v3 v4 v5 v6 W' hS' (st1 _ _ _ hA1 hb) (st2 _ _ _ hA2 hb) hG
    · refine stepH ho5 (fun K' hK => t5 v1 v2 v3 v4 v5 v6 W hS trivial K' ⟨fun v W' hS' hb hG => hK.out _ _ hS' (fun _ => ?_)⟩)
      rw [fam5]
      exact g101010 v1 v2 v3 v4 v v6 W' hS' (st1 _ _ _ hA1 hb) (st2 _ _ _ hA2 hb) hG
  have g110000 : ∀ v1 v2 v3 v4 v5 v6 W, S W → A1 v1 W → v2 = r1 → wpAnyH P md ops Q S (fuel + 4) (LL true true false false false false) (fam a0 v1 v2 v3 v4 v5 v6) W := by
    intro v1 v2 v3 v4 v5 v6 W hS hA1 hC1
    refine wpAnyH_all hr110000 (List.cons_ne_nil _ _) (fun i hi => ?_)
    simp only [List.mem_cons, List.not_mem_nil, or_false] at hi
    rcases hi with rfl | rfl
    · refine stepH ho3 (fun K' hK => t3 v1 v2 v3 v4 v5 v6 W hS trivial K' ⟨fun v W' hS' hb hG => hK.out _ _ hS' (fun _ => ?_)⟩)
      rw [fam3]
      exact g111000 v1 v2 v v4 v5 v6 W' hS' (st1 _ _ _ hA1 hb) hG hC1
    · refine stepH ho5 (fun K' hK => t5 v1 v2 v3 v4 v5 v6 W hS trivial K' ⟨fun v W' hS' hb hG => hK.out _ _ hS' (fun _ => ?_)⟩)
      rw [fam5]
      exact g110010 v1 v2 v3 v4 v v6 W' hS' (st1 _ _ _ hA1 hb) hG hC1
  have g000010 : ∀ v1 v2 v3 v4 v5 v6 W, S W → A3 v5 W → wpAnyH P md ops Q S (fuel + 5) (LL false false false false true false) (fam a0 v1 v2 v3 v4 v5 v6) W := by
    intro v1 v2 v3 v4 v5 v6 W hS hA3
    refine wpAnyH_all hr000010 (List.cons_ne_nil _ _) (fun i hi => ?_)
    simp only [List.mem_cons, List.not_mem_nil, or_false] at hi
    rcases hi with rfl | rfl
    · refine stepH ho1 (fun K' hK => t1 v1 v2 v3 v4 v5 v6 W hS trivial K' ⟨fun v W' hS' hb hG => hK.out _ _ hS' (fun _ => ?_)⟩)
      rw [fam1]
      exact g100010 v v2 v3 v4 v5 v6 W' hS' hG (st3 _ _ _ hA3 hb)
    · refine stepH ho3 (fun K' hK => t3 v1 v2 v3 v4 v5 v6 W hS trivial K' ⟨fun v W' hS' hb hG => hK.out _ _ hS' (fun _ => ?_)⟩)
      rw [fam3]
      exact g001010 v1 v2 v v4 v5 v6 W' hS' hG (st3 _ _ _ hA3 hb)
  have g001000 : ∀ v1 v2 v3 v4 v5 v6 W, S W → A2 v3 W → wpAnyH P md ops Q S (fuel + 5) (LL false false true false false false) (fam a0 v1 v2 v3 v4 v5 v6) W := by
    intro v1 v2 v3 v4 v5 v6 W hS hA2
    refine wpAnyH_all hr001000 (List.cons_ne_nil _ _) (fun i hi => ?_)
    simp only [List.mem_cons, List.not_mem_nil, or_false] at hi
    rcases hi with rfl | rfl
    · refine stepH ho1 (fun K' hK => t1 v1 v2 v3 v4 v5 v6 W hS trivial K' ⟨fun v W' hS' hb hG => hK.out _ _ hS' (fun _ => ?_)⟩)
      rw [fam1]
      exact g101000 v v2 v3 v4 v5 v6 W' hS' hG (st2 _ _ _ hA2 hb)
    · refine stepH ho5 (fun K' hK => t5 v1 v2 v3 v4 v5 v6 W hS trivial K' ⟨fun v W' hS' hb hG => hK.out _ _ hS' (fun _ => ?_)⟩)
      rw [fam5]
      exact g001010 v1 v2 v3 v4 v v6 W' hS' (st2 _ _ _ hA2 hb) hG
  have g100000 : ∀ v1 v2 v3 v4 v5 v6 W, S W → A1 v1 W → wpAnyH P md ops Q S (fuel + 5) (LL true false false false false false) (fam a0 v1 v2 v3 v4 v5 v6) W := by
    intro v1 v2 v3 v4 v5 v6 W hS hA1
    refine wpAnyH_all hr100000 (List.cons_ne_nil _ _) (fun i hi => ?_)
    simp only [List.mem_cons, List.not_mem_nil, or_false] at hi
    rcases hi with rfl | rfl | rfl
    · refine stepH ho2 (fun K' hK => t2 v1 v2 v3 v4 v5 v6 W hS hA1 K' ⟨fun v W' hS' hb hG => hK.out _ _ hS' (fun _ => ?_)⟩)
      rw [fam2]
      exact g110000 v1 v v3 v4 v5 v6 W' hS' (st1 _ _ _ hA1 hb) hG
    · refine stepH ho3 (fun K' hK => t3 v1 v2 v3 v4 v5 v6 W hS trivial K' ⟨fun v W' hS' hb hG => hK.out _ _ hS' (fun _ => ?_)⟩)
      rw [fam3]
      exact g101000 v1 v2 v v4 v5 v6 W' hS' (st1 _ _ _ hA1 hb) hG
    · refine stepH ho5 (fun K' hK => t5 v1 v2 v3 v4 v5 v6 W hS trivial K' ⟨fun v W' hS' hb hG => hK.out _ _ hS' (fun _ => ?_)⟩)
      rw [fam5]
      exact g100010 v1 v2 v3 v4 v v6 W' hS' (st1 _ _ _ hA1 hb) hG
  have g000000 : ∀ v1 v2 v3 v4 v5 v6 W, S W → wpAnyH P md ops Q S (fuel + 6) (LL false false false false false false) (fam a0 v1 v2 v3 v4 v5 v6) W := by
    intro v1 v2 v3 v4 v5 v6 W hS
    refine wpAnyH_all hr000000 (List.cons_ne_nil _ _) (fun i hi => ?_)
    simp only [List.mem_cons, List.not_mem_nil, or_false] at hi
    rcases hi with rfl | rfl | rfl
    · refine stepH ho1 (fun K' hK => t1 v1 v2 v3 v4 v5 v6 W hS trivial K' ⟨fun v W' hS' hb hG => hK.out _ _ hS' (fun _ => ?_)⟩)
      rw [fam1]
      exact g100000 v v2 v3 v4 v5 v6 W' hS' hG
    · refine stepH ho3 (fun K' hK => t3 v1 v2 v3 v4 v5 v6 W hS trivial K' ⟨fun v W' hS' hb hG => hK.out _ _ hS' (fun _ => ?_)⟩)
      rw [fam3]
      exact g001000 v1 v2 v v4 v5 v6 W' hS' hG
    · refine stepH ho5 (fun K' hK => t5 v1 v2 v3 v4 v5 v6 W hS trivial K' ⟨fun v W' hS' hb hG => hK.out _ _ hS' (fun _ => ?_)⟩)
      rw [fam5]
      exact g000010 v1 v2 v3 v4 v v6 W' hS' hG
  rw [hinit]
  exact g000000 undef undef undef undef undef undef w hS
end

end Go.Proofs.Ytgonodfggiablaa.RegT
