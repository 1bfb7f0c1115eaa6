/-
  Maps of the arena: a map of numbers by numbers, a set of numbers as a map to true: look-up, store, delete, length.
-/
import Derived.Test.YtlmeeafppigphaaProg
import Derived.Maps.Own
import Derived.Maps.OwnOps
import Derived.Maps.OwnSet
import Derived.Maps.Views
import Derived.Below
import Derived.Deep.Draws
import Derived.Deep.AppendLies
import Derived.Maps.AppendAt
import Derived.OwnWalk
import Derived.Laws.BytesArg
import Derived.Laws.MakeOwn
import Derived.Laws.OwnMore
import Derived.Deep.OwnRows
import Derived.Tactics
import Derived.Lib.ConvBytes
import Derived.Laws.Slices
import Derived.WalkKit
import Derived.KernelRfl
import Derived.RowKit3
import Derived.Deep.LoopGhost
import Derived.Deep.QuietTactic
import Derived.BigQuiet
import Derived.WideLaws
import Derived.Deep.DeepCutAuto
import Derived.Deep.CutBlock
import Derived.Deep.RegionHeld3
import Derived.Laws.Rows
import Derived.Lib.AppendStr
import Derived.ArgAppend
import Derived.Laws.IdiomCopy
import Derived.OrdersHeld
import Derived.Laws.BitsLemmas
import Derived.RowKit
import Derived.Lib.SliceRun
import Derived.Test.YtlmeeafppigphaaWWords
import Derived.Test.YtlmeeafppigphaaWLast
import Derived.Test.YtlmeeafppigphaaWTab
import Derived.Test.YtlmeeafppigphaaWFour
import Derived.Test.YtlmeeafppigphaaWQPut
import Derived.Test.YtlmeeafppigphaaWApart
import Derived.Test.YtlmeeafppigphaaWArr
import Derived.Test.YtlmeeafppigphaaWZeros
import Derived.Test.YtlmeeafppigphaaWFoot
import Derived.Test.YtlmeeafppigphaaWKept
import Derived.Test.YtlmeeafppigphaaWShare
import Derived.Test.YtlmeeafppigphaaWN
import Derived.Test.YtlmeeafppigphaaWFootNe
import Derived.Test.YtlmeeafppigphaaWAt
import Derived.Test.YtlmeeafppigphaaWEqStruct
import Derived.Test.YtlmeeafppigphaaWRepsOne
import Derived.Test.YtlmeeafppigphaaWInv
import Derived.Test.YtlmeeafppigphaaWInvWords
import Derived.Test.YtlmeeafppigphaaWGuard
import Derived.Test.YtlmeeafppigphaaWNEv
import Derived.Test.YtlmeeafppigphaaWMore
namespace Go.Proofs.Ytlmeeafppigphaa.AMap
open Go.RowKit Go.Proofs.YtlmeeafppigphaaW.PrintWords Go.Proofs.YtlmeeafppigphaaW.PrintLast Go.Proofs.YtlmeeafppigphaaW.PrintMore
set_option linter.unusedVariables false
set_option linter.unusedSimpArgs false
open Go.Maps
theorem law : Keyed Try.prog 3 := int_keyed Try.underlying3
theorem zeroI (w : World) : (zeroValue 3).run Try.prog w = .ok (.int .i64 0) w := by kernel_rfl
theorem zeroB (w : World) : (zeroValue 4).run Try.prog w = .ok (.bool false) w := by kernel_rfl
abbrev k64 (k : Int) : Lit := .int .i64 k
def Wf (k : Int) : Prop := (Lit.int .i64 k).wf = true
theorem wf_of {k : Int} (h0 : -9223372036854775808 ≤ k) (h1 : k ≤ 9223372036854775807) : Wf k := WalkArith.wf_i64 (by omega)
theorem key {k : Int} (h : Wf k) : keyOf Try.prog 3 (.int .i64 k) = some (k64 k) := keyOf_int_mk Try.underlying3 h
theorem key_lit (k : Int) : WideAt.IsKeyLit (k64 k) := by trivial

/-- Block b is a map of numbers by numbers: what each key has (0: nothing). -/
def GM (W : World) (b n : Nat) (f : Int → Int) : Prop :=
  ∃ D : DataW Unit, W.ownsMap Try.prog 3 (plainElem Try.prog 3) b n D ∧ ∀ k, Wf k → D.atKey (k64 k) (.lit (.int .i64 0)) = .lit (.int .i64 (f k))
/-- Block b is a set of numbers as a map to true; how many there are. -/
def TM (W : World) (b : Nat) (t : Int → Bool) (c : Nat) : Prop :=
  ∃ D : DataW Unit, W.ownsMap Try.prog 3 (plainElem Try.prog 4) b c D ∧ Maps.size D = c ∧ ∀ k, Wf k → D.atKey (k64 k) (.lit (.bool false)) = .lit (.bool (t k)) ∧ Maps.has D (k64 k) = t k
def up {α : Type} (f : Int → α) (k : Int) (v : α) : Int → α := fun j => if j = k then v else f j
theorem up_same {α : Type} (f : Int → α) (k : Int) (v : α) : up f k v k = v := by simp [up]
theorem up_other {α : Type} (f : Int → α) {k j : Int} (v : α) (h : j ≠ k) : up f k v j = f j := by simp [up, h]

theorem ownsMap_tight {P : Program} {k : TypeId} {R : Value → Option (DataW Unit × List MemPlace)} {w : World} {b n : Nat} {D : DataW Unit} (h : w.ownsMap P k R b n D) : w.ownsMap P k R b (Maps.size D) D := by
  obtain ⟨es, clock, hb, F, hs, rfl⟩ := h
  exact ⟨es, clock, hb, F, by rw [Maps.size_eq, length_read]; exact Nat.le_refl _, rfl⟩

section
variable {W W' : World} {b n c : Nat} {f : Int → Int} {t : Int → Bool}
theorem ownsMap_at {P : Program} {k : TypeId} {R : Value → Option (DataW Unit × List MemPlace)} {D : DataW Unit} (h : W.ownsMap P k R b n D) (hm : W'.heap[b]? = W.heap[b]?) : W'.ownsMap P k R b n D := by
  obtain ⟨es, clock, hb, F, hs, hD⟩ := h
  exact ⟨es, clock, hm.trans hb, F, hs, hD⟩
theorem GM.at (h : GM W b n f) (hm : W'.heap[b]? = W.heap[b]?) : GM W' b n f := by
  obtain ⟨D, h1, h2⟩ := h
  exact ⟨D, ownsMap_at h1 hm, h2⟩
theorem TM.at (h : TM W b t c) (hm : W'.heap[b]? = W.heap[b]?) : TM W' b t c := by
  obtain ⟨D, h1, h2⟩ := h
  exact ⟨D, ownsMap_at h1 hm, h2⟩
theorem GM.lt (h : GM W b n f) : b < W.heap.size := by
  obtain ⟨D, h1, _⟩ := h
  exact h1.lt
theorem TM.lt (h : TM W b t c) : b < W.heap.size := by
  obtain ⟨D, h1, _⟩ := h
  exact h1.lt
theorem GM.made (w : World) : GM (w.alloc (.map #[] 0)) w.heap.size 0 (fun _ => 0) :=
  ⟨.map [], World.ownsMap_made w _ _ _, fun k _ => rfl⟩
theorem TM.made (w : World) : TM (w.alloc (.map #[] 0)) w.heap.size (fun _ => false) 0 :=
  ⟨.map [], World.ownsMap_made w _ _ _, rfl, fun k _ => ⟨rfl, rfl⟩⟩
theorem GM.look (h : GM W b n f) {k : Int} (hk : Wf k) : (Instr.lookup 55 (.map (some b)) (.int .i64 k) false).run Try.prog W = .ok (.int .i64 (f k)) W := by
  obtain ⟨D, h1, h2⟩ := h
  obtain ⟨c, hrun, hat, _⟩ := h1.lookup_int law Try.underlying55 Try.underlying3 (zeroI W) (key hk)
  rw [h2 k hk] at hat
  injection hat with hat
  injection hat with _ hat
  rw [hrun, hat]
theorem GM.wf (h : GM W b n f) {k : Int} (hk : Wf k) : Wf (f k) := by
  obtain ⟨D, h1, h2⟩ := h
  obtain ⟨c, hrun, hat, hw⟩ := h1.lookup_int law Try.underlying55 Try.underlying3 (zeroI W) (key hk)
  rw [h2 k hk] at hat
  injection hat with hat
  injection hat with _ hat
  rw [hat]; exact hw
theorem TM.look (h : TM W b t c) {k : Int} (hk : Wf k) : (Instr.lookup 40 (.map (some b)) (.int .i64 k) false).run Try.prog W = .ok (.bool (t k)) W := by
  obtain ⟨D, h1, _, h2⟩ := h
  obtain ⟨v, ps, hrun, hv⟩ := h1.lookup law Try.underlying40 (zeroB W) (plainElem_bool Try.underlying4 false) (key hk)
  rw [(h2 k hk).1] at hv
  have : v = .bool (t k) := by
    unfold plainElem at hv
    rw [Try.underlying4] at hv
    cases v <;> simp at hv
    rw [hv.1]
  rw [hrun, this]
theorem TM.len (h : TM W b t c) (ty : TypeId) : (Builtin.len_ #[40] ty #[.map (some b)]).run Try.prog W = .ok (.int .i64 (c : Nat)) W := by
  obtain ⟨D, h1, h3, h2⟩ := h
  rw [← h3]; exact h1.len Try.underlying40 ty
theorem GM.put (h : GM W b n f) (hn : n < 1000000000) {k v : Int} (hk : Wf k) (hv : Wf v) : ∃ w', (Instr.mapUpdate 55 (.map (some b)) (.int .i64 k) (.int .i64 v)).run Try.prog W = .ok () w' ∧ GM w' b (n + 1) (up f k v) ∧ W.grownBy w' (some b) := by
  obtain ⟨D, h1, h2⟩ := h
  obtain ⟨w', hr, hm, hg⟩ := h1.update law Try.underlying55 (by unfold maxLen; omega) (key hk) (plainElem_int Try.underlying3 hv)
  refine ⟨w', hr, ⟨_, hm, fun j hj => ?_⟩, hg⟩
  by_cases e : j = k
  · subst e; rw [up_same, atKey_put_same h1.isMap (key_lit j)]
  · rw [up_other _ _ e, atKey_put_other (fun e2 => e (by injection e2)), h2 j hj]
theorem TM.put (h : TM W b t c) (hn : c < 1000000000) {k : Int} (hk : Wf k) : ∃ w', (Instr.mapUpdate 40 (.map (some b)) (.int .i64 k) (.bool true)).run Try.prog W = .ok () w' ∧ TM w' b (up t k true) (if t k then c else c + 1) ∧ W.grownBy w' (some b) := by
  obtain ⟨D, h1, h3, h2⟩ := h
  obtain ⟨w', hr, hm, hg⟩ := h1.update law Try.underlying40 (by unfold maxLen; omega) (key hk) (plainElem_bool Try.underlying4 true)
  have hsz : Maps.size (D.put (k64 k) (.lit (.bool true))) = if t k then c else c + 1 := by
    rw [size_put (h1.tidy law), (h2 k hk).2, h3]
  refine ⟨w', hr, ⟨_, by rw [← hsz]; exact ownsMap_tight hm, hsz, fun j hj => ?_⟩, hg⟩
  by_cases e : j = k
  · subst e; rw [up_same, atKey_put_same h1.isMap (key_lit j), has_put_same h1.isMap (key_lit j)]; exact ⟨rfl, rfl⟩
  · rw [up_other _ _ e, atKey_put_other (fun e2 => e (by injection e2)), has_put_other (fun e2 => e (by injection e2))]; exact h2 j hj
theorem TM.del (h : TM W b t c) {k : Int} (hk : Wf k) (ty : TypeId) : ∃ w', (Builtin.delete_ #[40, 3] ty #[.map (some b), .int .i64 k]).run Try.prog W = .ok (.tuple #[]) w' ∧ TM w' b (up t k false) (if t k then c - 1 else c) ∧ W.grownBy w' (some b) := by
  obtain ⟨D, h1, h3, h2⟩ := h
  obtain ⟨w', hr, hm, hg⟩ := h1.drop law Try.underlying40 (key hk) ty
  have hsz : Maps.size (D.del (k64 k)) = if t k then c - 1 else c := by
    have := size_del (k := k64 k) (h1.tidy law)
    rw [(h2 k hk).2, h3] at this
    split at this <;> simp_all <;> omega
  refine ⟨w', hr, ⟨_, by rw [← hsz]; exact ownsMap_tight hm, hsz, fun j hj => ?_⟩, hg.grown⟩
  by_cases e : j = k
  · subst e; rw [up_same, atKey_del_same, has_del_same]; exact ⟨rfl, rfl⟩
  · rw [up_other _ _ e, atKey_del_other (fun e2 => e (by injection e2)), has_del_other (fun e2 => e (by injection e2))]; exact h2 j hj
end

end Go.Proofs.Ytlmeeafppigphaa.AMap
