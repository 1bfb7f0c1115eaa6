/-
  bytes.Clone's walk: of every slice of bytes the call returns a slice of the same bytes, the call's own where there are any; it writes nothing that was there; its conditions are that the slice can be read and has fewer than 2^47 bytes.
-/
import Derived.Test.YtgonodfggiablaaProg
import Derived.Below
import Derived.Deep.Draws
import Derived.Deep.AppendLies
import Derived.Maps.AppendAt
import Derived.OwnWalk
import Derived.Laws.BytesArg
import Derived.Laws.MakeOwn
import Derived.Laws.OwnMore
import Derived.Deep.OwnRows
import Derived.Tactics
import Derived.Lib.ConvBytes
import Derived.Laws.Slices
import Derived.WalkKit
import Derived.KernelRfl
import Derived.RowKit3
import Derived.Deep.LoopGhost
import Derived.Deep.QuietTactic
import Derived.BigQuiet
import Derived.WideLaws
import Derived.Deep.DeepCutAuto
import Derived.Deep.CutBlock
import Derived.Deep.RegionHeld3
import Derived.Laws.Rows
import Derived.Lib.AppendStr
import Derived.ArgAppend
import Derived.Laws.IdiomCopy
import Derived.OrdersHeld
import Derived.Laws.BitsLemmas
import Derived.RowKit
import Derived.Lib.SliceRun
import Derived.Test.YtgonodfggiablaaWWords
import Derived.Test.YtgonodfggiablaaWLast
import Derived.Test.YtgonodfggiablaaWTab
import Derived.Test.YtgonodfggiablaaWFour
import Derived.Test.YtgonodfggiablaaWQPut
import Derived.Test.YtgonodfggiablaaWApart
import Derived.Test.YtgonodfggiablaaWArr
import Derived.Test.YtgonodfggiablaaWZeros
import Derived.Test.YtgonodfggiablaaWFoot
import Derived.Test.YtgonodfggiablaaWKept
import Derived.Test.YtgonodfggiablaaWShare
import Derived.Test.YtgonodfggiablaaWN
import Derived.Test.YtgonodfggiablaaWFootNe
import Derived.Test.YtgonodfggiablaaWAt
import Derived.Test.YtgonodfggiablaaWEqStruct
import Derived.Test.YtgonodfggiablaaWRepsOne
import Derived.Test.YtgonodfggiablaaWInv
import Derived.Test.YtgonodfggiablaaWInvWords
import Derived.Test.YtgonodfggiablaaWGuard
import Derived.Test.YtgonodfggiablaaWNEv
import Derived.Test.YtgonodfggiablaaWMore
namespace Go.Proofs.Ytgonodfggiablaa.Clone
open Go.RowKit Go.Proofs.YtgonodfggiablaaW.PrintWords Go.Proofs.YtgonodfggiablaaW.PrintLast Go.Proofs.YtgonodfggiablaaW.PrintMore
set_option linter.unusedVariables false
set_option linter.unusedSimpArgs false
theorem info5 : (Try.prog.info? 5).map (fun i => (i.zero, i.size, i.bytes)) = some (some (.int .u8 0), 1, 1) := by kernel_rfl

set_option maxHeartbeats 4000000 in
set_option maxRecDepth 100000 in
theorem calls (A0 : Option Addr) (c0 : Nat) (l0 : List Int) (w : World) (hr0 : Kd.C (Kd.int .u8) w A0 l0.length l0) (hc0 : l0.length ≤ c0) (hm : l0.length ≤ 140737488355328) :
    Calls Try.prog 22 #[.slice A0 l0.length c0] w fun e w' => ∃ v0_ : Value, e = .returned (v0_) ∧ Kd.R (Kd.int .u8) 5 w' w.heap.size (fun _ => True) v0_ l0 ∧ Below w.heap.size w w' := by
  cases A0 with
  | none =>
    obtain rfl : l0 = [] := by
      rcases l0 with _ | ⟨x, l⟩
      · rfl
      · obtain ⟨ad, e, _⟩ := Kd.at_int hr0 0 (by omega) (by simp only [List.length_cons]; omega)
        cases e
    clear hr0
    have heq := fun w : World => Lib.run_eql_slice_nil (P := Try.prog) w 24 5 none 0 c0 0 0 Try.underlying24
    go_enter Try.func22, Try.ntmps22
    go_wp2
    go_ret
    exact ⟨_, rfl, Kd.R_nil _ _ _ _ _, by first | exact Below.refl _ _⟩
  | some ad =>
    have HR0 := Aside0.mk hr0
    clear hr0
    have heq := fun w : World => Lib.run_eql_slice_nil (P := Try.prog) w 24 5 (some ad) l0.length c0 0 0 Try.underlying24
    go_enter Try.func22, Try.ntmps22
    go_wp2_with (first
      | ((with_reducible refine gate_dst (N := 5) rfl ?_); refine Kd.R_lit (Kd.int .u8) w.heap.size 5 ?hg (N := 5) ?hd (xs := ([] : List Int)) (inner := []) (ok := fun _ => True) (okp := fun _ => True) ?hr ?hp (fun _ hk => hk) trivial (Below.refl _ _) (Nat.le_refl _) (by simp) ?_; (case hd => rfl); (case hg => rfl); (case hr => first | (go_simp; done) | (go_simp; rfl)); (case hp => exact (Reps.none _ _)); intro v1 w1 ho1 hb1 hg_ hnew_; clear hg_ hnew_; have HO1 := Aside0.mk ho1; have HB1 := Aside0.mk hb1; clear ho1 hb1)
      | ((with_reducible refine gate_builtin (b := .append) (xs := #[.tmp 5, .tmp 6]) rfl ?_); at_builtin; refine Kd.R_append_rows (Kd.int .u8) (w0 := w) w.heap.size rfl (.tmp 5) (.tmp 6) 24 5 (.int .u8 0) 1 rfl Try.underlying24 info5 rfl (by decide) (by omega) v1 [] l0 _ _ _ (fun _ => True) (fun _ => False) rfl rfl ?aO ?aR (fun _ _ h => h) (fun _ h => h.elim) ?aF ?aB ?aS ?aL ?_; (case aR => exact (Kd.C_below HR0.out HB1.out)); (case aB => exact HB1.out); (case aF => exact (fun _ _ => trivial)); (case aO => exact HO1.out); (case aS => exact HB1.out.size); (case aL => simp; omega); intro v2 w2 ho hb hg hat; have HO2 := Aside0.mk ho; have HB2 := Aside0.mk hb; clear ho hb hg hat))
    go_ret
    exact ⟨_, rfl, by simpa using HO2.out, HB2.out⟩

end Go.Proofs.Ytgonodfggiablaa.Clone
