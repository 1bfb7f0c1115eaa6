/-
  The reference's arena: its state and contracts.
-/
import Derived.Test.YtlmeeafppigphaaProg
import Derived.Test.YtlmeeafppigphaaAMap
import Derived.Test.YtlmeeafppigphaaArena
import Derived.Test.YtlmeeafppigphaaAFree
import Derived.Test.YtlmeeafppigphaaAFree2
import Derived.Test.YtlmeeafppigphaaRegH
import Derived.Test.YtlmeeafppigphaaAPlain
import Derived.Test.YtlmeeafppigphaaAMany
import Derived.Test.YtlmeeafppigphaaAMany2
import Derived.Test.YtlmeeafppigphaaPArenaActsx0
import Derived.Test.YtlmeeafppigphaaPArenaActsx2
import Derived.Below
import Derived.Deep.Draws
import Derived.Deep.AppendLies
import Derived.Maps.AppendAt
import Derived.OwnWalk
import Derived.Laws.BytesArg
import Derived.Laws.MakeOwn
import Derived.Laws.OwnMore
import Derived.Deep.OwnRows
import Derived.Tactics
import Derived.Lib.ConvBytes
import Derived.Laws.Slices
import Derived.WalkKit
import Derived.KernelRfl
import Derived.RowKit3
import Derived.Deep.LoopGhost
import Derived.Deep.QuietTactic
import Derived.BigQuiet
import Derived.WideLaws
import Derived.Deep.DeepCutAuto
import Derived.Deep.CutBlock
import Derived.Deep.RegionHeld3
import Derived.Laws.Rows
import Derived.Lib.AppendStr
import Derived.ArgAppend
import Derived.Laws.IdiomCopy
import Derived.OrdersHeld
import Derived.Laws.BitsLemmas
import Derived.RowKit
import Derived.Lib.SliceRun
import Derived.Test.YtlmeeafppigphaaWWords
import Derived.Test.YtlmeeafppigphaaWLast
import Derived.Test.YtlmeeafppigphaaWTab
import Derived.Test.YtlmeeafppigphaaWFour
import Derived.Test.YtlmeeafppigphaaWQPut
import Derived.Test.YtlmeeafppigphaaWApart
import Derived.Test.YtlmeeafppigphaaWArr
import Derived.Test.YtlmeeafppigphaaWZeros
import Derived.Test.YtlmeeafppigphaaWFoot
import Derived.Test.YtlmeeafppigphaaWKept
import Derived.Test.YtlmeeafppigphaaWShare
import Derived.Test.YtlmeeafppigphaaWN
import Derived.Test.YtlmeeafppigphaaWFootNe
import Derived.Test.YtlmeeafppigphaaWAt
import Derived.Test.YtlmeeafppigphaaWEqStruct
import Derived.Test.YtlmeeafppigphaaWRepsOne
import Derived.Test.YtlmeeafppigphaaWInv
import Derived.Test.YtlmeeafppigphaaWInvWords
import Derived.Test.YtlmeeafppigphaaWGuard
import Derived.Test.YtlmeeafppigphaaWNEv
import Derived.Test.YtlmeeafppigphaaWMore
namespace Go.Proofs.Ytlmeeafppigphaa.ARef1
open Go.RowKit Go.Proofs.YtlmeeafppigphaaW.PrintWords Go.Proofs.YtlmeeafppigphaaW.PrintLast Go.Proofs.YtlmeeafppigphaaW.PrintMore
set_option linter.unusedVariables false
set_option linter.unusedSimpArgs false
open Go.Proofs.Ytlmeeafppigphaa.AMap (Wf)
open Arena AFree AFree2 APlain AMany AMany2
/-- The reference's arena at block r: what is free, what is taken; what it owns lies among ok. -/
def IsE (base : Nat) (ok : Nat → Prop) (W : World) (r : Nat) (fl tk : List H) : Prop :=
  ∃ (Af : Option Addr) (cf : Nat) (At : Option Addr) (ct : Nat) (okf okt : Nat → Prop), W.heap[r]? = some (.cells #[.slice Af fl.length cf, .slice At tk.length ct] 53 (0, 0)) ∧ (∀ k, ok k → k < W.heap.size) ∧ (base ≤ r ∧ ok r) ∧
    (∀ k, okf k → ok k ∧ k ≠ r ∧ ¬ okt k) ∧ (∀ k, okt k → ok k ∧ k ≠ r) ∧ Kd.R kH 30 W base okf (.slice Af fl.length cf) fl ∧ Kd.R kH 30 W base okt (.slice At tk.length ct) tk
section
variable {base : Nat} {ok ok' S : Nat → Prop} {W W' : World} {r : Nat} {fl tk : List H}
theorem IsE.kept (h : IsE base ok W r fl tk) (hk : Kept W W' S) (hS : ∀ k, ok k → ¬ S k) : IsE base ok W' r fl tk := by
  obtain ⟨Af, cf, At, ct, okf, okt, hb, hL, hr, h1, h2, hf, ht⟩ := h
  exact ⟨Af, cf, At, ct, okf, okt, blk_kept hb hk (hS r hr.2), fun k h => Nat.lt_of_lt_of_le (hL k h) hk.1, hr, h1, h2, Kd.R_kept hf hk (fun k h => hS k (h1 k h).1), Kd.R_kept ht hk (fun k h => hS k (h2 k h).1)⟩
theorem IsE.below (h : IsE base ok W r fl tk) (hw : Below W.heap.size W W') : IsE base ok W' r fl tk :=
  h.kept (Kept.of_below hw (fun _ => False)) (fun _ _ h => h)
theorem IsE.drew (h : IsE base ok W r fl tk) : IsE base ok W.drew r fl tk := h.kept ((Kept.refl W (fun _ => False)).drew) (fun _ _ h => h)
theorem IsE.drewN (h : IsE base ok W r fl tk) (m : Nat) : IsE base ok (W.drewN m) r fl tk := h.kept ((Kept.refl W (fun _ => False)).drewN m) (fun _ _ h => h)
theorem IsE.lt (h : IsE base ok W r fl tk) {k : Nat} (hk : ok k) : k < W.heap.size := by
  obtain ⟨Af, cf, At, ct, okf, okt, hb, hL, _⟩ := h
  exact hL k hk
theorem IsE.own (h : IsE base ok W r fl tk) : ok r := by
  obtain ⟨Af, cf, At, ct, okf, okt, hb, hL, hr, _⟩ := h
  exact hr.2
theorem IsE.ge (h : IsE base ok W r fl tk) : base ≤ r := by
  obtain ⟨Af, cf, At, ct, okf, okt, hb, hL, hr, _⟩ := h
  exact hr.1
end
theorem cellE0 {W : World} {g : Nat} {a b : Value} (h : W.heap[g]? = some (.cells #[a, b] 53 (0, 0))) : W.cell? ⟨g, 0, none⟩ = some a := (blk_cell h 0).trans rfl
theorem cellE1 {W : World} {g : Nat} {a b : Value} (h : W.heap[g]? = some (.cells #[a, b] 53 (0, 0))) : W.cell? ⟨g, 1, none⟩ = some b := (blk_cell h 1).trans rfl
def eqH (a b : H) : Bool := decide (a.f0 = b.f0) && decide (a.f1 = b.f1)
theorem eqH_iff {a b : H} : eqH a b = true ↔ a = b := by
  obtain ⟨x, y⟩ := a
  obtain ⟨z, u⟩ := b
  simp [eqH]
def inH (tk : List H) (h : H) : Bool := tk.any (fun a => eqH a h)
theorem inH_iff {tk : List H} {h : H} : inH tk h = true ↔ h ∈ tk := by
  unfold inH
  rw [List.any_eq_true]
  constructor
  · rintro ⟨a, ha, e⟩
    rw [eqH_iff] at e
    exact e ▸ ha
  · exact fun hh => ⟨h, hh, eqH_iff.2 rfl⟩
theorem inH_drop (tk : List H) (h : H) (j : Nat) (hj : j < tk.length) : inH (tk.drop j) h = (eqH tk[j] h || inH (tk.drop (j + 1)) h) := by
  unfold inH
  rw [List.drop_eq_getElem_cons hj, List.any_cons]

set_option maxHeartbeats 2000000 in
set_option maxRecDepth 100000 in
theorem rlive (r : Nat) (fl tk : List H) (h : H) (ok : Nat → Prop) (w0 w : World) (hI : IsE w0.heap.size ok w r fl tk) (hl : tk.length ≤ 100000000) :
    Calls Try.prog 21 #[.pointer (some ⟨r, 0, none⟩), .agg #[.int .i64 h.f0, .int .i64 h.f1]] w fun e w' => e = .returned (.bool (inH tk h)) ∧ Below w.heap.size w w' := by
  obtain ⟨x, y⟩ := h
  dsimp only
  obtain ⟨w1, hw1⟩ : ∃ w1, w1 = w.alloc (.cells #[.int .i64 x, .int .i64 y] 30) := ⟨_, rfl⟩
  have HN := Aside0.mk (show w1.heap[w.heap.size]? = some (.cells #[.int .i64 x, .int .i64 y] 30 (0, 0)) by rw [hw1]; exact heap_alloc_new _ _)
  have HB := Aside0.mk (show Below w.heap.size w w1 by rw [hw1]; exact below_alloc (Below.refl _ _) _)
  obtain ⟨Af, cf, At, ct, okf, okt, hb, hL, hr, h1, h2, hf, ht⟩ := hI
  have HBK := Aside0.mk (blk_below hb HB.out)
  have HT := Aside0.mk (Kd.R_below ht HB.out)
  have hu30 := Try.underlying30
  clear hb hL hr h1 h2 hf ht
  go_enter Try.func21, Try.ntmps21
  go_wp2_with fail
  rw [← hw1]
  clear hw1
  go_loopg [5] (tk.length) (fun kq v5 wr => ∃ (j : Nat), v5 = .int .i64 j ∧ Aside0 (j + kq = tk.length) ∧ j ≤ tk.length ∧ Aside0 (inH (tk.drop j) ⟨x, y⟩ = inH tk ⟨x, y⟩) ∧ Aside0 (Below w1.heap.size w1 wr))
  case atStart => exact ⟨0, rfl, ⟨by omega⟩, Nat.zero_le _, ⟨rfl⟩, ⟨Below.refl _ _⟩⟩
  case round =>
    obtain ⟨j, rfl, HJ, hj, HIN, HBQ⟩ := hrel
    have hc1 := cellE1 (blk_below HBK.out HBQ.out)
    by_cases hjl : j < tk.length
    · obtain ⟨ad, e1, hx0, hx1⟩ := PArenaActs.at_T30 (Kd.C_below (Kd.R_reads' HT.out).2.2 HBQ.out) (j : Int) (by omega) (by omega)
      rw [hd_nat tk j hjl, Int.toNat_natCast] at hx0 hx1
      have hst := inH_drop tk ⟨x, y⟩ j hjl
      obtain ⟨⟨a, b⟩, hz⟩ : ∃ z, z = tk[j] := ⟨_, rfl⟩
      rw [← hz] at hx0 hx1 hst
      dsimp only at hx0 hx1
      have hn := blk_below HN.out HBQ.out
      have hy0 : wr.cell? ⟨w.heap.size, 0, none⟩ = some (.int .i64 x) := (blk_cell hn 0).trans rfl
      have hy1 : wr.cell? ⟨w.heap.size, 1, none⟩ = some (.int .i64 y) := (blk_cell hn 1).trans rfl
      have HST := Aside0.mk hst
      clear hz hn hst
      cases e1
      by_cases he : a = x ∧ b = y
      · obtain ⟨rfl, rfl⟩ := he
        have HTR := Aside0.mk (show inH tk ⟨a, b⟩ = true by rw [← HIN.out, HST.out]; simp [eqH])
        go_wp2_with fail
        go_quiet (fail)
        go_wp2
        go_ret
        exact ⟨by rw [HTR.out]; rfl, below_step HB.out (by first | exact pw_below_drewN HBQ.out _ | exact below_drew1 HBQ.out | exact HBQ.out)⟩
      · have HNE := Aside0.mk (show inH (tk.drop (j + 1)) ⟨x, y⟩ = inH tk ⟨x, y⟩ by rw [← HIN.out, HST.out]; simp [eqH, he])
        by_cases ha : a = x
        · subst ha
          have hb2 : ¬ b = y := fun e => he ⟨rfl, e⟩
          go_wp2_with fail
          go_quiet (fail)
          go_wp2
          go_roundg (tk.length - (j + 1))
          case measure => have := HJ.out; omega
          case rel => exact ⟨j + 1, by go_num, ⟨by have := HJ.out; omega⟩, by omega, HNE, ⟨by first | exact pw_below_drewN HBQ.out _ | exact below_drew1 HBQ.out | exact HBQ.out⟩⟩
        · go_wp2_with fail
          go_quiet (fail)
          go_wp2
          go_roundg (tk.length - (j + 1))
          case measure => have := HJ.out; omega
          case rel => exact ⟨j + 1, by go_num, ⟨by have := HJ.out; omega⟩, by omega, HNE, ⟨by first | exact pw_below_drewN HBQ.out _ | exact below_drew1 HBQ.out | exact HBQ.out⟩⟩
    · have hjj : j = tk.length := by omega
      subst hjj
      have HF := Aside0.mk (show inH tk ⟨x, y⟩ = false by rw [← HIN.out]; simp [inH])
      go_wp2
      go_ret
      exact ⟨by rw [HF.out]; rfl, below_step HB.out HBQ.out⟩

end Go.Proofs.Ytlmeeafppigphaa.ARef1
