/-
  The reference's arena: FreeAll.
-/
import Derived.Test.YtlmeeafppigphaaProg
import Derived.Test.YtlmeeafppigphaaAMap
import Derived.Test.YtlmeeafppigphaaArena
import Derived.Test.YtlmeeafppigphaaAFree
import Derived.Test.YtlmeeafppigphaaAFree2
import Derived.Test.YtlmeeafppigphaaRegH
import Derived.Test.YtlmeeafppigphaaAPlain
import Derived.Test.YtlmeeafppigphaaAMany
import Derived.Test.YtlmeeafppigphaaAMany2
import Derived.Test.YtlmeeafppigphaaARef1
import Derived.Test.YtlmeeafppigphaaPArenaActsx0
import Derived.Test.YtlmeeafppigphaaPArenaActsx2
import Derived.Below
import Derived.Deep.Draws
import Derived.Deep.AppendLies
import Derived.Maps.AppendAt
import Derived.OwnWalk
import Derived.Laws.BytesArg
import Derived.Laws.MakeOwn
import Derived.Laws.OwnMore
import Derived.Deep.OwnRows
import Derived.Tactics
import Derived.Lib.ConvBytes
import Derived.Laws.Slices
import Derived.WalkKit
import Derived.KernelRfl
import Derived.RowKit3
import Derived.Deep.LoopGhost
import Derived.Deep.QuietTactic
import Derived.BigQuiet
import Derived.WideLaws
import Derived.Deep.DeepCutAuto
import Derived.Deep.CutBlock
import Derived.Deep.RegionHeld3
import Derived.Laws.Rows
import Derived.Lib.AppendStr
import Derived.ArgAppend
import Derived.Laws.IdiomCopy
import Derived.OrdersHeld
import Derived.Laws.BitsLemmas
import Derived.RowKit
import Derived.Lib.SliceRun
import Derived.Test.YtlmeeafppigphaaWWords
import Derived.Test.YtlmeeafppigphaaWLast
import Derived.Test.YtlmeeafppigphaaWTab
import Derived.Test.YtlmeeafppigphaaWFour
import Derived.Test.YtlmeeafppigphaaWQPut
import Derived.Test.YtlmeeafppigphaaWApart
import Derived.Test.YtlmeeafppigphaaWArr
import Derived.Test.YtlmeeafppigphaaWZeros
import Derived.Test.YtlmeeafppigphaaWFoot
import Derived.Test.YtlmeeafppigphaaWKept
import Derived.Test.YtlmeeafppigphaaWShare
import Derived.Test.YtlmeeafppigphaaWN
import Derived.Test.YtlmeeafppigphaaWFootNe
import Derived.Test.YtlmeeafppigphaaWAt
import Derived.Test.YtlmeeafppigphaaWEqStruct
import Derived.Test.YtlmeeafppigphaaWRepsOne
import Derived.Test.YtlmeeafppigphaaWInv
import Derived.Test.YtlmeeafppigphaaWInvWords
import Derived.Test.YtlmeeafppigphaaWGuard
import Derived.Test.YtlmeeafppigphaaWNEv
import Derived.Test.YtlmeeafppigphaaWMore
namespace Go.Proofs.Ytlmeeafppigphaa.ARef4
open Go.RowKit Go.Proofs.YtlmeeafppigphaaW.PrintWords Go.Proofs.YtlmeeafppigphaaW.PrintLast Go.Proofs.YtlmeeafppigphaaW.PrintMore
set_option linter.unusedVariables false
set_option linter.unusedSimpArgs false
open Go.Proofs.Ytlmeeafppigphaa.AMap (Wf)
open Arena AFree AFree2 APlain AMany AMany2 ARef1
/-- May all of them be freed by the reference? -/
def okAll (tk hs : List H) : Prop := ∀ i (h : i < hs.length), hs[i] ∈ tk ∧ ∀ k (hk : k < i), hs[k] ≠ hs[i]
def rf1 (p : List H × List H) (h : H) : List H × List H := (⟨h.f0, h.f1 + 1⟩ :: p.1, p.2.filter (fun a => !(eqH a h)))
def rfs (fl tk hs : List H) (k : Nat) : List H × List H := (hs.take k).foldl rf1 (fl, tk)
theorem rfs_succ (fl tk hs : List H) (k : Nat) (h : k < hs.length) : rfs fl tk hs (k + 1) = rf1 (rfs fl tk hs k) hs[k] := by
  unfold rfs
  rw [List.take_succ_eq_append_getElem h, List.foldl_append]; rfl
theorem rfs_len1 (fl tk hs : List H) : ∀ k, k ≤ hs.length → (rfs fl tk hs k).1.length = fl.length + k
  | 0, _ => rfl
  | k + 1, h => by
    rw [rfs_succ fl tk hs k h]
    show (rfs fl tk hs k).1.length + 1 = _
    rw [rfs_len1 fl tk hs k (Nat.le_of_lt h)]; omega
theorem rfs_len2 (fl tk hs : List H) : ∀ k, k ≤ hs.length → (rfs fl tk hs k).2.length ≤ tk.length
  | 0, _ => Nat.le_refl _
  | k + 1, h => by
    rw [rfs_succ fl tk hs k h]
    exact Nat.le_trans (List.length_filter_le _ _) (rfs_len2 fl tk hs k (Nat.le_of_lt h))
theorem filt_take (T : List H) (h : H) (j : Nat) (hj : j < T.length) : (T.take (j + 1)).filter (fun a => !(eqH a h)) = (T.take j).filter (fun a => !(eqH a h)) ++ (if eqH T[j] h = true then [] else [T[j]]) := by
  rw [List.take_succ_eq_append_getElem hj, List.filter_append]
  by_cases e : eqH T[j] h = true <;> simp [e]
theorem R_one (W : World) (h : H) (base : Nat) (ok : Nat → Prop) (hb : base ≤ W.heap.size) (hok : ok W.heap.size) : Kd.R kH 30 (W.alloc (.cells #[.int .i64 h.f0, .int .i64 h.f1] 30)) base ok (.slice (some ⟨W.heap.size, 0, none⟩) 1 1) [h] := by
  refine ⟨fun k hk => ?_, [.int .i64 h.f0, .int .i64 h.f1], ?_, ⟨rfl, fun j p hj => ?_⟩⟩
  · have : W.heap.size = k := by simpa [Value.ownBlock] using hk
    subst this
    exact hok
  · have h2 := World.ownsRow_lit (base := base) (e := 30) (size := kH.sz) W #[.int .i64 h.f0, .int .i64 h.f1] 1 hb (by simp [maxLen]) rfl
    simpa using h2
  · match j, hj with
    | 0, hj =>
      obtain rfl := Option.some.inj hj
      exact ⟨[_], [_], rfl, rfl, rfl⟩

set_option maxHeartbeats 4000000 in
set_option maxRecDepth 100000 in
theorem rfree_bad (r : Nat) (fl tk : List H) (A0 : Option Addr) (c0 : Nat) (hs : List H) (ok : Nat → Prop) (w0 w : World) (hI : IsE w0.heap.size ok w r fl tk) (hA : ∀ W', Kept w W' ok → Kd.C kH W' A0 hs.length hs) (hfl : fl.length ≤ 100000 ∧ tk.length ≤ 100000 ∧ hs.length ≤ 10000000) (hok : ¬ okAll tk hs) :
    Calls Try.prog 18 #[.pointer (some ⟨r, 0, none⟩), .slice A0 hs.length c0] w fun e w' => e = .returned (.int .i64 51) ∧ Below w.heap.size w w' := by
  have HI := Aside0.mk hI
  have HA := Aside0.mk hA
  have HFL := Aside0.mk hfl
  have hhl := hfl.2.2
  have HOK := Aside0.mk hok
  clear hI hA hfl hok
  go_enter Try.func18, Try.ntmps18
  go_wp2_with fail
  go_loopg [5] (hs.length) (fun kq v5 wr => ∃ (i : Nat), v5 = .int .i64 i ∧ Aside0 (i + kq = hs.length) ∧ i ≤ hs.length ∧ Aside0 (∀ i' (h : i' < hs.length), i' < i → hs[i'] ∈ tk ∧ ∀ k (hk : k < i'), hs[k] ≠ hs[i']) ∧ Aside0 (Below w.heap.size w wr))
  case atStart => exact ⟨0, rfl, ⟨by omega⟩, Nat.zero_le _, ⟨fun i' h h2 => by omega⟩, ⟨Below.refl _ _⟩⟩
  case round =>
    obtain ⟨i, rfl, HQ, hi, HP, HBQ⟩ := hrel
    by_cases hlt : i < hs.length
    · obtain ⟨ad, e1, hx0, hx1⟩ := PArenaActs.at_T30 (HA.out wr (Kept.of_below HBQ.out _)) (i : Int) (by omega) (by omega)
      rw [hd_nat hs i hlt, Int.toNat_natCast] at hx0 hx1
      obtain ⟨⟨x, y⟩, hz⟩ : ∃ z, z = hs[i] := ⟨_, rfl⟩
      rw [← hz] at hx0 hx1
      dsimp only at hx0 hx1
      have HZ := Aside0.mk hz
      clear hz
      cases e1
      go_wp2_with fail
      refine Calls.mono (rlive r fl tk ⟨x, y⟩ ok w0 wr (HI.out.below HBQ.out) (by have := HFL.out; omega)) ?_
      rintro e w5 ⟨rfl, hb5⟩
      have HB5 := Aside0.mk (below_step HBQ.out hb5)
      clear hb5
      cases hin : inH tk ⟨x, y⟩ with
      | false =>
        go_wp2
        go_ret
        exact ⟨rfl, HB5.out⟩
      | true =>
        have HIN := Aside0.mk (inH_iff.1 hin)
        clear hin
        go_wp2
        go_loopg [6] (i) (fun kq v6 wr => ∃ (k : Nat), v6 = .int .i64 k ∧ Aside0 (k + kq = i) ∧ k ≤ i ∧ Aside0 (∀ k' (h : k' < i), k' < k → hs[k'] ≠ hs[i]) ∧ Aside0 (Below w.heap.size w wr))
        case atStart => exact ⟨0, rfl, ⟨by omega⟩, Nat.zero_le _, ⟨fun k' h h2 => by omega⟩, HB5⟩
        case round =>
          clear HBQ HB5
          obtain ⟨k, rfl, HK, hk, HNE, HBQ⟩ := hrel
          by_cases hki : k < i
          · have hkl : k < hs.length := by omega
            obtain ⟨ad2, e2, hy0, hy1⟩ := PArenaActs.at_T30 (HA.out wr (Kept.of_below HBQ.out _)) (k : Int) (by omega) (by omega)
            rw [hd_nat hs k hkl, Int.toNat_natCast] at hy0 hy1
            obtain ⟨ad3, e3, hx0, hx1⟩ := PArenaActs.at_T30 (HA.out wr (Kept.of_below HBQ.out _)) (i : Int) (by omega) (by omega)
            rw [hd_nat hs i hlt, Int.toNat_natCast, ← HZ.out] at hx0 hx1
            dsimp only at hx0 hx1
            obtain ⟨⟨a, b⟩, hz⟩ : ∃ z, z = hs[k] := ⟨_, rfl⟩
            rw [← hz] at hy0 hy1
            dsimp only at hy0 hy1
            have HZ2 := Aside0.mk hz
            have hkb : (k : Int) < (hs.length : Int) := by omega
            have hib : (i : Int) < (hs.length : Int) := by omega
            have hu30 := Try.underlying30
            clear hz
            cases e2
            cases e3
            by_cases he : a = x ∧ b = y
            · obtain ⟨rfl, rfl⟩ := he
              go_wp2_with fail
              go_quiet (fail)
              go_wp2
              go_ret
              exact ⟨rfl, by first | exact pw_below_drewN HBQ.out _ | exact below_drew1 HBQ.out | exact HBQ.out⟩
            · have HNE2 := Aside0.mk (show ∀ k' (h : k' < i), k' < k + 1 → hs[k'] ≠ hs[i] from fun k' h h2 => by
                by_cases e : k' = k
                · subst e; rw [← HZ2.out, ← HZ.out]; intro e; injection e with e1 e2; exact he ⟨e1, e2⟩
                · exact HNE.out k' h (by omega))
              by_cases ha : a = x
              · subst ha
                have hb2 : ¬ b = y := fun e => he ⟨rfl, e⟩
                go_wp2_with fail
                go_quiet (fail)
                go_wp2
                go_roundg (i - (k + 1))
                case measure => have := HK.out; omega
                case rel => exact ⟨k + 1, by go_num, ⟨by have := HK.out; omega⟩, by omega, HNE2, ⟨by first | exact pw_below_drewN HBQ.out _ | exact below_drew1 HBQ.out | exact HBQ.out⟩⟩
              · go_wp2_with fail
                go_quiet (fail)
                go_wp2
                go_roundg (i - (k + 1))
                case measure => have := HK.out; omega
                case rel => exact ⟨k + 1, by go_num, ⟨by have := HK.out; omega⟩, by omega, HNE2, ⟨by first | exact pw_below_drewN HBQ.out _ | exact below_drew1 HBQ.out | exact HBQ.out⟩⟩
          · have hkk : k = i := by omega
            subst hkk
            go_wp2
            go_roundg (hs.length - (k + 1))
            case measure => have := HQ.out; omega
            case rel => exact ⟨k + 1, by go_num, ⟨by have := HQ.out; omega⟩, by omega, ⟨fun i' h h2 => by
              by_cases e : i' = k
              · subst e; exact ⟨by rw [← HZ.out]; exact HIN.out, fun k' hk' => HNE.out k' hk' hk'⟩
              · exact HP.out i' h (by omega)⟩, HBQ⟩
    · have hii : i = hs.length := by omega
      subst hii
      exact absurd (fun i h => HP.out i h h) HOK.out

set_option maxHeartbeats 4000000 in
set_option maxRecDepth 100000 in
theorem rfree_ok (r : Nat) (fl tk : List H) (A0 : Option Addr) (c0 : Nat) (hs : List H) (ok : Nat → Prop) (w0 w : World) (hI : IsE w0.heap.size ok w r fl tk) (hB : Below w0.heap.size w0 w) (hA : ∀ W', Kept w W' ok → Kd.C kH W' A0 hs.length hs) (hfl : fl.length ≤ 100000 ∧ tk.length ≤ 100000 ∧ hs.length ≤ 10000000) (hok : okAll tk hs) (hbd : ∀ h, h ∈ hs → 0 ≤ h.f1 ∧ h.f1 ≤ 1000000000) :
    Calls Try.prog 18 #[.pointer (some ⟨r, 0, none⟩), .slice A0 hs.length c0] w fun e w' => ∃ ok' : Nat → Prop, e = .returned (.int .i64 0) ∧ IsE w0.heap.size ok' w' r (rfs fl tk hs hs.length).1 (rfs fl tk hs hs.length).2 ∧ Below w0.heap.size w0 w' ∧ Kept w w' ok ∧ (∀ q, ok' q → ok q ∨ w.heap.size ≤ q) := by
  have HI := Aside0.mk hI
  have HA := Aside0.mk hA
  have HFL := Aside0.mk hfl
  have hhl := hfl.2.2
  have HOK := Aside0.mk hok
  have HB := Aside0.mk hB
  have HBD := Aside0.mk hbd
  clear hI hA hfl hok hB hbd
  go_enter Try.func18, Try.ntmps18
  go_wp2_with fail
  go_loopg [5] (hs.length) (fun kq v5 wr => ∃ (i : Nat), v5 = .int .i64 i ∧ Aside0 (i + kq = hs.length) ∧ i ≤ hs.length ∧ Aside0 (∀ i' (h : i' < hs.length), i' < i → hs[i'] ∈ tk ∧ ∀ k (hk : k < i'), hs[k] ≠ hs[i']) ∧ Aside0 (Below w.heap.size w wr))
  case atStart => exact ⟨0, rfl, ⟨by omega⟩, Nat.zero_le _, ⟨fun i' h h2 => by omega⟩, ⟨Below.refl _ _⟩⟩
  case round =>
    obtain ⟨i, rfl, HQ, hi, HP, HBQ⟩ := hrel
    by_cases hlt : i < hs.length
    · obtain ⟨ad, e1, hx0, hx1⟩ := PArenaActs.at_T30 (HA.out wr (Kept.of_below HBQ.out _)) (i : Int) (by omega) (by omega)
      rw [hd_nat hs i hlt, Int.toNat_natCast] at hx0 hx1
      obtain ⟨⟨x, y⟩, hz⟩ : ∃ z, z = hs[i] := ⟨_, rfl⟩
      rw [← hz] at hx0 hx1
      dsimp only at hx0 hx1
      have HZ := Aside0.mk hz
      clear hz
      cases e1
      go_wp2_with fail
      refine Calls.mono (rlive r fl tk ⟨x, y⟩ ok w0 wr (HI.out.below HBQ.out) (by have := HFL.out; omega)) ?_
      rintro e w5 ⟨rfl, hb5⟩
      have HB5 := Aside0.mk (below_step HBQ.out hb5)
      clear hb5
      cases hin : inH tk ⟨x, y⟩ with
      | false =>
        exact absurd (inH_iff.2 (by have h := (HOK.out i hlt).1; rw [← HZ.out] at h; exact h)) (by rw [hin]; simp)
      | true =>
        have HIN := Aside0.mk (inH_iff.1 hin)
        clear hin
        go_wp2
        go_loopg [6] (i) (fun kq v6 wr => ∃ (k : Nat), v6 = .int .i64 k ∧ Aside0 (k + kq = i) ∧ k ≤ i ∧ Aside0 (∀ k' (h : k' < i), k' < k → hs[k'] ≠ hs[i]) ∧ Aside0 (Below w.heap.size w wr))
        case atStart => exact ⟨0, rfl, ⟨by omega⟩, Nat.zero_le _, ⟨fun k' h h2 => by omega⟩, HB5⟩
        case round =>
          clear HBQ HB5
          obtain ⟨k, rfl, HK, hk, HNE, HBQ⟩ := hrel
          by_cases hki : k < i
          · have hkl : k < hs.length := by omega
            obtain ⟨ad2, e2, hy0, hy1⟩ := PArenaActs.at_T30 (HA.out wr (Kept.of_below HBQ.out _)) (k : Int) (by omega) (by omega)
            rw [hd_nat hs k hkl, Int.toNat_natCast] at hy0 hy1
            obtain ⟨ad3, e3, hx0, hx1⟩ := PArenaActs.at_T30 (HA.out wr (Kept.of_below HBQ.out _)) (i : Int) (by omega) (by omega)
            rw [hd_nat hs i hlt, Int.toNat_natCast, ← HZ.out] at hx0 hx1
            dsimp only at hx0 hx1
            obtain ⟨⟨a, b⟩, hz⟩ : ∃ z, z = hs[k] := ⟨_, rfl⟩
            rw [← hz] at hy0 hy1
            dsimp only at hy0 hy1
            have HZ2 := Aside0.mk hz
            have hkb : (k : Int) < (hs.length : Int) := by omega
            have hib : (i : Int) < (hs.length : Int) := by omega
            have hu30 := Try.underlying30
            clear hz
            cases e2
            cases e3
            by_cases he : a = x ∧ b = y
            · obtain ⟨rfl, rfl⟩ := he
              exact absurd (HZ2.out.symm.trans HZ.out) ((HOK.out i hlt).2 k hki)
            · have HNE2 := Aside0.mk (show ∀ k' (h : k' < i), k' < k + 1 → hs[k'] ≠ hs[i] from fun k' h h2 => by
                by_cases e : k' = k
                · subst e; rw [← HZ2.out, ← HZ.out]; intro e; injection e with e1 e2; exact he ⟨e1, e2⟩
                · exact HNE.out k' h (by omega))
              by_cases ha : a = x
              · subst ha
                have hb2 : ¬ b = y := fun e => he ⟨rfl, e⟩
                go_wp2_with fail
                go_quiet (fail)
                go_wp2
                go_roundg (i - (k + 1))
                case measure => have := HK.out; omega
                case rel => exact ⟨k + 1, by go_num, ⟨by have := HK.out; omega⟩, by omega, HNE2, ⟨by first | exact pw_below_drewN HBQ.out _ | exact below_drew1 HBQ.out | exact HBQ.out⟩⟩
              · go_wp2_with fail
                go_quiet (fail)
                go_wp2
                go_roundg (i - (k + 1))
                case measure => have := HK.out; omega
                case rel => exact ⟨k + 1, by go_num, ⟨by have := HK.out; omega⟩, by omega, HNE2, ⟨by first | exact pw_below_drewN HBQ.out _ | exact below_drew1 HBQ.out | exact HBQ.out⟩⟩
          · have hkk : k = i := by omega
            subst hkk
            go_wp2
            go_roundg (hs.length - (k + 1))
            case measure => have := HQ.out; omega
            case rel => exact ⟨k + 1, by go_num, ⟨by have := HQ.out; omega⟩, by omega, ⟨fun i' h h2 => by
              by_cases e : i' = k
              · subst e; exact ⟨by rw [← HZ.out]; exact HIN.out, fun k' hk' => HNE.out k' hk' hk'⟩
              · exact HP.out i' h (by omega)⟩, HBQ⟩
    · have hii : i = hs.length := by omega
      subst hii
      go_wp2
      have HI1 := Aside0.mk (HI.out.below HBQ.out)
      have HB1 := Aside0.mk (below_step HB.out HBQ.out)
      have HK1 := Aside0.mk (Kept.of_below HBQ.out ok)
      clear HI HQ hi HP HBQ hlt
      go_loopg [7] (hs.length) (fun kq v7 wr => ∃ (k : Nat) (okk : Nat → Prop), v7 = .int .i64 k ∧ Aside0 (k + kq = hs.length) ∧ k ≤ hs.length ∧ Aside0 (IsE w0.heap.size okk wr r (rfs fl tk hs k).1 (rfs fl tk hs k).2) ∧ Aside0 (∀ q, okk q → ok q ∨ w.heap.size ≤ q) ∧ Aside0 (Below w0.heap.size w0 wr) ∧ Aside0 (Kept w wr ok))
      case atStart => exact ⟨0, ok, rfl, ⟨by omega⟩, Nat.zero_le _, HI1, ⟨fun q h => .inl h⟩, HB1, HK1⟩
      case round =>
        clear HI1 HB1 HK1
        obtain ⟨k, okk, rfl, HQ, hk, HI, HOKK, HB1, HK1⟩ := hrel
        have HL1 := Aside0.mk (rfs_len1 fl tk hs k hk)
        have HL2 := Aside0.mk (rfs_len2 fl tk hs k hk)
        by_cases hlt : k < hs.length
        · have HSUC := Aside0.mk (rfs_succ fl tk hs k hlt)
          obtain ⟨⟨F, T⟩, hFT⟩ : ∃ p, p = rfs fl tk hs k := ⟨_, rfl⟩
          rw [← hFT] at HI HL1 HL2 HSUC
          obtain ⟨Af, cf, At, ct, okf, okt, hb, hL, hr, h1, h2, hf, ht⟩ := HI.out
          dsimp only at hb hf ht
          have HBK := Aside0.mk hb
          have HL := Aside0.mk hL
          have HRR := Aside0.mk hr
          have HH1 := Aside0.mk h1
          have HH2 := Aside0.mk h2
          have HRF := Aside0.mk hf
          have HRT := Aside0.mk ht
          have HLF := Aside0.mk (show F.length = fl.length + k from HL1.out)
          have HLT := Aside0.mk (show T.length ≤ tk.length from HL2.out)
          obtain ⟨⟨x, y⟩, hz⟩ : ∃ z, z = hs[k] := ⟨_, rfl⟩
          have hyb := HBD.out hs[k] (List.getElem_mem hlt)
          rw [← hz] at hyb HSUC
          have HZ := Aside0.mk hz
          have HYB := Aside0.mk (show 0 ≤ y ∧ y ≤ 1000000000 from hyb)
          have hTl : T.length ≤ 100000 := by have := HFL.out; have := HLT.out; omega
          obtain ⟨ad, e1, -, -⟩ := PArenaActs.at_T30 (HA.out wr HK1.out) (k : Int) (by omega) (by omega)
          have hkb : (k : Int) < (hs.length : Int) := by omega
          cases e1
          have hu30 := Try.underlying30
          clear hFT hb hL hr h1 h2 hf ht hz hyb HI HL1 HL2
          obtain ⟨wo, hwo⟩ : ∃ wo : World, wo = wr := ⟨_, rfl⟩
          subst hwo
          have HWO := Aside0.mk HK1.out.1
          go_wp2
          go_loopg [8, 9] (T.length) (fun kq v8 v9 wq => ∃ (j : Nat) (left : List H), v9 = .int .i64 j ∧ Aside0 (j + kq = T.length) ∧ j ≤ T.length ∧ Aside0 (left = (T.take j).filter (fun a => !(eqH a ⟨x, y⟩))) ∧ Aside0 (left.length ≤ j) ∧ Aside0 (Kd.R kH 30 wq w0.heap.size (fun q => wo.heap.size ≤ q) v8 left) ∧ Aside0 (Below wo.heap.size wo wq))
          case atStart => exact ⟨0, [], rfl, ⟨by omega⟩, Nat.zero_le _, ⟨by simp⟩, ⟨Nat.le_refl _⟩, ⟨Kd.R_nil _ _ _ _ _⟩, ⟨Below.refl _ _⟩⟩
          case round =>
            obtain ⟨j, left, rfl, HJ, hj, HLE, HLL, HR, HBW⟩ := hrel
            have hc1 := cellE1 (blk_below HBK.out HBW.out)
            by_cases hjl : j < T.length
            · obtain ⟨adt, e1, hx0, hx1⟩ := PArenaActs.at_T30 (Kd.C_below (Kd.R_reads' HRT.out).2.2 HBW.out) (j : Int) (by omega) (by omega)
              rw [hd_nat T j hjl, Int.toNat_natCast] at hx0 hx1
              obtain ⟨ada, e2, hy0, hy1⟩ := PArenaActs.at_T30 (HA.out wr (HK1.out.below HBW.out)) (k : Int) (by omega) (by omega)
              rw [hd_nat hs k hlt, Int.toNat_natCast, ← HZ.out] at hy0 hy1
              dsimp only at hy0 hy1
              have hst := filt_take T ⟨x, y⟩ j hjl
              obtain ⟨⟨a, b⟩, hz⟩ : ∃ z, z = T[j] := ⟨_, rfl⟩
              rw [← hz] at hx0 hx1 hst
              dsimp only at hx0 hx1
              have HST := Aside0.mk hst
              clear hz hst
              cases e1
              cases e2
              by_cases he : a = x ∧ b = y
              · obtain ⟨rfl, rfl⟩ := he
                go_wp2_with fail
                go_quiet (fail)
                go_wp2
                go_roundg (T.length - (j + 1))
                case measure => have := HJ.out; omega
                case rel => exact ⟨j + 1, left, by go_num, ⟨by have := HJ.out; omega⟩, by omega, ⟨by rw [HST.out, if_pos (by simp [eqH]), List.append_nil]; exact HLE.out⟩, ⟨by have := HLL.out; omega⟩, ⟨Kd.R_below HR.out (pw_below_drewN (Below.refl _ _) _)⟩, ⟨pw_below_drewN HBW.out _⟩⟩
              · have HEQ := Aside0.mk (show eqH ⟨a, b⟩ ⟨x, y⟩ = false by
                  cases hh : eqH ⟨a, b⟩ ⟨x, y⟩ with
                  | false => rfl
                  | true => exact absurd (eqH_iff.1 hh) (fun e => by injection e with e1 e2; exact he ⟨e1, e2⟩))
                by_cases ha : a = x
                · obtain rfl : x = a := ha.symm
                  have hb2 : ¬ b = y := fun e => he ⟨rfl, e⟩
                  have HCAP := Aside0.mk (show (left.length + 1) * 16 ≤ 140737488355328 by have := HLL.out; omega)
                  go_wp2_with fail
                  go_quiet (fail)
                  obtain ⟨wd, hwd⟩ : ∃ wd, wd = wr.drewN nq := ⟨_, rfl⟩
                  have hbd : Below wr.heap.size wr wd := by rw [hwd]; exact pw_below_drewN (Below.refl _ _) _
                  rw [← hwd]
                  replace hx0 := pw_cell_below hbd hx0
                  replace hx1 := pw_cell_below hbd hx1
                  replace hc1 := pw_cell_below hbd hc1
                  have HRD := Aside0.mk (Kd.R_below HR.out hbd)
                  have HBD1 := Aside0.mk (below_step HBW.out hbd)
                  have HB0D := Aside0.mk (below_step HB1.out HBD1.out)
                  obtain ⟨Ao, co, hu⟩ := Kd.R_slice HRD.out
                  subst hu
                  clear hwd hbd hy0 hy1 HR HBW
                  go_wp2_with (((with_reducible refine gate_dst (N := 73) rfl ?_); refine Kd.R_append_rows kH (w0 := w0) w0.heap.size rfl (.tmp 64) (.tmp 72) 28 30 (.agg #[.int .i64 0, .int .i64 0]) 16 rfl Try.underlying28 PArenaActs.info30 rfl (by decide) (by decide) (.slice Ao left.length co) left [⟨x, b⟩] (some ⟨wd.heap.size, 0, none⟩) 1 1 (fun q => wo.heap.size ≤ q) (fun _ => False) rfl rfl (Kd.R_alloc HRD.out (.cells #[.int .i64 x, .int .i64 b] 30)) (handle_blk (h := ⟨x, b⟩) (t := 30) (mk := (0, 0)) (heap_alloc_new wd _)) (fun _ _ h => h) (fun _ h => h.elim) (fun q hq => by have := HBD1.out.size; simp at hq; omega) (ins1 HB0D.out HB0D.out.size _) (by have h1 := HB0D.out.size; simp; omega) HCAP.out ?_); intro vo w6 hr6 hb6 hg6 _; have HR6 := Aside0.mk hr6; have HB6 := Aside0.mk ((ins1 HBD1.out HBD1.out.size _).grown hg6 (by have := HBD1.out.size; simp; omega) (fun q e => HRD.out.1 q e)); clear hr6 hb6 hg6)
                  go_roundg (T.length - (j + 1))
                  case measure => have := HJ.out; omega
                  case rel => exact ⟨j + 1, left ++ [⟨x, b⟩], by go_num, ⟨by have := HJ.out; omega⟩, by omega, ⟨by rw [HST.out, HEQ.out, if_neg (by simp), HLE.out]⟩, ⟨by have := HLL.out; simp; omega⟩, HR6, HB6⟩
                · have HCAP := Aside0.mk (show (left.length + 1) * 16 ≤ 140737488355328 by have := HLL.out; omega)
                  go_wp2_with fail
                  go_quiet (fail)
                  obtain ⟨wd, hwd⟩ : ∃ wd, wd = wr.drewN nq := ⟨_, rfl⟩
                  have hbd : Below wr.heap.size wr wd := by rw [hwd]; exact pw_below_drewN (Below.refl _ _) _
                  rw [← hwd]
                  replace hx0 := pw_cell_below hbd hx0
                  replace hx1 := pw_cell_below hbd hx1
                  replace hc1 := pw_cell_below hbd hc1
                  have HRD := Aside0.mk (Kd.R_below HR.out hbd)
                  have HBD1 := Aside0.mk (below_step HBW.out hbd)
                  have HB0D := Aside0.mk (below_step HB1.out HBD1.out)
                  obtain ⟨Ao, co, hu⟩ := Kd.R_slice HRD.out
                  subst hu
                  clear hwd hbd hy0 hy1 HR HBW
                  go_wp2_with (((with_reducible refine gate_dst (N := 73) rfl ?_); refine Kd.R_append_rows kH (w0 := w0) w0.heap.size rfl (.tmp 64) (.tmp 72) 28 30 (.agg #[.int .i64 0, .int .i64 0]) 16 rfl Try.underlying28 PArenaActs.info30 rfl (by decide) (by decide) (.slice Ao left.length co) left [⟨a, b⟩] (some ⟨wd.heap.size, 0, none⟩) 1 1 (fun q => wo.heap.size ≤ q) (fun _ => False) rfl rfl (Kd.R_alloc HRD.out (.cells #[.int .i64 a, .int .i64 b] 30)) (handle_blk (h := ⟨a, b⟩) (t := 30) (mk := (0, 0)) (heap_alloc_new wd _)) (fun _ _ h => h) (fun _ h => h.elim) (fun q hq => by have := HBD1.out.size; simp at hq; omega) (ins1 HB0D.out HB0D.out.size _) (by have h1 := HB0D.out.size; simp; omega) HCAP.out ?_); intro vo w6 hr6 hb6 hg6 _; have HR6 := Aside0.mk hr6; have HB6 := Aside0.mk ((ins1 HBD1.out HBD1.out.size _).grown hg6 (by have := HBD1.out.size; simp; omega) (fun q e => HRD.out.1 q e)); clear hr6 hb6 hg6)
                  go_roundg (T.length - (j + 1))
                  case measure => have := HJ.out; omega
                  case rel => exact ⟨j + 1, left ++ [⟨a, b⟩], by go_num, ⟨by have := HJ.out; omega⟩, by omega, ⟨by rw [HST.out, HEQ.out, if_neg (by simp), HLE.out]⟩, ⟨by have := HLL.out; simp; omega⟩, HR6, HB6⟩
            · have hjj : j = T.length := by omega
              subst hjj
              have hle := HLE.out
              rw [List.take_length] at hle
              have hrr := HRR.out
              have hrl := HL.out r hrr.2
              obtain ⟨Al, cl_, hu⟩ := Kd.R_slice HR.out
              subst hu
              have hbk := blk_below HBK.out HBW.out
              have hf1 := blk_frozen hbk 1
              have hc1b := hc1
              obtain ⟨w5, hw5⟩ : ∃ w5, w5 = wr.setCell ⟨r, 1, none⟩ (.slice Al left.length cl_) := ⟨_, rfl⟩
              have hsz5 : w5.heap.size = wr.heap.size := by rw [hw5]; simp
              have hbk5 : w5.heap[r]? = some (.cells #[.slice Af F.length cf, .slice Al left.length cl_] 53 (0, 0)) := by rw [hw5]; exact blk_set hbk 1 (.slice Al left.length cl_)
              have HB5 := Aside0.mk (show Below w0.heap.size w0 w5 by rw [hw5]; exact below_set (j := 1) (below_step HB1.out HBW.out) hrr.1)
              have HK5 := Aside0.mk (show Kept w w5 ok by rw [hw5]; exact (HK1.out.below HBW.out).setCell (p := ⟨r, 1, none⟩) (HOKK.out r hrr.2) _)
              have HRF5 := Aside0.mk (show Kd.R kH 30 w5 w0.heap.size okf (.slice Af F.length cf) F by rw [hw5]; exact Kd.R_far (Kd.R_below HRF.out HBW.out) (p := ⟨r, 1, none⟩) (fun q hq => (HH1.out q hq).2.1) _)
              have HRL5 := Aside0.mk (show Kd.R kH 30 w5 w0.heap.size (fun q => wo.heap.size ≤ q ∧ q < w5.heap.size) (.slice Al left.length cl_) left by rw [hsz5, hw5]; exact Kd.R_far (Kd.R_mono (Kd.R_bound HR.out) (fun q h => ⟨h.1, h.2.2.1⟩)) (p := ⟨r, 1, none⟩) (fun q hq => by show q ≠ r; omega) _)
              have HS5 := Aside0.mk (show wo.heap.size ≤ w5.heap.size ∧ r < wo.heap.size from ⟨by rw [hsz5]; exact HBW.out.size, hrl⟩)
              have HLE5 := Aside0.mk hle
              clear hle
              go_wp2_with fail
              rw [← hw5]
              obtain ⟨ada, e2, hy0, hy1⟩ := PArenaActs.at_T30 (HA.out w5 HK5.out) (k : Int) (by omega) (by omega)
              rw [hd_nat hs k hlt, Int.toNat_natCast, ← HZ.out] at hy0 hy1
              dsimp only at hy0 hy1
              cases e2
              have hwy : IntKind.i64.wrap (y + 1) = y + 1 := by have := HYB.out; rw [IntKind.wrap_i64]; omega
              have hcr0 : w5.drew.cell? ⟨r, 0, none⟩ = some (.slice Af F.length cf) := cellE0 (W := w5.drew) hbk5
              have hcr0' : ∀ o, (w5.drew.alloc o).cell? ⟨r, 0, none⟩ = some (.slice Af F.length cf) := fun o => cellE0 (blk_alloc (w := w5.drew) hbk5 o)
              have hcr1 : w5.cell? ⟨r, 0, none⟩ = some (.slice Af F.length cf) := cellE0 hbk5
              have hcr1' : ∀ o, (w5.alloc o).cell? ⟨r, 0, none⟩ = some (.slice Af F.length cf) := fun o => cellE0 (blk_alloc hbk5 o)
              have HBK5 := Aside0.mk hbk5
              have hsS : ∀ W, Below w5.heap.size w5 W → W.cell? (ad.add (k * 2)) = some (.int .i64 x) ∧ W.cell? ⟨(ad.add (k * 2)).block, (ad.add (k * 2)).off + 1, none⟩ = some (.int .i64 y) := fun W h => ⟨pw_cell_below h hy0, pw_cell_below h hy1⟩
              have HSS := Aside0.mk hsS
              clear hrr hrl hbk hf1 hc1 hc1b hsz5 hbk5 hw5 hy0 hy1 hsS HB1 HK1 HBW HR HLE
              refine RegH.startH (fun W => W.cell? (ad.add (k * 2)) = some (.int .i64 x) ∧ W.cell? ⟨(ad.add (k * 2)).block, (ad.add (k * 2)).off + 1, none⟩ = some (.int .i64 y)) (by kernel_rfl) rfl (HSS.out _ (below_drew1 (Below.refl _ _))) (fun hS => ?_)
              (refine RegH.tkH (i := 0) (d := 78) (oi := ⟨_, _, _, _, _, _⟩) (v := ?_) rfl rfl (by kernel_rfl) (by kernel_rfl) (by kernel_rfl) (fun _ _ _ h => h) (Or.inl ⟨by rfl, ?_⟩) hS ?_; rotate_left; (intro w hSw; (try dsimp only at hSw); go_simp); try (with_reducible rfl))
              try simp only [Act.put, List.setIfInBounds_toArray, List.set_cons_zero, List.set_cons_succ]
              (refine RegH.tkH (i := 1) (d := 79) (oi := ⟨_, _, _, _, _, _⟩) (v := ?_) rfl rfl (by kernel_rfl) (by kernel_rfl) (by kernel_rfl) (fun _ _ _ h => h) (Or.inl ⟨by rfl, ?_⟩) hS ?_; rotate_left; (intro w hSw; (try dsimp only at hSw); go_simp); try (with_reducible rfl))
              try simp only [Act.put, List.setIfInBounds_toArray, List.set_cons_zero, List.set_cons_succ]
              (refine RegH.tkH (i := 2) (d := 80) (oi := ⟨_, _, _, _, _, _⟩) (v := ?_) rfl rfl (by kernel_rfl) (by kernel_rfl) (by kernel_rfl) (fun _ _ _ h => h) (Or.inl ⟨by rfl, ?_⟩) hS ?_; rotate_left; (intro w hSw; (try dsimp only at hSw); go_simp); try (with_reducible rfl))
              try simp only [Act.put, List.setIfInBounds_toArray, List.set_cons_zero, List.set_cons_succ]
              (refine RegH.tkH (i := 3) (d := 81) (oi := ⟨_, _, _, _, _, _⟩) (v := ?_) rfl rfl (by kernel_rfl) (by kernel_rfl) (by kernel_rfl) (fun _ _ _ h => h) (Or.inl ⟨by rfl, ?_⟩) hS ?_; rotate_left; (intro w hSw; (try dsimp only at hSw); go_simp); try (with_reducible rfl))
              try simp only [Act.put, List.setIfInBounds_toArray, List.set_cons_zero, List.set_cons_succ]
              (refine RegH.tkH (i := 4) (d := 82) (oi := ⟨_, _, _, _, _, _⟩) (v := ?_) rfl rfl (by kernel_rfl) (by kernel_rfl) (by kernel_rfl) (fun _ _ _ h => h) (Or.inl ⟨by rfl, ?_⟩) hS ?_; rotate_left; (intro w hSw; (try dsimp only at hSw); go_simp); try (with_reducible rfl))
              try simp only [Act.put, List.setIfInBounds_toArray, List.set_cons_zero, List.set_cons_succ]
              (refine RegH.tkH (i := 5) (d := 83) (oi := ⟨_, _, _, _, _, _⟩) (v := ?_) rfl rfl (by kernel_rfl) (by kernel_rfl) (by kernel_rfl) (fun _ _ _ h => h) (Or.inl ⟨by rfl, ?_⟩) hS ?_; rotate_left; (intro w hSw; (try dsimp only at hSw); go_simp); try (with_reducible rfl))
              try simp only [Act.put, List.setIfInBounds_toArray, List.set_cons_zero, List.set_cons_succ]
              (refine RegH.tkH (i := 6) (d := 84) (oi := ⟨_, _, _, _, _, _⟩) (v := ?_) rfl rfl (by kernel_rfl) (by kernel_rfl) (by kernel_rfl) (fun _ _ _ h => h) (Or.inl ⟨by rfl, ?_⟩) hS ?_; rotate_left; (intro w hSw; (try dsimp only at hSw); go_simp); try (with_reducible rfl))
              try simp only [Act.put, List.setIfInBounds_toArray, List.set_cons_zero, List.set_cons_succ]
              (refine RegH.tkH (i := 7) (d := 85) (oi := ⟨_, _, _, _, _, _⟩) (v := ?_) rfl rfl (by kernel_rfl) (by kernel_rfl) (by kernel_rfl) (fun _ _ _ h => h) (Or.inl ⟨by rfl, ?_⟩) hS ?_; rotate_left; (intro w hSw; (try dsimp only at hSw); go_simp); try (with_reducible rfl))
              try simp only [Act.put, List.setIfInBounds_toArray, List.set_cons_zero, List.set_cons_succ]
              (refine RegH.tkH (i := 8) (d := 86) (oi := ⟨_, _, _, _, _, _⟩) (v := ?_) rfl rfl (by kernel_rfl) (by kernel_rfl) (by kernel_rfl) (fun _ _ _ h => h) (Or.inl ⟨by rfl, ?_⟩) hS ?_; rotate_left; (intro w hSw; (try dsimp only at hSw); go_simp); try (with_reducible rfl))
              try simp only [Act.put, List.setIfInBounds_toArray, List.set_cons_zero, List.set_cons_succ]
              (refine RegH.tkH (i := 9) (d := 87) (oi := ⟨_, _, _, _, _, _⟩) (v := ?_) rfl rfl (by kernel_rfl) (by kernel_rfl) (by kernel_rfl) (fun _ _ _ h => h) (Or.inl ⟨by rfl, ?_⟩) hS ?_; rotate_left; (intro w hSw; (try dsimp only at hSw); go_simp); try (with_reducible rfl))
              try simp only [Act.put, List.setIfInBounds_toArray, List.set_cons_zero, List.set_cons_succ]
              (refine RegH.tkH (i := 10) (d := 88) (oi := ⟨_, _, _, _, _, _⟩) (v := ?_) rfl rfl (by kernel_rfl) (by kernel_rfl) (by kernel_rfl) (fun _ _ _ h => h) (Or.inl ⟨by rfl, ?_⟩) hS ?_; rotate_left; (intro w hSw; (try dsimp only at hSw); go_simp); try (with_reducible rfl))
              try simp only [Act.put, List.setIfInBounds_toArray, List.set_cons_zero, List.set_cons_succ]
              (refine RegH.tkH (i := 11) (d := 89) (oi := ⟨_, _, _, _, _, _⟩) (v := ?_) rfl rfl (by kernel_rfl) (by kernel_rfl) (by kernel_rfl) (fun _ _ _ h => h) (Or.inl ⟨by rfl, ?_⟩) hS ?_; rotate_left; (intro w hSw; (try dsimp only at hSw); go_simp); try (with_reducible rfl))
              try simp only [Act.put, List.setIfInBounds_toArray, List.set_cons_zero, List.set_cons_succ]
              (refine RegH.tkH (i := 12) (d := 90) (oi := ⟨_, _, _, _, _, _⟩) (v := ?_) rfl rfl (by kernel_rfl) (by kernel_rfl) (by kernel_rfl) (fun _ _ _ h => h) (Or.inl ⟨by rfl, ?_⟩) hS ?_; rotate_left; (intro w hSw; (try dsimp only at hSw); go_simp); try (with_reducible rfl))
              try simp only [Act.put, List.setIfInBounds_toArray, List.set_cons_zero, List.set_cons_succ]
              (refine RegH.tkH (i := 14) (d := 92) (oi := ⟨_, _, _, _, _, _⟩) (v := ?_) rfl rfl (by kernel_rfl) (by kernel_rfl) (by kernel_rfl) (fun _ _ _ h => h) (Or.inl ⟨by rfl, ?_⟩) hS ?_; rotate_left; (intro w hSw; (try dsimp only at hSw); go_simp); try (with_reducible rfl))
              try simp only [Act.put, List.setIfInBounds_toArray, List.set_cons_zero, List.set_cons_succ]
              (refine RegH.tkH (i := 15) (d := 93) (oi := ⟨_, _, _, _, _, _⟩) (v := ?_) rfl rfl (by kernel_rfl) (by kernel_rfl) (by kernel_rfl) (fun _ _ _ h => h) (Or.inl ⟨by rfl, ?_⟩) hS ?_; rotate_left; (intro w hSw; (try dsimp only at hSw); go_simp); try (with_reducible rfl))
              try simp only [Act.put, List.setIfInBounds_toArray, List.set_cons_zero, List.set_cons_succ]
              (refine RegH.tkH (i := 16) (d := 94) (oi := ⟨_, _, _, _, _, _⟩) (v := ?_) rfl rfl (by kernel_rfl) (by kernel_rfl) (by kernel_rfl) (fun _ _ _ h => h) (Or.inl ⟨by rfl, ?_⟩) hS ?_; rotate_left; (intro w hSw; (try dsimp only at hSw); go_simp); try (with_reducible rfl))
              try simp only [Act.put, List.setIfInBounds_toArray, List.set_cons_zero, List.set_cons_succ]
              refine RegH.twoH (i := 13) (j := 17) (o := ⟨_, _, _, _, _, _⟩) (o' := ⟨_, _, _, _, _, _⟩) (by kernel_rfl) rfl rfl (fun K hK => ?_) (fun K hK => ?_)
              · go_simp
                refine hK.out _ _ (HSS.out _ (below_alloc (below_drew1 (Below.refl _ _)) _)) (fun hS => ?_)
                clear hK K
                try simp only [Act.put, List.setIfInBounds_toArray, List.set_cons_zero, List.set_cons_succ]
                refine RegH.oneH (i := 17) (o := ⟨_, _, _, _, _, _⟩) (by kernel_rfl) rfl (fun K hK => ?_)
                go_simp
                refine hK.out _ _ (HSS.out _ (below_alloc (below_drew1 (Below.refl _ _)) _)) (fun hS => ?_)
                clear hK K
                try simp only [Act.put, List.setIfInBounds_toArray, List.set_cons_zero, List.set_cons_succ]
                refine RegH.oneH (i := 18) (o := ⟨_, _, _, _, _, _⟩) (by kernel_rfl) rfl (fun K hK => ?_)
                refine Kd.R_append_rows_step kH (w0 := w0) w0.heap.size (by rfl) (.tmp 91) (.tmp 95) 28 30 (.agg #[.int .i64 0, .int .i64 0]) 16 rfl Try.underlying28 PArenaActs.info30 rfl (by decide) (by decide) (.slice (some ⟨w5.drew.heap.size, 0, none⟩) 1 1) [⟨x, y + 1⟩] F Af F.length cf (fun q => w5.heap.size ≤ q) (fun _ => False) rfl rfl (R_one _ ⟨x, y + 1⟩ _ _ (HB5.out.size) (Nat.le_refl _)) (Kd.C_below (Kd.R_reads' HRF5.out).2.2 (below_alloc (below_drew1 (Below.refl w5.heap.size w5)) _)) (fun _ _ h => h) (fun _ h => h.elim) (fun q hq => Nat.le_trans (Nat.le_of_lt (Nat.lt_succ_self _)) (by simpa using hq)) (ins1 (below_drew1 HB5.out) HB5.out.size _) ((ins1 (below_drew1 HB5.out) HB5.out.size _).size) (by have h1 := HLF.out; have h2 := HFL.out; simp; omega) ?_
                intro v6 w6 hr6 hb6 hg6 _
                have h56 : Below w5.heap.size w5 w6 := (below_alloc (below_drew1 (Below.refl w5.heap.size w5)) _).grown hg6 (by simp) (fun k e => Nat.le_of_eq (show w5.heap.size = k by simpa [Value.ownBlock] using e))
                obtain ⟨F2, hF2⟩ : ∃ F2, F2 = [(⟨x, y + 1⟩ : H)] ++ F := ⟨_, rfl⟩
                rw [← hF2] at hr6
                obtain ⟨A6, c6, hv⟩ := Kd.R_slice hr6
                subst hv
                have hb6k := blk_below HBK5.out h56
                have hd0 := cellE0 hb6k
                have hf0 := blk_frozen hb6k 0
                have HBK6 := Aside0.mk hb6k
                have HR6 := Aside0.mk (Kd.R_mono (ok' := fun q => w5.heap.size ≤ q ∧ q < w6.heap.size) (Kd.R_bound hr6) (fun q h => ⟨h.1, h.2.2.1⟩))
                have HRL6 := Aside0.mk (Kd.R_below HRL5.out h56)
                have HB6 := Aside0.mk hb6
                have HK6 := Aside0.mk (HK5.out.below h56)
                have HF2 := Aside0.mk hF2
                have HS6 := Aside0.mk h56.size
                have hS6 := HSS.out w6 h56
                have hS7 : ∀ v, (w6.setCell ⟨r, 0, none⟩ v).cell? (ad.add (k * 2)) = some (.int .i64 x) ∧ (w6.setCell ⟨r, 0, none⟩ v).cell? ⟨(ad.add (k * 2)).block, (ad.add (k * 2)).off + 1, none⟩ = some (.int .i64 y) := fun v => by
                  obtain ⟨ad4, e4, g0, g1⟩ := PArenaActs.at_T30 (HA.out _ (HK6.out.setCell (p := ⟨r, 0, none⟩) (HOKK.out r HRR.out.2) v)) (k : Int) (by omega) (by omega)
                  rw [hd_nat hs k hlt, Int.toNat_natCast, ← HZ.out] at g0 g1
                  cases e4
                  exact ⟨g0, g1⟩
                have HS7 := Aside0.mk hS7
                have HS6b := Aside0.mk hS6
                clear hr6 hb6 hg6 h56 hb6k hF2 hcr0 hcr0' hcr1 hcr1' hS6 hS7
                refine hK.out (Act.put _ (some 96) _) _ (HS6b.out) (fun hS => ?_)
                clear hK K
                try simp only [Act.put, List.setIfInBounds_toArray, List.set_cons_zero, List.set_cons_succ]
                (refine RegH.tkH (i := 19) (d := 97) (oi := ⟨_, _, _, _, _, _⟩) (v := ?_) rfl rfl (by kernel_rfl) (by kernel_rfl) (by kernel_rfl) (fun _ _ _ h => h) (Or.inl ⟨by rfl, ?_⟩) hS ?_; rotate_left; (intro w hSw; (try dsimp only at hSw); go_simp); try (with_reducible rfl))
                try simp only [Act.put, List.setIfInBounds_toArray, List.set_cons_zero, List.set_cons_succ]
                (refine RegH.tkH (i := 20) (d := 98) (oi := ⟨_, _, _, _, _, _⟩) (v := ?_) rfl rfl (by kernel_rfl) (by kernel_rfl) (by kernel_rfl) (fun _ _ _ h => h) (Or.inl ⟨by rfl, ?_⟩) hS ?_; rotate_left; (intro w hSw; (try dsimp only at hSw); go_simp); try (with_reducible rfl))
                try simp only [Act.put, List.setIfInBounds_toArray, List.set_cons_zero, List.set_cons_succ]
                refine RegH.oneH (i := 21) (o := ⟨_, _, _, _, _, _⟩) (by kernel_rfl) rfl (fun K hK => ?_)
                go_simp
                refine hK.out _ _ (HS7.out _) (fun hS => ?_)
                clear hK K
                try simp only [Act.put, List.setIfInBounds_toArray, List.set_cons_zero, List.set_cons_succ]
                refine wpAnyH_done (by kernel_rfl) ?_ _
                go_wp2
                go_roundg (hs.length - (k + 1))
                case measure => have := HQ.out; omega
                case rel =>
                  have hrr := HRR.out
                  have h5 := HS5.out
                  have h6 := HS6.out
                  refine ⟨k + 1, fun q => okk q ∨ (wo.heap.size ≤ q ∧ q < w6.heap.size), by go_num, ⟨by have := HQ.out; omega⟩, by omega, ⟨?_⟩, ⟨fun q h => h.elim (HOKK.out q) (fun h => .inr (Nat.le_trans HWO.out h.1))⟩, ⟨below_set (j := 0) HB6.out hrr.1⟩, ⟨HK6.out.setCell (p := ⟨r, 0, none⟩) (HOKK.out r hrr.2) _⟩⟩
                  rw [HSUC.out]
                  show IsE _ _ _ _ (⟨x, y + 1⟩ :: F) (T.filter (fun a => !(eqH a ⟨x, y⟩)))
                  have e : ∀ p v, (w6.setCell p v).heap.size = w6.heap.size := fun p v => by simp
                  have hf := HR6.out
                  have hl_ := HRL6.out
                  rw [HLE5.out] at hl_
                  have hb := HBK6.out
                  rw [HLE5.out] at hb
                  have hF : F2 = ⟨x, y + 1⟩ :: F := HF2.out
                  rw [hF] at hf ⊢
                  exact ⟨A6, c6, Al, cl_, fun q => w5.heap.size ≤ q ∧ q < w6.heap.size, fun q => wo.heap.size ≤ q ∧ q < w5.heap.size, blk_set hb 0 _, fun q h => by rw [e]; exact h.elim (fun h => by have := HL.out q h; omega) (fun h => h.2), ⟨hrr.1, .inl hrr.2⟩, fun q h => ⟨.inr ⟨by omega, h.2⟩, by omega, fun h2 => by omega⟩, fun q h => ⟨.inr ⟨h.1, by omega⟩, by omega⟩, Kd.R_far hf (p := ⟨r, 0, none⟩) (fun q hq => by show q ≠ r; omega) _, Kd.R_far hl_ (p := ⟨r, 0, none⟩) (fun q hq => by show q ≠ r; omega) _⟩
              · go_simp
                refine hK.out _ _ (HSS.out _ (below_drew1 (Below.refl _ _))) (fun hS => ?_)
                clear hK K
                try simp only [Act.put, List.setIfInBounds_toArray, List.set_cons_zero, List.set_cons_succ]
                refine RegH.oneH (i := 13) (o := ⟨_, _, _, _, _, _⟩) (by kernel_rfl) rfl (fun K hK => ?_)
                go_simp
                refine hK.out _ _ (HSS.out _ (below_alloc (below_drew1 (Below.refl _ _)) _)) (fun hS => ?_)
                clear hK K
                try simp only [Act.put, List.setIfInBounds_toArray, List.set_cons_zero, List.set_cons_succ]
                refine RegH.oneH (i := 18) (o := ⟨_, _, _, _, _, _⟩) (by kernel_rfl) rfl (fun K hK => ?_)
                refine Kd.R_append_rows_step kH (w0 := w0) w0.heap.size (by rfl) (.tmp 91) (.tmp 95) 28 30 (.agg #[.int .i64 0, .int .i64 0]) 16 rfl Try.underlying28 PArenaActs.info30 rfl (by decide) (by decide) (.slice (some ⟨w5.drew.heap.size, 0, none⟩) 1 1) [⟨x, y + 1⟩] F Af F.length cf (fun q => w5.heap.size ≤ q) (fun _ => False) rfl rfl (R_one _ ⟨x, y + 1⟩ _ _ (HB5.out.size) (Nat.le_refl _)) (Kd.C_below (Kd.R_reads' HRF5.out).2.2 (below_alloc (below_drew1 (Below.refl w5.heap.size w5)) _)) (fun _ _ h => h) (fun _ h => h.elim) (fun q hq => Nat.le_trans (Nat.le_of_lt (Nat.lt_succ_self _)) (by simpa using hq)) (ins1 (below_drew1 HB5.out) HB5.out.size _) ((ins1 (below_drew1 HB5.out) HB5.out.size _).size) (by have h1 := HLF.out; have h2 := HFL.out; simp; omega) ?_
                intro v6 w6 hr6 hb6 hg6 _
                have h56 : Below w5.heap.size w5 w6 := (below_alloc (below_drew1 (Below.refl w5.heap.size w5)) _).grown hg6 (by simp) (fun k e => Nat.le_of_eq (show w5.heap.size = k by simpa [Value.ownBlock] using e))
                obtain ⟨F2, hF2⟩ : ∃ F2, F2 = [(⟨x, y + 1⟩ : H)] ++ F := ⟨_, rfl⟩
                rw [← hF2] at hr6
                obtain ⟨A6, c6, hv⟩ := Kd.R_slice hr6
                subst hv
                have hb6k := blk_below HBK5.out h56
                have hd0 := cellE0 hb6k
                have hf0 := blk_frozen hb6k 0
                have HBK6 := Aside0.mk hb6k
                have HR6 := Aside0.mk (Kd.R_mono (ok' := fun q => w5.heap.size ≤ q ∧ q < w6.heap.size) (Kd.R_bound hr6) (fun q h => ⟨h.1, h.2.2.1⟩))
                have HRL6 := Aside0.mk (Kd.R_below HRL5.out h56)
                have HB6 := Aside0.mk hb6
                have HK6 := Aside0.mk (HK5.out.below h56)
                have HF2 := Aside0.mk hF2
                have HS6 := Aside0.mk h56.size
                have hS6 := HSS.out w6 h56
                have hS7 : ∀ v, (w6.setCell ⟨r, 0, none⟩ v).cell? (ad.add (k * 2)) = some (.int .i64 x) ∧ (w6.setCell ⟨r, 0, none⟩ v).cell? ⟨(ad.add (k * 2)).block, (ad.add (k * 2)).off + 1, none⟩ = some (.int .i64 y) := fun v => by
                  obtain ⟨ad4, e4, g0, g1⟩ := PArenaActs.at_T30 (HA.out _ (HK6.out.setCell (p := ⟨r, 0, none⟩) (HOKK.out r HRR.out.2) v)) (k : Int) (by omega) (by omega)
                  rw [hd_nat hs k hlt, Int.toNat_natCast, ← HZ.out] at g0 g1
                  cases e4
                  exact ⟨g0, g1⟩
                have HS7 := Aside0.mk hS7
                have HS6b := Aside0.mk hS6
                clear hr6 hb6 hg6 h56 hb6k hF2 hcr0 hcr0' hcr1 hcr1' hS6 hS7
                refine hK.out (Act.put _ (some 96) _) _ (HS6b.out) (fun hS => ?_)
                clear hK K
                try simp only [Act.put, List.setIfInBounds_toArray, List.set_cons_zero, List.set_cons_succ]
                (refine RegH.tkH (i := 19) (d := 97) (oi := ⟨_, _, _, _, _, _⟩) (v := ?_) rfl rfl (by kernel_rfl) (by kernel_rfl) (by kernel_rfl) (fun _ _ _ h => h) (Or.inl ⟨by rfl, ?_⟩) hS ?_; rotate_left; (intro w hSw; (try dsimp only at hSw); go_simp); try (with_reducible rfl))
                try simp only [Act.put, List.setIfInBounds_toArray, List.set_cons_zero, List.set_cons_succ]
                (refine RegH.tkH (i := 20) (d := 98) (oi := ⟨_, _, _, _, _, _⟩) (v := ?_) rfl rfl (by kernel_rfl) (by kernel_rfl) (by kernel_rfl) (fun _ _ _ h => h) (Or.inl ⟨by rfl, ?_⟩) hS ?_; rotate_left; (intro w hSw; (try dsimp only at hSw); go_simp); try (with_reducible rfl))
                try simp only [Act.put, List.setIfInBounds_toArray, List.set_cons_zero, List.set_cons_succ]
                refine RegH.oneH (i := 21) (o := ⟨_, _, _, _, _, _⟩) (by kernel_rfl) rfl (fun K hK => ?_)
                go_simp
                refine hK.out _ _ (HS7.out _) (fun hS => ?_)
                clear hK K
                try simp only [Act.put, List.setIfInBounds_toArray, List.set_cons_zero, List.set_cons_succ]
                refine wpAnyH_done (by kernel_rfl) ?_ _
                go_wp2
                go_roundg (hs.length - (k + 1))
                case measure => have := HQ.out; omega
                case rel =>
                  have hrr := HRR.out
                  have h5 := HS5.out
                  have h6 := HS6.out
                  refine ⟨k + 1, fun q => okk q ∨ (wo.heap.size ≤ q ∧ q < w6.heap.size), by go_num, ⟨by have := HQ.out; omega⟩, by omega, ⟨?_⟩, ⟨fun q h => h.elim (HOKK.out q) (fun h => .inr (Nat.le_trans HWO.out h.1))⟩, ⟨below_set (j := 0) HB6.out hrr.1⟩, ⟨HK6.out.setCell (p := ⟨r, 0, none⟩) (HOKK.out r hrr.2) _⟩⟩
                  rw [HSUC.out]
                  show IsE _ _ _ _ (⟨x, y + 1⟩ :: F) (T.filter (fun a => !(eqH a ⟨x, y⟩)))
                  have e : ∀ p v, (w6.setCell p v).heap.size = w6.heap.size := fun p v => by simp
                  have hf := HR6.out
                  have hl_ := HRL6.out
                  rw [HLE5.out] at hl_
                  have hb := HBK6.out
                  rw [HLE5.out] at hb
                  have hF : F2 = ⟨x, y + 1⟩ :: F := HF2.out
                  rw [hF] at hf ⊢
                  exact ⟨A6, c6, Al, cl_, fun q => w5.heap.size ≤ q ∧ q < w6.heap.size, fun q => wo.heap.size ≤ q ∧ q < w5.heap.size, blk_set hb 0 _, fun q h => by rw [e]; exact h.elim (fun h => by have := HL.out q h; omega) (fun h => h.2), ⟨hrr.1, .inl hrr.2⟩, fun q h => ⟨.inr ⟨by omega, h.2⟩, by omega, fun h2 => by omega⟩, fun q h => ⟨.inr ⟨h.1, by omega⟩, by omega⟩, Kd.R_far hf (p := ⟨r, 0, none⟩) (fun q hq => by show q ≠ r; omega) _, Kd.R_far hl_ (p := ⟨r, 0, none⟩) (fun q hq => by show q ≠ r; omega) _⟩
        · have hkk : k = hs.length := by omega
          subst hkk
          go_wp2
          go_ret
          exact ⟨okk, rfl, HI.out, HB1.out, HK1.out, HOKK.out⟩

end Go.Proofs.Ytlmeeafppigphaa.ARef4
