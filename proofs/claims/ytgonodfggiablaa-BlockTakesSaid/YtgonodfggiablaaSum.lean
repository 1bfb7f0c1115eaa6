/-
  The check sum's walk: for every list of pieces of bytes the call returns the register that the pieces, one behind the other, leave in the table's way; it writes nothing that was there; its condition is that the pieces can be read.
-/
import Derived.Test.YtgonodfggiablaaProg
import Derived.Below
import Derived.Deep.Draws
import Derived.Deep.AppendLies
import Derived.Maps.AppendAt
import Derived.OwnWalk
import Derived.Laws.BytesArg
import Derived.Laws.MakeOwn
import Derived.Laws.OwnMore
import Derived.Deep.OwnRows
import Derived.Tactics
import Derived.Lib.ConvBytes
import Derived.Laws.Slices
import Derived.WalkKit
import Derived.KernelRfl
import Derived.RowKit3
import Derived.Deep.LoopGhost
import Derived.Deep.QuietTactic
import Derived.BigQuiet
import Derived.WideLaws
import Derived.Deep.DeepCutAuto
import Derived.Deep.CutBlock
import Derived.Deep.RegionHeld3
import Derived.Laws.Rows
import Derived.Lib.AppendStr
import Derived.ArgAppend
import Derived.Laws.IdiomCopy
import Derived.OrdersHeld
import Derived.Laws.BitsLemmas
import Derived.RowKit
import Derived.Test.YtgonodfggiablaaWWords
import Derived.Test.YtgonodfggiablaaWLast
import Derived.Test.YtgonodfggiablaaWTab
import Derived.Test.YtgonodfggiablaaWFour
import Derived.Test.YtgonodfggiablaaWQPut
import Derived.Test.YtgonodfggiablaaWApart
import Derived.Test.YtgonodfggiablaaWArr
import Derived.Test.YtgonodfggiablaaWZeros
import Derived.Test.YtgonodfggiablaaWFoot
import Derived.Test.YtgonodfggiablaaWKept
import Derived.Test.YtgonodfggiablaaWShare
import Derived.Test.YtgonodfggiablaaWN
import Derived.Test.YtgonodfggiablaaWFootNe
import Derived.Test.YtgonodfggiablaaWAt
import Derived.Test.YtgonodfggiablaaWEqStruct
import Derived.Test.YtgonodfggiablaaWRepsOne
import Derived.Test.YtgonodfggiablaaWInv
import Derived.Test.YtgonodfggiablaaWInvWords
import Derived.Test.YtgonodfggiablaaWGuard
import Derived.Test.YtgonodfggiablaaWNEv
import Derived.Test.YtgonodfggiablaaWMore
namespace Go.Proofs.Ytgonodfggiablaa.Sum
open Go.RowKit Go.Proofs.YtgonodfggiablaaW.PrintWords Go.Proofs.YtgonodfggiablaaW.PrintLast Go.Proofs.YtgonodfggiablaaW.PrintMore
set_option linter.unusedVariables false
set_option linter.unusedSimpArgs false

/-- The table. -/
def tabL : List Int := [0, 498536548, 997073096, 651767980, 1994146192, 1802195444, 1303535960, 1342533948, 3988292384, 4027552580, 3604390888, 3412177804, 2607071920, 2262029012, 2685067896, 3183342108]
def tab (j : Nat) : Int := tabL.getD j 0
/-- What a byte does to the register. -/
def half (s x : Int) : Int := Go.bits .xor .u32 (tab (Go.bits .and .u32 (Go.bits .xor .u32 s x) 15).toNat) (s / 16)
def step (s x : Int) : Int := half (half s (x % 4294967296)) (x % 4294967296 / 16)
def run (s : Int) (b : List Int) : Int := b.foldl step s
def runs (s : Int) (bs : List (List Int)) : Int := bs.foldl run s
theorem run_snoc (s : Int) (b : List Int) (k : Nat) (h : k < b.length) : run s (b.take (k + 1)) = step (run s (b.take k)) b[k] := by
  unfold run; rw [List.take_succ_eq_append_getElem h, List.foldl_append]; rfl
theorem runs_snoc (s : Int) (b : List (List Int)) (k : Nat) (h : k < b.length) : runs s (b.take (k + 1)) = run (runs s (b.take k)) b[k] := by
  unfold runs; rw [List.take_succ_eq_append_getElem h, List.foldl_append]; rfl
theorem and15 (a : Int) : ∃ j : Nat, j < 16 ∧ Go.bits .and .u32 a 15 = (j : Int) := by
  refine ⟨(BitVec.ofInt 32 a &&& BitVec.ofInt 32 15).toNat, ?_, ?_⟩
  · have h : (BitVec.ofInt 32 15).toNat = 15 := by decide
    rw [BitVec.toNat_and, h]
    have := @Nat.and_le_right (BitVec.ofInt 32 a).toNat 15
    omega
  · have h : (BitVec.ofInt 32 15).toNat = 15 := by decide
    have h2 : (BitVec.ofInt 32 a &&& BitVec.ofInt 32 15).toNat ≤ 15 := by rw [BitVec.toNat_and, h]; exact Nat.and_le_right
    show IntKind.u32.wrap ((BitVec.ofInt 32 a &&& BitVec.ofInt 32 15).toNat : Int) = _
    rw [IntKind.wrap_u32]
    omega
theorem rd_at (l : List Int) (i : Nat) (h : i < l.length) : rd l (i : Int) = l[i] := by simp [rd, h]
def Tab (w : World) (b : Nat) : Prop := ∀ j, j < 16 → w.cell? ⟨b, j, none⟩ = some (.int .u32 (tab j))
theorem tab_now (w : World) : Tab (w.alloc (.cells #[.int .u32 0, .int .u32 498536548, .int .u32 997073096, .int .u32 651767980, .int .u32 1994146192, .int .u32 1802195444, .int .u32 1303535960, .int .u32 1342533948, .int .u32 3988292384,
    .int .u32 4027552580, .int .u32 3604390888, .int .u32 3412177804, .int .u32 2607071920, .int .u32 2262029012, .int .u32 2685067896, .int .u32 3183342108] 48)) w.heap.size := by
  intro j hj
  have : j = 0 ∨ j = 1 ∨ j = 2 ∨ j = 3 ∨ j = 4 ∨ j = 5 ∨ j = 6 ∨ j = 7 ∨ j = 8 ∨ j = 9 ∨ j = 10 ∨ j = 11 ∨ j = 12 ∨ j = 13 ∨ j = 14 ∨ j = 15 := by omega
  rcases this with rfl | rfl | rfl | rfl | rfl | rfl | rfl | rfl | rfl | rfl | rfl | rfl | rfl | rfl | rfl | rfl <;> simp [World.cell?_alloc_at, tab, tabL]

def pieceAt (xs : List (List Int)) (i : Int) : List Int := xs.getD i.toNat ([] : List Int)
theorem at_piece {w : World} {A : Option Addr} {n : Nat} {xs : List (List Int)} (h : Kd.C (Kd.slice 5 (Kd.int .u8)) w A n xs) (i : Int) (h0 : 0 ≤ i) (h1 : i < n) :
    ∃ ad A0 c0, A = some ad ∧ w.cell? (ad.add i.toNat) = some (.slice A0 (pieceAt xs i).length c0) ∧ (pieceAt xs i).length ≤ c0 ∧ (Kd.int .u8).C w A0 (pieceAt xs i).length (pieceAt xs i) := by
  obtain ⟨ad, c, e, _, hK, hc0⟩ := Kd.C_get h ([] : List Int) i h0 h1
  have hc : ∀ j u, c[j]? = some u → w.cell? (ad.add (i.toNat * 1 + j)) = some u := hc0
  obtain ⟨A0, c0, rfl, l0, g0⟩ := hK
  exact ⟨ad, A0, c0, e, by have hq := hc 0 _ rfl; rwa [Nat.mul_one, Nat.add_zero] at hq, l0, g0⟩
/-- What is returned. -/
def all (l : List (List Int)) : Int := Go.bits .xor .u32 IntKind.u32.max (runs 4294967295 l)

set_option maxHeartbeats 4000000 in
set_option maxRecDepth 100000 in
theorem calls (A0 : Option Addr) (c0 : Nat) (l0 : List (List Int)) (w : World) (hr0 : Kd.C (Kd.slice 5 (Kd.int .u8)) w A0 l0.length l0) (hc0 : l0.length ≤ c0) (hm : l0.length ≤ 4611686018427387904) (hm2 : ∀ b ∈ l0, b.length ≤ 4611686018427387904) :
    Calls Try.prog 9 #[.slice A0 l0.length c0] w fun e w' => e = .returned (.int .u32 (all l0)) ∧ Below w.heap.size w w' := by
  have HR0 := Aside0.mk hr0
  have HM2 := Aside0.mk hm2
  clear hr0 hm2
  have HT := Aside0.mk (tab_now w)
  have HB := Aside0.mk ((Below.refl w.heap.size w).alloc (Nat.le_refl _) (.cells #[.int .u32 0, .int .u32 498536548, .int .u32 997073096, .int .u32 651767980, .int .u32 1994146192, .int .u32 1802195444, .int .u32 1303535960, .int .u32 1342533948, .int .u32 3988292384,
    .int .u32 4027552580, .int .u32 3604390888, .int .u32 3412177804, .int .u32 2607071920, .int .u32 2262029012, .int .u32 2685067896, .int .u32 3183342108] 48))
  go_enter Try.func9, Try.ntmps9
  go_wp2
  go_loopg [4, 12] (l0.length) (fun kq v4 v12 wr => ∃ (k : Nat) (S : Int), v4 = .int .u32 S ∧ v12 = .int .i64 k ∧ Aside0 (k + kq = l0.length) ∧ k ≤ l0.length ∧ Aside0 (S = runs 4294967295 (l0.take k)) ∧ Aside0 (Tab wr w.heap.size) ∧ Aside0 (Below w.heap.size w wr))
  case atStart => exact ⟨0, 4294967295, rfl, rfl, ⟨by omega⟩, Nat.zero_le _, ⟨by simp [runs]⟩, HT, HB⟩
  case round =>
    clear HT HB
    obtain ⟨k, S, rfl, rfl, HK, hk, HS, HT, HB⟩ := hrel
    by_cases hlt : k < l0.length
    · obtain ⟨ad, A1, c1, e1, hx, hl1, hC⟩ := at_piece (Kd.C_below HR0.out HB.out) (k : Int) (by omega) (by omega)
      obtain ⟨b, hb⟩ : ∃ b, b = pieceAt l0 (k : Int) := ⟨_, rfl⟩
      rw [← hb] at hx hl1 hC
      rw [Int.toNat_natCast] at hx
      have hbl : b.length ≤ 4611686018427387904 := HM2.out b (by rw [hb]; simp [pieceAt, hlt])
      have Hb := Aside0.mk hb
      clear hb
      have HC := Aside0.mk hC
      clear hC
      cases e1
      go_wp2
      obtain ⟨wo, hwo⟩ : ∃ wo : World, wo = wr := ⟨_, rfl⟩
      subst hwo
      go_loopg [4, 18] (b.length) (fun kq v4 v18 wr => ∃ (j : Nat) (R : Int), v4 = .int .u32 R ∧ v18 = .int .i64 j ∧ Aside0 (j + kq = b.length) ∧ j ≤ b.length ∧ Aside0 (R = run S (b.take j)) ∧ Aside0 (wr = wo))
      case atStart => exact ⟨0, S, rfl, rfl, ⟨by omega⟩, Nat.zero_le _, ⟨by simp [run]⟩, ⟨rfl⟩⟩
      case round =>
        obtain ⟨j, R, rfl, rfl, HJ, hj, HR, HW⟩ := hrel
        have hw := HW.out
        subst hw
        clear HW
        by_cases hlj : j < b.length
        · obtain ⟨ad2, e2, hy⟩ := Kd.at_int HC.out (j : Int) (by omega) (by omega)
          rw [Int.toNat_natCast, rd_at b j hlj] at hy
          obtain ⟨x, hx1⟩ : ∃ x, x = b[j] := ⟨_, rfl⟩
          rw [← hx1] at hy
          have HX := Aside0.mk hx1
          clear hx1
          cases e2
          obtain ⟨i1, hi1, e1⟩ := and15 (Go.bits .xor .u32 R (x % 4294967296))
          have t1 := HT.out i1 hi1
          obtain ⟨R1, f1⟩ : ∃ R1, Go.bits .xor .u32 (tab i1) (R / 16) = R1 := ⟨_, rfl⟩
          obtain ⟨i2, hi2, e2⟩ := and15 (Go.bits .xor .u32 R1 (x % 4294967296 / 16))
          have t2 := HT.out i2 hi2
          obtain ⟨R2, f2⟩ : ∃ R2, Go.bits .xor .u32 (tab i2) (R1 / 16) = R2 := ⟨_, rfl⟩
          have HS2 := Aside0.mk (show step R x = R2 by
            unfold step half
            rw [e1, Int.toNat_natCast, f1, e2, Int.toNat_natCast, f2])
          go_wp2
          go_roundg (b.length - (j + 1))
          case measure => have := HJ.out; omega
          case rel => exact ⟨j + 1, R2, rfl, by go_num, ⟨by omega⟩, by omega, ⟨by rw [run_snoc S b j hlj, ← HX.out, ← HR.out, HS2.out]⟩, ⟨rfl⟩⟩
        · go_wp2
          go_roundg (l0.length - (k + 1))
          case measure => have := HK.out; omega
          case rel => exact ⟨k + 1, R, rfl, by go_num, ⟨by omega⟩, by omega, ⟨by rw [HR.out, List.take_of_length_le (by omega), runs_snoc _ l0 k hlt, HS.out, Hb.out]; simp [pieceAt, hlt]⟩, HT, HB⟩
    · go_wp2
      go_ret
      have hS := HS.out
      rw [List.take_of_length_le (by omega)] at hS
      exact ⟨by unfold all; rw [← hS]; rfl, HB.out⟩

end Go.Proofs.Ytgonodfggiablaa.Sum
