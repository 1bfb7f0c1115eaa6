/-
  The walk of the number of four bytes: of bytes that are four or more the call returns the number of the first four, the greatest first; it writes nothing. Conditions: the bytes can be read, and each is from 0 to 255.
-/
import Derived.Test.YtgonodfggiablaaMem
import Derived.Test.YtgonodfggiablaaCrc
namespace Go.Proofs.Ytgonodfggiablaa.Word
open Go.RowKit Go.Proofs.YtgonodfggiablaaW.PrintWords Go.Proofs.YtgonodfggiablaaW.PrintLast Go.Proofs.YtgonodfggiablaaW.PrintMore
set_option linter.unusedVariables false
set_option linter.unusedSimpArgs false
/-- The number of the first four bytes. -/
def word4 (l : List Int) : Int := rd l 0 * 16777216 + rd l 1 * 65536 + rd l 2 * 256 + rd l 3
theorem rd_byte {l : List Int} (h : Crc.IsBytes l) (i : Int) : 0 ≤ rd l i ∧ rd l i ≤ 255 := by
  unfold rd
  by_cases hi : i.toNat < l.length
  · rw [List.getD_eq_getElem?_getD, List.getElem?_eq_getElem hi]; exact h _ (List.getElem_mem hi)
  · rw [List.getD_eq_getElem?_getD, List.getElem?_eq_none (by omega)]; simp
theorem word4_range {l : List Int} (h : Crc.IsBytes l) : 0 ≤ word4 l ∧ word4 l ≤ 4294967295 := by
  have a := rd_byte h 0
  have b := rd_byte h 1
  have c := rd_byte h 2
  have d := rd_byte h 3
  unfold word4
  omega
theorem join (a b c d : Int) (ha : 0 ≤ a ∧ a ≤ 255) (hb : 0 ≤ b ∧ b ≤ 255) (hc : 0 ≤ c ∧ c ≤ 255) (hd : 0 ≤ d ∧ d ≤ 255) :
    Go.bits .or .u32 (Go.bits .or .u32 (Go.bits .or .u32 ((a % 4294967296 * 16777216) % 4294967296) ((b % 4294967296 * 65536) % 4294967296)) ((c % 4294967296 * 256) % 4294967296)) (d % 4294967296) = a * 16777216 + b * 65536 + c * 256 + d := by
  have e1 : (a % 4294967296 * 16777216) % 4294967296 = ((a.toNat * 16777216 : Nat) : Int) := by omega
  have e2 : (b % 4294967296 * 65536) % 4294967296 = ((b.toNat * 65536 : Nat) : Int) := by omega
  have e3 : (c % 4294967296 * 256) % 4294967296 = ((c.toNat * 256 : Nat) : Int) := by omega
  have e4 : d % 4294967296 = ((d.toNat : Nat) : Int) := by omega
  have p24 : (2 : Nat) ^ 24 = 16777216 := rfl
  have p16 : (2 : Nat) ^ 16 = 65536 := rfl
  have p8 : (2 : Nat) ^ 8 = 256 := rfl
  rw [e1, e2, e3, e4, u32_or_nat _ _ (by omega) (by omega), nat_join 24 _ _ (by omega) (by omega), u32_or_nat _ _ (by omega) (by omega), nat_join 16 _ _ (by omega) (by omega), u32_or_nat _ _ (by omega) (by omega), nat_join 8 _ _ (by omega) (by omega)]
  omega

set_option maxHeartbeats 4000000 in
set_option maxRecDepth 100000 in
theorem calls (A0 : Option Addr) (c0 : Nat) (l0 : List Int) (w : World) (hr0 : Kd.C (Kd.int .u8) w A0 l0.length l0) (hb : Crc.IsBytes l0) (h4 : 4 ≤ l0.length) :
    Calls Try.prog 21 #[.slice A0 l0.length c0] w fun e w' => e = .returned (.int .u32 (word4 l0)) ∧ Drawn0 w w' := by
  have HV := Aside0.mk (join (rd l0 0) (rd l0 1) (rd l0 2) (rd l0 3) (rd_byte hb 0) (rd_byte hb 1) (rd_byte hb 2) (rd_byte hb 3))
  have HR0 := Aside0.mk hr0
  clear hr0
  have p0 : 0 ≤ (0 : Int) := by omega
  have q0 : 0 < (l0.length : Int) := by omega
  obtain ⟨ad0, e0, hx0⟩ := Kd.at_int HR0.out 0 p0 q0
  cases e0
  have i0 : (0 < l0.length) = True := eq_true (by omega)
  rw [show ((0 : Int)).toNat = 0 from rfl, Addr.add_zero'] at hx0
  replace p0 := eq_true p0
  replace q0 := eq_true q0
  have p1 : 0 ≤ (1 : Int) := by omega
  have q1 : 1 < (l0.length : Int) := by omega
  obtain ⟨ad1, e1, hx1⟩ := Kd.at_int HR0.out 1 p1 q1
  obtain rfl : ad0 = ad1 := by injection e1
  simp only [show (1 : Int).toNat = 1 from rfl, Nat.reduceEqDiff, Go.Addr.add, ↓reduceIte] at hx1
  have i1 : (1 < l0.length) = True := eq_true (by omega)
  replace p1 := eq_true p1
  replace q1 := eq_true q1
  have p2 : 0 ≤ (2 : Int) := by omega
  have q2 : 2 < (l0.length : Int) := by omega
  obtain ⟨ad2, e2, hx2⟩ := Kd.at_int HR0.out 2 p2 q2
  obtain rfl : ad0 = ad2 := by injection e2
  simp only [show (2 : Int).toNat = 2 from rfl, Nat.reduceEqDiff, Go.Addr.add, ↓reduceIte] at hx2
  have i2 : (2 < l0.length) = True := eq_true (by omega)
  replace p2 := eq_true p2
  replace q2 := eq_true q2
  have p3 : 0 ≤ (3 : Int) := by omega
  have q3 : 3 < (l0.length : Int) := by omega
  obtain ⟨ad3, e3, hx3⟩ := Kd.at_int HR0.out 3 p3 q3
  obtain rfl : ad0 = ad3 := by injection e3
  simp only [show (3 : Int).toNat = 3 from rfl, Nat.reduceEqDiff, Go.Addr.add, ↓reduceIte] at hx3
  have i3 : (3 < l0.length) = True := eq_true (by omega)
  replace p3 := eq_true p3
  replace q3 := eq_true q3
  clear h4
  go_enter Try.func21, Try.ntmps21
  go_wp2
  repeat (go_quiet (fail); try go_wp2)
  go_ret
  exact ⟨by unfold word4; rw [← HV.out]; rfl, by repeat (first | exact Drawn0.refl _ | apply Drawn0.step)⟩
end Go.Proofs.Ytgonodfggiablaa.Word
