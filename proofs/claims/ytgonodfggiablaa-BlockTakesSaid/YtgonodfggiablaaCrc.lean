/-
  The check sum in plain numbers: the table's way by half bytes is the bitwise way; pieces one behind the other are one piece. Conditions: registers below 2^32, bytes from 0 to 255.
-/
import Derived.Test.YtgonodfggiablaaSum
import Derived.Laws.BitsAllLaws
namespace Go.Proofs.Ytgonodfggiablaa.Crc
open Go Go.Proofs.Ytgonodfggiablaa.Sum

/-- One bit of the register. -/
def bit (r : Nat) : Nat := if r % 2 = 1 then (r / 2) ^^^ 3988292384 else r / 2
def bit4 (r : Nat) : Nat := bit (bit (bit (bit r)))
def bit8 (r : Nat) : Nat := bit4 (bit4 r)
def tabN (j : Nat) : Nat := (tab j).toNat
def nib (s x : Nat) : Nat := tabN ((s ^^^ x) % 16) ^^^ (s / 16)
/-- The bitwise way. -/
def byte (s x : Nat) : Nat := bit8 (s ^^^ x)

theorem bit_xor (a b : Nat) : bit (a ^^^ b) = bit a ^^^ bit b := by
  unfold bit
  have h := @Nat.xor_mod_two_eq_one a b
  rw [Nat.xor_div_two]
  by_cases ha : a % 2 = 1 <;> by_cases hb : b % 2 = 1
  · rw [if_neg (by rw [h]; simp [ha, hb]), if_pos ha, if_pos hb]
    rw [Nat.xor_assoc, ← Nat.xor_assoc 3988292384, Nat.xor_comm 3988292384 (b / 2), Nat.xor_assoc (b / 2), Nat.xor_self, Nat.xor_zero]
  · rw [if_pos (by rw [h]; simp [ha, hb]), if_pos ha, if_neg hb]
    rw [Nat.xor_assoc, Nat.xor_assoc, Nat.xor_comm (b / 2)]
  · rw [if_pos (by rw [h]; simp [ha, hb]), if_neg ha, if_pos hb, Nat.xor_assoc]
  · rw [if_neg (by rw [h]; simp [ha, hb]), if_neg ha, if_neg hb]
theorem bit4_xor (a b : Nat) : bit4 (a ^^^ b) = bit4 a ^^^ bit4 b := by unfold bit4; rw [bit_xor, bit_xor, bit_xor, bit_xor]
theorem bit_even (q : Nat) : bit (2 * q) = q := by
  unfold bit
  rw [if_neg (by omega)]
  omega
theorem bit4_high (q : Nat) : bit4 (16 * q) = q := by
  unfold bit4
  rw [show 16 * q = 2 * (2 * (2 * (2 * q))) from by omega, bit_even, bit_even, bit_even, bit_even]
theorem bit4_low (j : Nat) (hj : j < 16) : bit4 j = tabN j := by
  have : ∀ j, j < 16 → bit4 j = tabN j := by decide
  exact this j hj
theorem split16 (r : Nat) : r = (16 * (r / 16)) ^^^ (r % 16) := by
  have h : (16 * (r / 16)) ||| (r % 16) = 16 * (r / 16) + r % 16 := nat_join 4 _ _ (by rw [show 2 ^ 4 = 16 from rfl]; omega) (by rw [show 2 ^ 4 = 16 from rfl]; omega)
  have g : (16 * (r / 16)) &&& (r % 16) = 0 := by
    apply Nat.eq_of_testBit_eq
    intro i
    rw [Nat.testBit_and, Nat.zero_testBit]
    by_cases hi : i < 4
    · have : (16 * (r / 16)).testBit i = false := by
        rw [show 16 * (r / 16) = 2 ^ 4 * (r / 16) from rfl, Nat.testBit_two_pow_mul]
        simp
        intro h4; omega
      rw [this, Bool.false_and]
    · have : (r % 16).testBit i = false := Nat.testBit_lt_two_pow (Nat.lt_of_lt_of_le (show r % 16 < 2 ^ 4 from by rw [show 2 ^ 4 = 16 from rfl]; omega) (Nat.pow_le_pow_right (by decide) (by omega)))
      rw [this, Bool.and_false]
  have e : (16 * (r / 16)) ^^^ (r % 16) = (16 * (r / 16)) ||| (r % 16) := by
    apply Nat.eq_of_testBit_eq
    intro i
    have gi := congrArg (fun z => Nat.testBit z i) g
    simp only [Nat.testBit_and, Nat.zero_testBit] at gi
    rw [Nat.testBit_xor, Nat.testBit_or]
    revert gi
    cases (16 * (r / 16)).testBit i <;> cases (r % 16).testBit i <;> decide
  rw [e, h]
  omega
theorem bit4_eq (r : Nat) : bit4 r = tabN (r % 16) ^^^ (r / 16) := by
  conv => lhs; rw [split16 r]
  rw [bit4_xor, bit4_high, bit4_low _ (by omega), Nat.xor_comm]
theorem xor_div16 (a b : Nat) : (a ^^^ b) / 16 = a / 16 ^^^ b / 16 := by
  have h : ∀ x : Nat, x / 16 = x / 2 / 2 / 2 / 2 := fun x => by omega
  rw [h, h a, h b, Nat.xor_div_two, Nat.xor_div_two, Nat.xor_div_two, Nat.xor_div_two]
/-- Two half bytes are one byte. -/
theorem nib_nib (s x : Nat) (hx : x < 256) : nib (nib s x) (x / 16) = byte s x := by
  have h1 : bit4 (s ^^^ x) = nib s x ^^^ (x / 16) := by
    rw [bit4_eq, xor_div16]
    unfold nib
    rw [Nat.xor_assoc]
  have h2 : bit4 (nib s x ^^^ (x / 16)) = nib (nib s x) (x / 16) := by
    rw [bit4_eq, xor_div16, show x / 16 / 16 = 0 from by omega, Nat.xor_zero]
    rfl
  unfold byte bit8
  rw [h1, h2]

theorem bit_lt (r : Nat) (h : r < 4294967296) : bit r < 4294967296 := by
  unfold bit
  split
  · exact Nat.xor_lt_two_pow (n := 32) (by rw [show 2 ^ 32 = 4294967296 from rfl]; omega) (by decide)
  · omega
theorem xor_lt {a b : Nat} (ha : a < 4294967296) (hb : b < 4294967296) : a ^^^ b < 4294967296 := Nat.xor_lt_two_pow (n := 32) ha hb
theorem byte_lt (s x : Nat) (hs : s < 4294967296) (hx : x < 4294967296) : byte s x < 4294967296 := by
  unfold byte bit8 bit4
  exact bit_lt _ (bit_lt _ (bit_lt _ (bit_lt _ (bit_lt _ (bit_lt _ (bit_lt _ (bit_lt _ (xor_lt hs hx))))))))
theorem tab_nat : ∀ j, j < 16 → tab j = (tabN j : Int) ∧ tabN j < 4294967296 := by decide
theorem half_nat (s x : Nat) (hs : s < 4294967296) (hx : x < 4294967296) : half (s : Int) (x : Int) = (nib s x : Int) ∧ nib s x < 4294967296 := by
  have hj : (s ^^^ x) % 16 < 16 := Nat.mod_lt _ (by decide)
  obtain ⟨t1, t2⟩ := tab_nat _ hj
  have e1 : bits .xor .u32 (s : Int) (x : Int) = ((s ^^^ x : Nat) : Int) := u32_xor_nat s x hs hx
  have e2 : bits .and .u32 ((s ^^^ x : Nat) : Int) 15 = (((s ^^^ x) &&& 15 : Nat) : Int) := u32_and_nat _ 15 (xor_lt hs hx) (by decide)
  unfold half nib
  rw [e1, e2, nat_mask4, Int.toNat_natCast, t1, show (s : Int) / 16 = ((s / 16 : Nat) : Int) from by omega]
  exact ⟨u32_xor_nat _ _ t2 (by omega), xor_lt t2 (by omega)⟩
theorem step_nat (s x : Nat) (hs : s < 4294967296) (hx : x < 256) : Sum.step (s : Int) (x : Int) = (byte s x : Int) := by
  unfold Sum.step
  rw [show (x : Int) % 4294967296 = (x : Int) from by omega]
  obtain ⟨h1, h2⟩ := half_nat s x hs (by omega)
  rw [h1, show (x : Int) / 16 = ((x / 16 : Nat) : Int) from by omega, (half_nat (nib s x) (x / 16) h2 (by omega)).1, nib_nib s x hx]

/-- A list of bytes. -/
def IsBytes (l : List Int) : Prop := ∀ x ∈ l, 0 ≤ x ∧ x ≤ 255
def reg (s : Nat) (l : List Int) : Nat := l.foldl (fun s x => byte s x.toNat) s
theorem reg_lt : ∀ (l : List Int) (s : Nat), s < 4294967296 → IsBytes l → reg s l < 4294967296
  | [], s, hs, _ => hs
  | x :: l, s, hs, hl => reg_lt l _ (byte_lt _ _ hs (by have := hl x List.mem_cons_self; omega)) (fun y hy => hl y (List.mem_cons_of_mem _ hy))
theorem run_nat : ∀ (l : List Int) (s : Nat), s < 4294967296 → IsBytes l → run (s : Int) l = (reg s l : Int)
  | [], s, _, _ => rfl
  | x :: l, s, hs, hl => by
    have hx := hl x List.mem_cons_self
    have e : Sum.step (s : Int) x = ((byte s x.toNat : Nat) : Int) := by
      have := step_nat s x.toNat hs (by omega)
      rwa [show (x.toNat : Int) = x from by omega] at this
    show run (Sum.step (s : Int) x) l = _
    rw [e, run_nat l _ (byte_lt _ _ hs (by omega)) (fun y hy => hl y (List.mem_cons_of_mem _ hy))]
    rfl
theorem run_append (s : Int) (a b : List Int) : run s (a ++ b) = run (run s a) b := by unfold run; rw [List.foldl_append]
theorem runs_flatten : ∀ (bs : List (List Int)) (s : Int), runs s bs = run s bs.flatten
  | [], s => rfl
  | b :: bs, s => by
    show runs (run s b) bs = _
    rw [runs_flatten bs, List.flatten_cons, run_append]
/-- The check sum of bytes. -/
def sum (l : List Int) : Int := ((reg 4294967295 l ^^^ 4294967295 : Nat) : Int)
theorem all_eq (bs : List (List Int)) (h : IsBytes bs.flatten) : all bs = sum bs.flatten := by
  unfold all sum
  rw [runs_flatten, show (4294967295 : Int) = ((4294967295 : Nat) : Int) from rfl, run_nat _ _ (by decide) h, show IntKind.u32.max = ((4294967295 : Nat) : Int) from by decide, u32_xor_nat _ _ (by decide) (reg_lt _ _ (by decide) h), Nat.xor_comm]
theorem sum_range (l : List Int) (h : IsBytes l) : 0 ≤ sum l ∧ sum l ≤ 4294967295 := by
  unfold sum
  have := xor_lt (reg_lt l 4294967295 (by decide) h) (show (4294967295 : Nat) < 4294967296 by decide)
  omega
end Go.Proofs.Ytgonodfggiablaa.Crc
