/-
  The check sum of pieces by half bytes is the bitwise one of all of them, one behind the other: for every list of pieces of bytes; no other condition.
-/
import Derived.Test.YtgonodfggiablaaQBlockSumsx2
import Derived.Test.YtgonodfggiablaaCrc
namespace Go.Proofs.Ytgonodfggiablaa.Pure
open Go.RowKit Go.Proofs.Ytgonodfggiablaa.QBlockSums Go.Proofs.YtgonodfggiablaaW.PrintWords Go.Proofs.YtgonodfggiablaaW.PrintLast Go.Proofs.YtgonodfggiablaaW.PrintMore

theorem rd_at (l : List Int) (i : Nat) (h : i < l.length) : rd l (i : Int) = l[i] := by simp [rd, h]
theorem wrap_nat {n : Nat} (h : n < 4611686018427387904) : wrap64 ((n : Int) + 1) = ((n + 1 : Nat) : Int) := by unfold wrap64; omega

theorem ref_bit (k : Nat) (l : List Int) (r : Nat) (i : Int) (j : Nat) (hr : r < 4294967296) (hj : j < 8) :
    cobwebref08_Sum.l1 (k + 1) l (r : Int) i (j : Int) = cobwebref08_Sum.l1 k l (Crc.bit r : Int) i ((j + 1 : Nat) : Int) := by
  simp only [cobwebref08_Sum.l1]
  rw [if_pos (by omega), wrap_nat (by omega)]
  have t1 : Int.tmod (r : Int) 2 = ((r % 2 : Nat) : Int) := by rw [Int.tmod_eq_emod_of_nonneg (by omega)]; omega
  have t2 : Int.tdiv (r : Int) 2 % 4294967296 = ((r / 2 : Nat) : Int) := by rw [Int.tdiv_eq_ediv_of_nonneg (by omega)]; omega
  rw [t1, t2]
  unfold Crc.bit
  by_cases h : r % 2 = 1
  · rw [if_pos (by omega), if_pos h, show (3988292384 : Int) = ((3988292384 : Nat) : Int) from rfl, u32_xor_nat _ _ (by omega) (by decide)]
  · rw [if_neg (by omega), if_neg h]

theorem ref_byte (k : Nat) (l : List Int) (r : Nat) (i : Int) (hr : r < 4294967296) : cobwebref08_Sum.l1 (k + 9) l (r : Int) i 0 = cobwebref08_Sum.l0 k l (Crc.bit8 r : Int) (wrap64 (i + 1)) := by
  have b := Crc.bit_lt
  have e0 := ref_bit (k + 8) l r i 0 hr (by decide)
  have h1 := b r hr
  have e1 := ref_bit (k + 7) l _ i 1 h1 (by decide)
  have h2 := b _ h1
  have e2 := ref_bit (k + 6) l _ i 2 h2 (by decide)
  have h3 := b _ h2
  have e3 := ref_bit (k + 5) l _ i 3 h3 (by decide)
  have h4 := b _ h3
  have e4 := ref_bit (k + 4) l _ i 4 h4 (by decide)
  have h5 := b _ h4
  have e5 := ref_bit (k + 3) l _ i 5 h5 (by decide)
  have h6 := b _ h5
  have e6 := ref_bit (k + 2) l _ i 6 h6 (by decide)
  have h7 := b _ h6
  have e7 := ref_bit (k + 1) l _ i 7 h7 (by decide)
  refine e0.trans (e1.trans (e2.trans (e3.trans (e4.trans (e5.trans (e6.trans (e7.trans ?_)))))))
  simp only [cobwebref08_Sum.l1]
  rw [if_neg (by omega)]
  rfl

theorem ref_loop (n : Nat) : ∀ (k : Nat) (l : List Int) (s : Nat) (i : Nat), Crc.IsBytes l → i ≤ l.length → l.length - i = n → l.length < 4611686018427387904 → s < 4294967296 → 10 * n < k →
    cobwebref08_Sum.l0 k l (s : Int) (i : Int) = some ((Crc.reg s (l.drop i) ^^^ 4294967295 : Nat) : Int) := by
  induction n with
  | zero =>
    intro k l s i hb hi hn hl hs hk
    obtain ⟨k, rfl⟩ : ∃ m, k = m + 1 := ⟨k - 1, by omega⟩
    simp only [cobwebref08_Sum.l0]
    rw [if_neg (by omega), List.drop_of_length_le (by omega), show (4294967295 : Int) = ((4294967295 : Nat) : Int) from rfl, u32_xor_nat _ _ hs (by decide)]
    rfl
  | succ n ih =>
    intro k l s i hb hi hn hl hs hk
    obtain ⟨k, rfl⟩ : ∃ m, k = m + 10 := ⟨k - 10, by omega⟩
    have hlt : i < l.length := by omega
    have hx := hb _ (List.getElem_mem hlt)
    simp only [cobwebref08_Sum.l0]
    rw [if_pos (by omega), if_pos (by omega), rd_at l i hlt]
    have ex : bits .xor .u32 (s : Int) (l[i] % 4294967296) = ((s ^^^ l[i].toNat : Nat) : Int) := by
      rw [show l[i] % 4294967296 = ((l[i].toNat : Nat) : Int) from by omega]
      exact u32_xor_nat _ _ hs (by omega)
    rw [ex, ref_byte k l _ _ (Crc.xor_lt hs (by omega)), wrap_nat (by omega)]
    have := ih k l (Crc.byte s l[i].toNat) (i + 1) hb (by omega) (by omega) hl (Crc.byte_lt _ _ hs (by omega)) (by omega)
    rw [List.drop_eq_getElem_cons hlt]
    exact this

theorem ref_sum (k : Nat) (l : List Int) (hb : Crc.IsBytes l) (hl : l.length < 4611686018427387904) (hk : 10 * l.length < k) : cobwebref08_Sum.f k l = some (Crc.sum l) := by
  unfold cobwebref08_Sum.f
  have := ref_loop l.length k l 4294967295 0 hb (by omega) (by omega) hl (by decide) hk
  rw [List.drop_zero] at this
  exact this

theorem rdL_at (l : List (List Int)) (i : Nat) (h : i < l.length) : rd_L1 l (i : Int) = l[i] := by simp [rd_L1, h]

theorem take_flatten (l : List (List Int)) (i : Nat) (h : i < l.length) : (l.take (i + 1)).flatten = (l.take i).flatten ++ l[i] := by
  rw [List.take_succ_eq_append_getElem h, List.flatten_append]; simp

theorem sums_end (k : Nat) (l : List (List Int)) (hb : ∀ b ∈ l, Crc.IsBytes b) (hl : l.length ≤ 20) (hs : ∀ b ∈ l, b.length ≤ 1000) (hf : l.flatten.length ≤ 20000) (hk : 200001 ≤ k) :
    ((block_Sum.f l).bind fun t141 => ((cobwebref08_Sum.f k l.flatten).bind fun t142 => (some (t141 == t142)))) = some true := by
  have hfb : Crc.IsBytes l.flatten := fun x hx => by
    obtain ⟨b, hb', hx⟩ := List.mem_flatten.1 hx
    exact hb b hb' x hx
  have h1 : block_Sum.f l = some (Crc.sum l.flatten) := by
    unfold block_Sum.f
    rw [if_pos (by omega), if_pos (List.all_eq_true.2 fun b hb' => decide_eq_true (by have := hs b hb'; omega)), Crc.all_eq l hfb]
  rw [h1, ref_sum k _ hfb (by omega) (by omega)]
  simp

theorem sums_loop (n : Nat) : ∀ (k : Nat) (l : List (List Int)) (i : Nat), (∀ b ∈ l, Crc.IsBytes b) → i ≤ l.length → l.length - i = n → l.length ≤ 20 → (∀ b ∈ l.take i, b.length ≤ 1000) → (l.take i).flatten.length ≤ 1000 * i → 200002 + n ≤ k →
    cobweblaw08_BlockSums.l0 k l (l.take i).flatten (i : Int) = some true := by
  induction n with
  | zero =>
    intro k l i hb hi hn hl hs hf hk
    obtain ⟨k, rfl⟩ : ∃ m, k = m + 1 := ⟨k - 1, by omega⟩
    have ht : l.take i = l := List.take_of_length_le (by omega)
    rw [ht] at hs hf ⊢
    simp only [cobweblaw08_BlockSums.l0]
    rw [if_neg (by omega)]
    exact sums_end k l hb hl hs (by omega) (by omega)
  | succ n ih =>
    intro k l i hb hi hn hl hs hf hk
    obtain ⟨k, rfl⟩ : ∃ m, k = m + 1 := ⟨k - 1, by omega⟩
    have hlt : i < l.length := by omega
    simp only [cobweblaw08_BlockSums.l0]
    rw [if_pos (by omega), if_pos (by omega), rdL_at l i hlt]
    by_cases hc : ((l[i]).length : Int) > 1000
    · rw [if_pos hc]
    · rw [if_neg hc, if_pos (by omega), wrap_nat (by omega), ← take_flatten l i hlt]
      refine ih k l (i + 1) hb (by omega) (by omega) hl (fun b hb' => ?_) ?_ (by omega)
      · rw [List.take_succ_eq_append_getElem hlt] at hb'
        rcases List.mem_append.1 hb' with h | h
        · exact hs b h
        · rw [List.mem_singleton.1 h]; omega
      · rw [take_flatten l i hlt, List.length_append]; omega

theorem BlockSums (l : List (List Int)) (hb : ∀ b ∈ l, Crc.IsBytes b) : ∃ k, cobweblaw08_BlockSums.f k l = some true := by
  refine ⟨200100, ?_⟩
  unfold cobweblaw08_BlockSums.f
  simp only [cobweblaw08_awake.f, Option.bind_some, if_true]
  by_cases hl : (l.length : Int) > 20
  · rw [decide_eq_true hl]
    simp only [cobweblaw08_BlockSums.j0, if_true]
    rfl
  · rw [decide_eq_false hl]
    simp only [cobweblaw08_BlockSums.j0, Bool.false_eq_true, if_false]
    have := sums_loop l.length 200099 l 0 hb (by omega) (by omega) (by omega) (by simp) (by simp) (by omega)
    rw [List.take_zero, List.flatten_nil] at this
    exact this

end Go.Proofs.Ytgonodfggiablaa.Pure
