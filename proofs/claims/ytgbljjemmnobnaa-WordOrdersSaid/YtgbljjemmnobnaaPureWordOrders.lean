/-
  Of two right Tids the stamps of their words stand as their epochs and sequences do: for all Tids; no condition.
-/
import Derived.Test.YtgbljjemmnobnaaPWordOrdersx2
import Derived.Test.YtgbljjemmnobnaaBits
import Derived.Test.YtgbljjemmnobnaaWSized
namespace Go.Proofs.Ytgbljjemmnobnaa.Pure
open Go.RowKit Go.Proofs.Ytgbljjemmnobnaa.PWordOrders Go.Proofs.YtgbljjemmnobnaaW.PrintWords Go.Proofs.YtgbljjemmnobnaaW.PrintLast Go.Proofs.YtgbljjemmnobnaaW.PrintMore

theorem stamp_f {a : Int} (h0 : 0 ≤ a) (h1 : a ≤ 18446744073709551615) : word_Stamp.f a = some (a % 4611686018427387904) := by
  unfold word_Stamp.f; rw [Bits.stamp h0 h1]

theorem absent_f {a : Int} (ab : Bool) (h0 : 0 ≤ a) (h1 : a ≤ 18446744073709551615) :
    word_Absent.f a ab = some (a - a / 4611686018427387904 % 2 * 4611686018427387904 + (if ab = true then 4611686018427387904 else 0)) := by
  unfold word_Absent.f
  cases ab
  · rw [if_neg (by decide), Bits.present h0 h1, if_neg (by decide), Int.add_zero]
  · rw [if_pos rfl, Bits.absent h0 h1, if_pos rfl]; congr 1; omega

theorem next_f (k : Nat) {a e : Int} (h0 : 0 ≤ a) (h1 : a ≤ 18446744073709551615) (g0 : 0 ≤ e) (g1 : e ≤ 2147483647) :
    word_Next.f (k + 1) a e = if mx (e * 2147483648 + 1) (a % 4611686018427387904 + 1) > e * 2147483648 + 1073741823 then some (0, 40) else some (mx (e * 2147483648 + 1) (a % 4611686018427387904 + 1), 0) := by
  unfold word_Next.f
  rw [if_neg (by omega), decide_eq_false (by omega : ¬ e > 2147483647)]
  simp only [word_Next.j0]
  rw [if_neg (by decide), stamp_f h0 h1]
  simp only [Option.bind_some]
  have w1 : IntKind.u64.wrap e = e := Bits.wrap g0 (by omega)
  have w2 : IntKind.u64.wrap (e * 2147483648) = e * 2147483648 := Bits.wrap (by omega) (by omega)
  have w3 : IntKind.u64.wrap (e * 2147483648 + 1) = e * 2147483648 + 1 := Bits.wrap (by omega) (by omega)
  have w4 : IntKind.u64.wrap (e * 2147483648 + 1 - 1) = e * 2147483648 := by rw [Bits.wrap (by omega) (by omega)]; omega
  have w5 : IntKind.u64.wrap (e * 2147483648 + 1073741823) = e * 2147483648 + 1073741823 := Bits.wrap (by omega) (by omega)
  have w6 : IntKind.u64.wrap (a % 4611686018427387904 + 1) = a % 4611686018427387904 + 1 := Bits.wrap (by omega) (by omega)
  rw [w1, w2, w3, w4, w5, w6]

theorem awake_f (k : Nat) : cobweblaw04_awake.f (k + 1) = some true :=
  at_rounds cobweblaw04_awake.mono (Nat.le_add_left 1 k) (by decide +kernel)

theorem pack_f (k : Nat) {e s : Int} (lk ab : Bool) (h0 : 0 ≤ e) (h1 : e ≤ 2147483647) (g0 : 0 ≤ s) (g1 : s ≤ 1073741823) :
    word_Pack.f (k + 1) e s lk ab = some (e * 2147483648 + s + (if ab = true then 4611686018427387904 else 0) + (if lk = true then 9223372036854775808 else 0), 0) := by
  unfold word_Pack.f
  rw [if_neg (by omega), if_neg (by omega), if_neg (by omega), decide_eq_false (by omega : ¬ s > 1073741823)]
  simp only [word_Pack.j0, Bool.false_eq_true, if_false]
  have w3 : IntKind.u64.wrap (e * 2147483648) = e * 2147483648 := Bits.wrap (by omega) (by omega)
  rw [Bits.wrap h0 (by omega), Bits.wrap g0 (by omega), w3, Bits.join h0 h1 g0 (by omega)]
  cases lk with
  | true =>
    rw [if_pos rfl, if_pos rfl, Bits.lock (by omega) (by omega), absent_f ab (by omega) (by omega)]
    simp only [Option.bind_some]
    have q : (e * 2147483648 + s) % 9223372036854775808 = e * 2147483648 + s := by omega
    rw [q]
    have q2 : (e * 2147483648 + s + 9223372036854775808) / 4611686018427387904 % 2 = 0 := by omega
    rw [q2]
    cases ab
    · simp
    · simp; omega
  | false =>
    simp only [Bool.false_eq_true, if_false]
    rw [absent_f ab (by omega) (by omega)]
    simp only [Option.bind_some]
    have q2 : (e * 2147483648 + s) / 4611686018427387904 % 2 = 0 := by omega
    rw [q2]
    cases ab
    · simp
    · simp

theorem right_f (e s : Int) (lk ab : Bool) : cobwebref04_Right.f e s lk ab = some (decide (0 ≤ e ∧ e ≤ 2147483647 ∧ 0 ≤ s ∧ s ≤ 1073741823)) := by
  unfold cobwebref04_Right.f
  by_cases a : e ≥ 0
  · rw [if_pos a]
    by_cases b : e ≤ 2147483647
    · rw [if_pos b]
      by_cases c : s ≥ 0
      · rw [if_pos c]
        congr 1
        rw [decide_eq_decide]
        omega
      · rw [if_neg c, decide_eq_false (by omega)]
    · rw [if_neg b, decide_eq_false (by omega)]
  · rw [if_neg a, decide_eq_false (by omega)]

theorem stamp_pack {e s : Int} (lk ab : Bool) (h0 : 0 ≤ e) (h1 : e ≤ 2147483647) (g0 : 0 ≤ s) (g1 : s ≤ 1073741823) :
    word_Stamp.f (e * 2147483648 + s + (if ab = true then 4611686018427387904 else 0) + (if lk = true then 9223372036854775808 else 0)) = some (e * 2147483648 + s) := by
  have b : 0 ≤ (if ab = true then (4611686018427387904 : Int) else 0) ∧ (if ab = true then (4611686018427387904 : Int) else 0) ≤ 4611686018427387904 ∧ (if ab = true then (4611686018427387904 : Int) else 0) % 4611686018427387904 = 0 := by cases ab <;> decide
  have c : 0 ≤ (if lk = true then (9223372036854775808 : Int) else 0) ∧ (if lk = true then (9223372036854775808 : Int) else 0) ≤ 9223372036854775808 ∧ (if lk = true then (9223372036854775808 : Int) else 0) % 4611686018427387904 = 0 := by cases lk <;> decide
  generalize (if ab = true then (4611686018427387904 : Int) else 0) = x at *
  generalize (if lk = true then (9223372036854775808 : Int) else 0) = y at *
  rw [stamp_f (by omega) (by omega)]
  congr 1
  omega

theorem WordOrders (e s : Int) (lk ab : Bool) (e' s' : Int) (lk' ab' : Bool) : ∃ k, cobweblaw04_WordOrders.f k e s lk ab e' s' lk' ab' = some true := by
  refine ⟨10, ?_⟩
  unfold cobweblaw04_WordOrders.f
  rw [awake_f 9]
  simp only [Option.bind_some, if_true]
  rw [right_f, right_f]
  simp only [Option.bind_some]
  have bad : cobweblaw04_WordOrders.j0 10 true e s lk ab e' s' lk' ab' = some true := by
    simp only [cobweblaw04_WordOrders.j0, if_true]
    rw [awake_f 8]; rfl
  by_cases a : 0 ≤ e ∧ e ≤ 2147483647 ∧ 0 ≤ s ∧ s ≤ 1073741823
  · rw [decide_eq_true a, if_pos rfl]
    by_cases b : 0 ≤ e' ∧ e' ≤ 2147483647 ∧ 0 ≤ s' ∧ s' ≤ 1073741823
    · rw [decide_eq_true b]
      obtain ⟨a0, a1, a2, a3⟩ := a
      obtain ⟨b0, b1, b2, b3⟩ := b
      simp only [cobweblaw04_WordOrders.j0, Bool.not_true, Bool.false_eq_true, if_false]
      rw [pack_f 8 lk ab a0 a1 a2 a3, pack_f 8 lk' ab' b0 b1 b2 b3]
      simp only [Option.bind_some, if_true]
      rw [stamp_pack lk ab a0 a1 a2 a3, stamp_pack lk' ab' b0 b1 b2 b3]
      simp only [Option.bind_some]
      by_cases c : e < e'
      · rw [if_pos c, decide_eq_true (by omega : e * 2147483648 + s < e' * 2147483648 + s')]; rfl
      · rw [if_neg c]
        by_cases d : e = e'
        · subst d
          rw [if_pos rfl]
          by_cases f : s < s'
          · rw [decide_eq_true f, decide_eq_true (by omega : e * 2147483648 + s < e * 2147483648 + s')]; rfl
          · rw [decide_eq_false f, decide_eq_false (by omega : ¬ e * 2147483648 + s < e * 2147483648 + s')]; rfl
        · rw [if_neg d, decide_eq_false (by omega : ¬ e * 2147483648 + s < e' * 2147483648 + s')]; rfl
    · rw [decide_eq_false b]; exact bad
  · rw [decide_eq_false a, if_neg (by decide)]; exact bad

end Go.Proofs.Ytgbljjemmnobnaa.Pure

namespace Go.Proofs.Ytgbljjemmnobnaa.PrintWords
open Go.ChangeShapes Go.WideShapes
/-- The printed row names this lemma so. -/
theorem sized_ints {H : Type} {enc : TypeId × Value → H} {P : Program} {W : World} {base : Nat} {spare : Nat → Bool} {held : Bool} {t e : TypeId} {k : IntKind} {a : Option Addr} {len cap : Nat} {d : DataW H} {ps : List MemPlace}
    {ts : List TypeId} {ds : List (DataW H)} {j : Nat} (hsz : (DataW.weightsEach P ts ds).all (· ≤ reachBytes) = true) (ht : ts[j]? = some t) (hd : ds[j]? = some d) (hu : P.underlying t = some (.slice e)) (he : P.underlying e = some (.int k))
    (hc : P.cellsOf e = 1) {B : Nat} (hB : P.bytesOf e = B) (h : DataW.Trod enc P W base spare held t (.slice a len cap) d ps) : len * B ≤ 140737488351232 :=
  Go.Proofs.YtgbljjemmnobnaaW.PrintWords.sized_ints hsz ht hd hu he hc hB h
end Go.Proofs.Ytgbljjemmnobnaa.PrintWords
