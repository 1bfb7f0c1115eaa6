/-
  Words and their parts are the reference's, for every Tid and every word; no condition.
-/
import Derived.Test.YtgbljjemmnobnaaPWordPacksx3
import Derived.Test.YtgbljjemmnobnaaBits
import Derived.Test.YtgbljjemmnobnaaWSized
namespace Go.Proofs.Ytgbljjemmnobnaa.Pure
open Go.RowKit Go.Proofs.Ytgbljjemmnobnaa.PWordPacks Go.Proofs.YtgbljjemmnobnaaW.PrintWords Go.Proofs.YtgbljjemmnobnaaW.PrintLast Go.Proofs.YtgbljjemmnobnaaW.PrintMore

theorem stamp_f {a : Int} (h0 : 0 ≤ a) (h1 : a ≤ 18446744073709551615) : word_Stamp.f a = some (a % 4611686018427387904) := by
  unfold word_Stamp.f; rw [Bits.stamp h0 h1]

theorem absent_f {a : Int} (ab : Bool) (h0 : 0 ≤ a) (h1 : a ≤ 18446744073709551615) :
    word_Absent.f a ab = some (a - a / 4611686018427387904 % 2 * 4611686018427387904 + (if ab = true then 4611686018427387904 else 0)) := by
  unfold word_Absent.f
  cases ab
  · rw [if_neg (by decide), Bits.present h0 h1, if_neg (by decide), Int.add_zero]
  · rw [if_pos rfl, Bits.absent h0 h1, if_pos rfl]; congr 1; omega

theorem next_f (k : Nat) {a e : Int} (h0 : 0 ≤ a) (h1 : a ≤ 18446744073709551615) (g0 : 0 ≤ e) (g1 : e ≤ 2147483647) :
    word_Next.f (k + 1) a e = if mx (e * 2147483648 + 1) (a % 4611686018427387904 + 1) > e * 2147483648 + 1073741823 then some (0, 40) else some (mx (e * 2147483648 + 1) (a % 4611686018427387904 + 1), 0) := by
  unfold word_Next.f
  rw [if_neg (by omega), decide_eq_false (by omega : ¬ e > 2147483647)]
  simp only [word_Next.j0]
  rw [if_neg (by decide), stamp_f h0 h1]
  simp only [Option.bind_some]
  have w1 : IntKind.u64.wrap e = e := Bits.wrap g0 (by omega)
  have w2 : IntKind.u64.wrap (e * 2147483648) = e * 2147483648 := Bits.wrap (by omega) (by omega)
  have w3 : IntKind.u64.wrap (e * 2147483648 + 1) = e * 2147483648 + 1 := Bits.wrap (by omega) (by omega)
  have w4 : IntKind.u64.wrap (e * 2147483648 + 1 - 1) = e * 2147483648 := by rw [Bits.wrap (by omega) (by omega)]; omega
  have w5 : IntKind.u64.wrap (e * 2147483648 + 1073741823) = e * 2147483648 + 1073741823 := Bits.wrap (by omega) (by omega)
  have w6 : IntKind.u64.wrap (a % 4611686018427387904 + 1) = a % 4611686018427387904 + 1 := Bits.wrap (by omega) (by omega)
  rw [w1, w2, w3, w4, w5, w6]

theorem awake_f (k : Nat) : cobweblaw04_awake.f (k + 1) = some true :=
  at_rounds cobweblaw04_awake.mono (Nat.le_add_left 1 k) (by decide +kernel)

theorem parts_f {a : Int} (h0 : 0 ≤ a) (h1 : a ≤ 18446744073709551615) :
    word_Parts.f a = if a % 2147483648 > 1073741823 then some (0, 0, false, false, false) else some (a % 4611686018427387904 / 2147483648, a % 2147483648, decide (9223372036854775808 ≤ a), decide (a / 4611686018427387904 % 2 = 1), true) := by
  unfold word_Parts.f
  rw [stamp_f h0 h1]
  simp only [Option.bind_some]
  rw [Bits.low (by omega) (by omega), show a % 4611686018427387904 % 2147483648 = a % 2147483648 from by omega, Bits.and63 h0 h1, Bits.and62 h0 h1]
  have w1 : wrap64 (a % 4611686018427387904 / 2147483648) = a % 4611686018427387904 / 2147483648 := by unfold wrap64; omega
  have w2 : wrap64 (a % 2147483648) = a % 2147483648 := by unfold wrap64; omega
  have b1 : (a / 9223372036854775808 * 9223372036854775808 != 0) = decide (9223372036854775808 ≤ a) := by
    by_cases h : 9223372036854775808 ≤ a
    · rw [decide_eq_true h, bne_iff_ne]; omega
    · rw [decide_eq_false h, bne_eq_false_iff_eq]; omega
  have b2 : (a / 4611686018427387904 % 2 * 4611686018427387904 != 0) = decide (a / 4611686018427387904 % 2 = 1) := by
    by_cases h : a / 4611686018427387904 % 2 = 1
    · rw [decide_eq_true h, bne_iff_ne]; omega
    · rw [decide_eq_false h, bne_eq_false_iff_eq]; omega
  rw [w1, w2, b1, b2]

theorem refparts_f {a : Int} (h0 : 0 ≤ a) (h1 : a ≤ 18446744073709551615) :
    cobwebref04_Parts.f a = some (decide (9223372036854775808 ≤ a), decide (a / 4611686018427387904 % 2 = 1), a % 4611686018427387904 / 2147483648, a % 2147483648) := by
  unfold cobwebref04_Parts.f
  have t1 : Int.tdiv a 9223372036854775808 = a / 9223372036854775808 := Int.tdiv_eq_ediv_of_nonneg h0
  have t2 : Int.tdiv a 4611686018427387904 = a / 4611686018427387904 := Int.tdiv_eq_ediv_of_nonneg h0
  have t3 : Int.tmod a 4611686018427387904 = a % 4611686018427387904 := Int.tmod_eq_emod_of_nonneg h0
  have t4 : Int.tdiv (a % 4611686018427387904) 2147483648 = a % 4611686018427387904 / 2147483648 := Int.tdiv_eq_ediv_of_nonneg (by omega)
  have t5 : Int.tmod (a % 4611686018427387904) 2147483648 = a % 4611686018427387904 % 2147483648 := Int.tmod_eq_emod_of_nonneg (by omega)
  have t6 : Int.tmod (a / 4611686018427387904) 2 = a / 4611686018427387904 % 2 := Int.tmod_eq_emod_of_nonneg (by omega)
  rw [t1, t2, t3, t4, t5, Bits.wrap (by omega) (by omega), Bits.wrap (by omega) (by omega), Bits.wrap (by omega) (by omega), t6, show a % 4611686018427387904 % 2147483648 = a % 2147483648 from by omega]
  have b1 : (a / 9223372036854775808 == 1) = decide (9223372036854775808 ≤ a) := by
    by_cases h : 9223372036854775808 ≤ a
    · rw [decide_eq_true h, beq_iff_eq]; omega
    · rw [decide_eq_false h, beq_eq_false_iff_ne]; omega
  have b2 : (a / 4611686018427387904 % 2 == 1) = decide (a / 4611686018427387904 % 2 = 1) := by
    by_cases h : a / 4611686018427387904 % 2 = 1
    · rw [decide_eq_true h, beq_iff_eq]; exact h
    · rw [decide_eq_false h, beq_eq_false_iff_ne]; exact h
  rw [b1, b2]


theorem pack_f (k : Nat) {e s : Int} (lk ab : Bool) (h0 : 0 ≤ e) (h1 : e ≤ 2147483647) (g0 : 0 ≤ s) (g1 : s ≤ 1073741823) :
    word_Pack.f (k + 1) e s lk ab = some (e * 2147483648 + s + (if ab = true then 4611686018427387904 else 0) + (if lk = true then 9223372036854775808 else 0), 0) := by
  unfold word_Pack.f
  rw [if_neg (by omega), if_neg (by omega), if_neg (by omega), decide_eq_false (by omega : ¬ s > 1073741823)]
  simp only [word_Pack.j0, Bool.false_eq_true, if_false]
  have w3 : IntKind.u64.wrap (e * 2147483648) = e * 2147483648 := Bits.wrap (by omega) (by omega)
  rw [Bits.wrap h0 (by omega), Bits.wrap g0 (by omega), w3, Bits.join h0 h1 g0 (by omega)]
  cases lk with
  | true =>
    rw [if_pos rfl, if_pos rfl, Bits.lock (by omega) (by omega), absent_f ab (by omega) (by omega)]
    simp only [Option.bind_some]
    have q : (e * 2147483648 + s) % 9223372036854775808 = e * 2147483648 + s := by omega
    rw [q]
    have q2 : (e * 2147483648 + s + 9223372036854775808) / 4611686018427387904 % 2 = 0 := by omega
    rw [q2]
    cases ab
    · simp
    · simp; omega
  | false =>
    simp only [Bool.false_eq_true, if_false]
    rw [absent_f ab (by omega) (by omega)]
    simp only [Option.bind_some]
    have q2 : (e * 2147483648 + s) / 4611686018427387904 % 2 = 0 := by omega
    rw [q2]
    cases ab
    · simp
    · simp

theorem right_f (e s : Int) (lk ab : Bool) : cobwebref04_Right.f e s lk ab = some (decide (0 ≤ e ∧ e ≤ 2147483647 ∧ 0 ≤ s ∧ s ≤ 1073741823)) := by
  unfold cobwebref04_Right.f
  by_cases a : e ≥ 0
  · rw [if_pos a]
    by_cases b : e ≤ 2147483647
    · rw [if_pos b]
      by_cases c : s ≥ 0
      · rw [if_pos c]
        congr 1
        rw [decide_eq_decide]
        omega
      · rw [if_neg c, decide_eq_false (by omega)]
    · rw [if_neg b, decide_eq_false (by omega)]
  · rw [if_neg a, decide_eq_false (by omega)]

theorem refpack_f {e s : Int} (lk ab : Bool) (h0 : 0 ≤ e) (h1 : e ≤ 2147483647) (g0 : 0 ≤ s) (g1 : s ≤ 1073741823) :
    cobwebref04_Pack.f e s lk ab = some (e * 2147483648 + s + (if ab = true then 4611686018427387904 else 0) + (if lk = true then 9223372036854775808 else 0)) := by
  unfold cobwebref04_Pack.f
  have w3 : IntKind.u64.wrap (e * 2147483648) = e * 2147483648 := Bits.wrap (by omega) (by omega)
  have w4 : IntKind.u64.wrap (e * 2147483648 + s) = e * 2147483648 + s := Bits.wrap (by omega) (by omega)
  have w5 : IntKind.u64.wrap (e * 2147483648 + s + 4611686018427387904) = e * 2147483648 + s + 4611686018427387904 := Bits.wrap (by omega) (by omega)
  have w6 : IntKind.u64.wrap (e * 2147483648 + s + 9223372036854775808) = e * 2147483648 + s + 9223372036854775808 := Bits.wrap (by omega) (by omega)
  have w7 : IntKind.u64.wrap (e * 2147483648 + s + 4611686018427387904 + 9223372036854775808) = e * 2147483648 + s + 4611686018427387904 + 9223372036854775808 := Bits.wrap (by omega) (by omega)
  rw [Bits.wrap h0 (by omega), Bits.wrap g0 (by omega), w3, w4, w5, w6, w7]
  cases ab <;> cases lk <;> simp

theorem parts_pack {e s : Int} (lk ab : Bool) (h0 : 0 ≤ e) (h1 : e ≤ 2147483647) (g0 : 0 ≤ s) (g1 : s ≤ 1073741823) :
    word_Parts.f (e * 2147483648 + s + (if ab = true then 4611686018427387904 else 0) + (if lk = true then 9223372036854775808 else 0)) = some (e, s, lk, ab, true) := by
  have b : (if ab = true then (4611686018427387904 : Int) else 0) = 0 ∧ ab = false ∨ (if ab = true then (4611686018427387904 : Int) else 0) = 4611686018427387904 ∧ ab = true := by cases ab <;> decide
  have c : (if lk = true then (9223372036854775808 : Int) else 0) = 0 ∧ lk = false ∨ (if lk = true then (9223372036854775808 : Int) else 0) = 9223372036854775808 ∧ lk = true := by cases lk <;> decide
  generalize (if ab = true then (4611686018427387904 : Int) else 0) = x at *
  generalize (if lk = true then (9223372036854775808 : Int) else 0) = y at *
  rw [parts_f (by omega) (by omega), if_neg (by omega)]
  have q1 : (e * 2147483648 + s + x + y) % 4611686018427387904 / 2147483648 = e := by omega
  have q2 : (e * 2147483648 + s + x + y) % 2147483648 = s := by omega
  have q3 : decide (9223372036854775808 ≤ e * 2147483648 + s + x + y) = lk := by
    rcases c with ⟨c, rfl⟩ | ⟨c, rfl⟩
    · exact decide_eq_false (by omega)
    · exact decide_eq_true (by omega)
  have q4 : decide ((e * 2147483648 + s + x + y) / 4611686018427387904 % 2 = 1) = ab := by
    rcases b with ⟨b, rfl⟩ | ⟨b, rfl⟩
    · exact decide_eq_false (by omega)
    · exact decide_eq_true (by omega)
  rw [q1, q2, q3, q4]

theorem packs_tail (k : Nat) {w e s : Int} (lk ab : Bool) (h0 : 0 ≤ w) (h1 : w ≤ 18446744073709551615) : cobweblaw04_WordPacks.j0 (k + 2) w (w % 4611686018427387904 / 2147483648) (w % 2147483648) false e s lk ab = some true := by
  simp only [cobweblaw04_WordPacks.j0, Bool.false_eq_true, if_false]
  rw [stamp_f h0 h1]
  simp only [Option.bind_some]
  have w1 : IntKind.u64.wrap (w % 4611686018427387904 / 2147483648 * 2147483648) = w % 4611686018427387904 / 2147483648 * 2147483648 := Bits.wrap (by omega) (by omega)
  rw [w1, Bits.wrap (by omega) (by omega), if_pos (by omega), right_f]
  by_cases a : 0 ≤ e ∧ e ≤ 2147483647 ∧ 0 ≤ s ∧ s ≤ 1073741823
  · rw [decide_eq_true a]
    obtain ⟨a0, a1, a2, a3⟩ := a
    rw [pack_f k lk ab a0 a1 a2 a3, refpack_f lk ab a0 a1 a2 a3]
    simp only [Option.bind_some, if_true]
    rw [parts_pack lk ab a0 a1 a2 a3]
    simp
  · rw [decide_eq_false a]
    have hp : word_Pack.f (k + 1) e s lk ab = some (0, 2) := by
      have j : word_Pack.j0 (k + 1) true e s lk ab = some (0, 2) := by simp only [word_Pack.j0, if_true]
      unfold word_Pack.f
      by_cases c1 : e < 0
      · rw [if_pos c1, j]
      · rw [if_neg c1]
        by_cases c2 : e > 2147483647
        · rw [if_pos c2, j]
        · rw [if_neg c2]
          by_cases c3 : s < 0
          · rw [if_pos c3, j]
          · rw [if_neg c3, decide_eq_true (by omega : s > 1073741823), j]
    rw [hp]
    simp

theorem WordPacks (e s : Int) (lk ab : Bool) (w : Int) (hw : (Lit.int .u64 w).wf = true) : ∃ k, cobweblaw04_WordPacks.f k e s lk ab w = some true := by
  have hb := bounds_u64 hw
  refine ⟨10, ?_⟩
  unfold cobweblaw04_WordPacks.f
  rw [awake_f 9]
  simp only [Option.bind_some, if_true]
  rw [refparts_f hb.1 hb.2, parts_f hb.1 hb.2]
  simp only [Option.bind_some]
  have w1 : wrap64 (w % 4611686018427387904 / 2147483648) = w % 4611686018427387904 / 2147483648 := by unfold wrap64; omega
  have w2 : wrap64 (w % 2147483648) = w % 2147483648 := by unfold wrap64; omega
  have tail := packs_tail 8 (e := e) (s := s) lk ab hb.1 hb.2
  by_cases c : w % 2147483648 > 1073741823
  · rw [if_pos c, decide_eq_false (by omega : ¬ w % 2147483648 ≤ 1073741823)]
    simp only [Option.bind_some, bne_self_eq_false, Bool.false_eq_true, if_false]
    simpa using tail
  · rw [if_neg c, decide_eq_true (by omega : w % 2147483648 ≤ 1073741823)]
    simp only [Option.bind_some, bne_self_eq_false, Bool.false_eq_true, if_false, if_true]
    rw [w1, w2]
    simpa using tail

end Go.Proofs.Ytgbljjemmnobnaa.Pure

namespace Go.Proofs.Ytgbljjemmnobnaa.PrintWords
open Go.ChangeShapes Go.WideShapes
/-- The printed row names this lemma so. -/
theorem sized_ints {H : Type} {enc : TypeId × Value → H} {P : Program} {W : World} {base : Nat} {spare : Nat → Bool} {held : Bool} {t e : TypeId} {k : IntKind} {a : Option Addr} {len cap : Nat} {d : DataW H} {ps : List MemPlace}
    {ts : List TypeId} {ds : List (DataW H)} {j : Nat} (hsz : (DataW.weightsEach P ts ds).all (· ≤ reachBytes) = true) (ht : ts[j]? = some t) (hd : ds[j]? = some d) (hu : P.underlying t = some (.slice e)) (he : P.underlying e = some (.int k))
    (hc : P.cellsOf e = 1) {B : Nat} (hB : P.bytesOf e = B) (h : DataW.Trod enc P W base spare held t (.slice a len cap) d ps) : len * B ≤ 140737488351232 :=
  Go.Proofs.YtgbljjemmnobnaaW.PrintWords.sized_ints hsz ht hd hu he hc hB h
end Go.Proofs.Ytgbljjemmnobnaa.PrintWords
