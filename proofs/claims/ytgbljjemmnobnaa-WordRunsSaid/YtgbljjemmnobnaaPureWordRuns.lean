/-
  Stamps that are taken one behind the other rise by one within an epoch, and begin with 1 in a later one: for every epoch and every list of steps; no condition.
-/
import Derived.Test.YtgbljjemmnobnaaPWordRunsx3
import Derived.Test.YtgbljjemmnobnaaBits
import Derived.Test.YtgbljjemmnobnaaWSized
namespace Go.Proofs.Ytgbljjemmnobnaa.Pure
open Go.RowKit Go.Proofs.Ytgbljjemmnobnaa.PWordRuns Go.Proofs.YtgbljjemmnobnaaW.PrintWords Go.Proofs.YtgbljjemmnobnaaW.PrintLast Go.Proofs.YtgbljjemmnobnaaW.PrintMore

theorem stamp_f {a : Int} (h0 : 0 ≤ a) (h1 : a ≤ 18446744073709551615) : word_Stamp.f a = some (a % 4611686018427387904) := by
  unfold word_Stamp.f; rw [Bits.stamp h0 h1]

theorem absent_f {a : Int} (ab : Bool) (h0 : 0 ≤ a) (h1 : a ≤ 18446744073709551615) :
    word_Absent.f a ab = some (a - a / 4611686018427387904 % 2 * 4611686018427387904 + (if ab = true then 4611686018427387904 else 0)) := by
  unfold word_Absent.f
  cases ab
  · rw [if_neg (by decide), Bits.present h0 h1, if_neg (by decide), Int.add_zero]
  · rw [if_pos rfl, Bits.absent h0 h1, if_pos rfl]; congr 1; omega

theorem next_f (k : Nat) {a e : Int} (h0 : 0 ≤ a) (h1 : a ≤ 18446744073709551615) (g0 : 0 ≤ e) (g1 : e ≤ 2147483647) :
    word_Next.f (k + 1) a e = if mx (e * 2147483648 + 1) (a % 4611686018427387904 + 1) > e * 2147483648 + 1073741823 then some (0, 40) else some (mx (e * 2147483648 + 1) (a % 4611686018427387904 + 1), 0) := by
  unfold word_Next.f
  rw [if_neg (by omega), decide_eq_false (by omega : ¬ e > 2147483647)]
  simp only [word_Next.j0]
  rw [if_neg (by decide), stamp_f h0 h1]
  simp only [Option.bind_some]
  have w1 : IntKind.u64.wrap e = e := Bits.wrap g0 (by omega)
  have w2 : IntKind.u64.wrap (e * 2147483648) = e * 2147483648 := Bits.wrap (by omega) (by omega)
  have w3 : IntKind.u64.wrap (e * 2147483648 + 1) = e * 2147483648 + 1 := Bits.wrap (by omega) (by omega)
  have w4 : IntKind.u64.wrap (e * 2147483648 + 1 - 1) = e * 2147483648 := by rw [Bits.wrap (by omega) (by omega)]; omega
  have w5 : IntKind.u64.wrap (e * 2147483648 + 1073741823) = e * 2147483648 + 1073741823 := Bits.wrap (by omega) (by omega)
  have w6 : IntKind.u64.wrap (a % 4611686018427387904 + 1) = a % 4611686018427387904 + 1 := Bits.wrap (by omega) (by omega)
  rw [w1, w2, w3, w4, w5, w6]

theorem awake_f (k : Nat) : cobweblaw04_awake.f (k + 1) = some true :=
  at_rounds cobweblaw04_awake.mono (Nat.le_add_left 1 k) (by decide +kernel)

theorem parts_f {a : Int} (h0 : 0 ≤ a) (h1 : a ≤ 18446744073709551615) :
    word_Parts.f a = if a % 2147483648 > 1073741823 then some (0, 0, false, false, false) else some (a % 4611686018427387904 / 2147483648, a % 2147483648, decide (9223372036854775808 ≤ a), decide (a / 4611686018427387904 % 2 = 1), true) := by
  unfold word_Parts.f
  rw [stamp_f h0 h1]
  simp only [Option.bind_some]
  rw [Bits.low (by omega) (by omega), show a % 4611686018427387904 % 2147483648 = a % 2147483648 from by omega, Bits.and63 h0 h1, Bits.and62 h0 h1]
  have w1 : wrap64 (a % 4611686018427387904 / 2147483648) = a % 4611686018427387904 / 2147483648 := by unfold wrap64; omega
  have w2 : wrap64 (a % 2147483648) = a % 2147483648 := by unfold wrap64; omega
  have b1 : (a / 9223372036854775808 * 9223372036854775808 != 0) = decide (9223372036854775808 ≤ a) := by
    by_cases h : 9223372036854775808 ≤ a
    · rw [decide_eq_true h, bne_iff_ne]; omega
    · rw [decide_eq_false h, bne_eq_false_iff_eq]; omega
  have b2 : (a / 4611686018427387904 % 2 * 4611686018427387904 != 0) = decide (a / 4611686018427387904 % 2 = 1) := by
    by_cases h : a / 4611686018427387904 % 2 = 1
    · rw [decide_eq_true h, bne_iff_ne]; omega
    · rw [decide_eq_false h, bne_eq_false_iff_eq]; omega
  rw [w1, w2, b1, b2]

theorem next_runs (k : Nat) {e last seq : Int} (he : 1 ≤ e) (he2 : e ≤ 2000000) (hs : 0 ≤ seq) (hs2 : seq ≤ 200)
    (hl : seq = 0 ∧ 0 ≤ last ∧ last < e * 2147483648 ∨ 1 ≤ seq ∧ last = e * 2147483648 + seq) :
    word_Next.f (k + 1) last e = some (e * 2147483648 + (seq + 1), 0) := by
  rw [next_f k (by omega) (by omega) (by omega) (by omega)]
  have hm : mx (e * 2147483648 + 1) (last % 4611686018427387904 + 1) = e * 2147483648 + (seq + 1) := by
    unfold mx
    rcases hl with ⟨h1, h2, h3⟩ | ⟨h1, h2⟩
    · rw [if_neg (by omega)]; omega
    · split <;> omega
  rw [hm, if_neg (by omega)]

theorem runs_loop (n : Nat) : ∀ (k : Nat) (l : List Int) (e last seq i : Int), 0 ≤ i → (l.length : Int) - i = n → l.length ≤ 100 → 1 ≤ e → e ≤ 1000000 + i → 0 ≤ seq → seq ≤ i →
    (seq = 0 ∧ 0 ≤ last ∧ last < e * 2147483648 ∨ 1 ≤ seq ∧ last = e * 2147483648 + seq) → 2 * n + 2 < k → cobweblaw04_WordRuns.l0 k l e last seq i = some true := by
  induction n with
  | zero =>
    intro k l e last seq i hi hn hl he he2 hs hs2 hst hk
    obtain ⟨k, rfl⟩ : ∃ m, k = m + 1 := ⟨k - 1, by omega⟩
    simp only [cobweblaw04_WordRuns.l0]
    rw [if_neg (by omega)]
  | succ n ih =>
    intro k l e last seq i hi hn hl he he2 hs hs2 hst hk
    obtain ⟨k, rfl⟩ : ∃ m, k = m + 3 := ⟨k - 3, by omega⟩
    have step : ∀ e' seq', 1 ≤ e' → e' ≤ 1000000 + (i + 1) → 0 ≤ seq' → seq' ≤ i →
        (seq' = 0 ∧ 0 ≤ last ∧ last < e' * 2147483648 ∨ 1 ≤ seq' ∧ last = e' * 2147483648 + seq') → cobweblaw04_WordRuns.j3 (k + 2) l e' last seq' i = some true := by
      intro e' seq' h1 h2 h3 h4 h5
      simp only [cobweblaw04_WordRuns.j3]
      rw [next_runs k h1 (by omega) h3 (by omega) h5]
      simp only [Option.bind_some]
      rw [parts_f (by omega) (by omega), if_neg (by omega)]
      simp only [Option.bind_some, if_true]
      have w1 : wrap64 (seq' + 1) = seq' + 1 := by unfold wrap64; omega
      have w2 : wrap64 (i + 1) = i + 1 := by unfold wrap64; omega
      have q1 : (e' * 2147483648 + (seq' + 1)) % 4611686018427387904 / 2147483648 = e' := by omega
      have q2 : (e' * 2147483648 + (seq' + 1)) % 2147483648 = seq' + 1 := by omega
      have q3 : decide (9223372036854775808 ≤ e' * 2147483648 + (seq' + 1)) = false := decide_eq_false (by omega)
      have q4 : decide ((e' * 2147483648 + (seq' + 1)) / 4611686018427387904 % 2 = 1) = false := decide_eq_false (by omega)
      rw [w1, w2, q1, q2, q3, q4]
      simp only [beq_self_eq_true, Bool.not_true, Bool.or_self, Bool.false_eq_true, if_false]
      exact ih (k + 1) l e' _ _ (i + 1) (by omega) (by omega) hl h1 h2 (by omega) (by omega) (.inr ⟨by omega, rfl⟩) (by omega)
    simp only [cobweblaw04_WordRuns.l0]
    rw [if_pos (by omega), if_pos hi]
    split
    · rw [show wrap64 (e + 1) = e + 1 from by unfold wrap64; omega]
      exact step (e + 1) 0 (by omega) (by omega) (by omega) (by omega) (.inl ⟨rfl, by omega, by omega⟩)
    · exact step e seq he (by omega) hs hs2 hst

theorem WordRuns : cobweblaw04_WordRuns.Pure := by
  intro a0 l1 h0 _ _ _
  refine ⟨400, ?_⟩
  unfold cobweblaw04_WordRuns.f
  rw [awake_f 399]
  simp only [Option.bind_some, if_true]
  by_cases hl : (l1.length : Int) > 100
  · rw [decide_eq_true hl]
    simp only [cobweblaw04_WordRuns.j0, if_true]
    rw [awake_f 398]; rfl
  · rw [decide_eq_false hl]
    simp only [cobweblaw04_WordRuns.j0, Bool.false_eq_true, if_false]
    obtain ⟨p, hp⟩ : ∃ p, p = Int.tmod (wrap64 ((Int.tmod a0 1000000) + 1000000)) 1000000 := ⟨_, rfl⟩
    have hr : 0 ≤ p ∧ p < 1000000 := by
      have t1 := Int.tmod_lt_of_pos a0 (show (0 : Int) < 1000000 by decide)
      have t2 : -1000000 < Int.tmod a0 1000000 := by
        have := Int.lt_tmod_of_pos a0 (show (0 : Int) < 1000000 by decide)
        omega
      have t3 : wrap64 ((Int.tmod a0 1000000) + 1000000) = Int.tmod a0 1000000 + 1000000 := by unfold wrap64; omega
      rw [t3] at hp
      rw [hp]
      exact ⟨Int.tmod_nonneg _ (by omega), Int.tmod_lt_of_pos _ (by decide)⟩
    rw [← hp]
    split
    · exact runs_loop l1.length 398 l1 1 0 0 0 (by omega) (by omega) (by omega) (by omega) (by omega) (by omega) (by omega) (.inl ⟨rfl, by omega, by omega⟩) (by omega)
    · exact runs_loop l1.length 398 l1 p 0 0 0 (by omega) (by omega) (by omega) (by omega) (by omega) (by omega) (by omega) (.inl ⟨rfl, by omega, by omega⟩) (by omega)

end Go.Proofs.Ytgbljjemmnobnaa.Pure

namespace Go.Proofs.Ytgbljjemmnobnaa.PrintWords
open Go.ChangeShapes Go.WideShapes
/-- The printed row names this lemma so. -/
theorem sized_ints {H : Type} {enc : TypeId × Value → H} {P : Program} {W : World} {base : Nat} {spare : Nat → Bool} {held : Bool} {t e : TypeId} {k : IntKind} {a : Option Addr} {len cap : Nat} {d : DataW H} {ps : List MemPlace}
    {ts : List TypeId} {ds : List (DataW H)} {j : Nat} (hsz : (DataW.weightsEach P ts ds).all (· ≤ reachBytes) = true) (ht : ts[j]? = some t) (hd : ds[j]? = some d) (hu : P.underlying t = some (.slice e)) (he : P.underlying e = some (.int k))
    (hc : P.cellsOf e = 1) {B : Nat} (hB : P.bytesOf e = B) (h : DataW.Trod enc P W base spare held t (.slice a len cap) d ps) : len * B ≤ 140737488351232 :=
  Go.Proofs.YtgbljjemmnobnaaW.PrintWords.sized_ints hsz ht hd hu he hc hB h
end Go.Proofs.Ytgbljjemmnobnaa.PrintWords
