/-
  The next stamp is the reference's, above the last one, and in the epoch; the greatest of several is the greatest stamp: for every word, epoch and list; no condition.
-/
import Derived.Test.YtgbljjemmnobnaaPWordNextsx3
import Derived.Test.YtgbljjemmnobnaaBits
import Derived.Test.YtgbljjemmnobnaaWSized
namespace Go.Proofs.Ytgbljjemmnobnaa.Pure
open Go.RowKit Go.Proofs.Ytgbljjemmnobnaa.PWordNexts Go.Proofs.YtgbljjemmnobnaaW.PrintWords Go.Proofs.YtgbljjemmnobnaaW.PrintLast Go.Proofs.YtgbljjemmnobnaaW.PrintMore

theorem stamp_f {a : Int} (h0 : 0 ≤ a) (h1 : a ≤ 18446744073709551615) : word_Stamp.f a = some (a % 4611686018427387904) := by
  unfold word_Stamp.f; rw [Bits.stamp h0 h1]

theorem absent_f {a : Int} (ab : Bool) (h0 : 0 ≤ a) (h1 : a ≤ 18446744073709551615) :
    word_Absent.f a ab = some (a - a / 4611686018427387904 % 2 * 4611686018427387904 + (if ab = true then 4611686018427387904 else 0)) := by
  unfold word_Absent.f
  cases ab
  · rw [if_neg (by decide), Bits.present h0 h1, if_neg (by decide), Int.add_zero]
  · rw [if_pos rfl, Bits.absent h0 h1, if_pos rfl]; congr 1; omega

theorem next_f (k : Nat) {a e : Int} (h0 : 0 ≤ a) (h1 : a ≤ 18446744073709551615) (g0 : 0 ≤ e) (g1 : e ≤ 2147483647) :
    word_Next.f (k + 1) a e = if mx (e * 2147483648 + 1) (a % 4611686018427387904 + 1) > e * 2147483648 + 1073741823 then some (0, 40) else some (mx (e * 2147483648 + 1) (a % 4611686018427387904 + 1), 0) := by
  unfold word_Next.f
  rw [if_neg (by omega), decide_eq_false (by omega : ¬ e > 2147483647)]
  simp only [word_Next.j0]
  rw [if_neg (by decide), stamp_f h0 h1]
  simp only [Option.bind_some]
  have w1 : IntKind.u64.wrap e = e := Bits.wrap g0 (by omega)
  have w2 : IntKind.u64.wrap (e * 2147483648) = e * 2147483648 := Bits.wrap (by omega) (by omega)
  have w3 : IntKind.u64.wrap (e * 2147483648 + 1) = e * 2147483648 + 1 := Bits.wrap (by omega) (by omega)
  have w4 : IntKind.u64.wrap (e * 2147483648 + 1 - 1) = e * 2147483648 := by rw [Bits.wrap (by omega) (by omega)]; omega
  have w5 : IntKind.u64.wrap (e * 2147483648 + 1073741823) = e * 2147483648 + 1073741823 := Bits.wrap (by omega) (by omega)
  have w6 : IntKind.u64.wrap (a % 4611686018427387904 + 1) = a % 4611686018427387904 + 1 := Bits.wrap (by omega) (by omega)
  rw [w1, w2, w3, w4, w5, w6]

theorem awake_f (k : Nat) : cobweblaw04_awake.f (k + 1) = some true :=
  at_rounds cobweblaw04_awake.mono (Nat.le_add_left 1 k) (by decide +kernel)

theorem parts_f {a : Int} (h0 : 0 ≤ a) (h1 : a ≤ 18446744073709551615) :
    word_Parts.f a = if a % 2147483648 > 1073741823 then some (0, 0, false, false, false) else some (a % 4611686018427387904 / 2147483648, a % 2147483648, decide (9223372036854775808 ≤ a), decide (a / 4611686018427387904 % 2 = 1), true) := by
  unfold word_Parts.f
  rw [stamp_f h0 h1]
  simp only [Option.bind_some]
  rw [Bits.low (by omega) (by omega), show a % 4611686018427387904 % 2147483648 = a % 2147483648 from by omega, Bits.and63 h0 h1, Bits.and62 h0 h1]
  have w1 : wrap64 (a % 4611686018427387904 / 2147483648) = a % 4611686018427387904 / 2147483648 := by unfold wrap64; omega
  have w2 : wrap64 (a % 2147483648) = a % 2147483648 := by unfold wrap64; omega
  have b1 : (a / 9223372036854775808 * 9223372036854775808 != 0) = decide (9223372036854775808 ≤ a) := by
    by_cases h : 9223372036854775808 ≤ a
    · rw [decide_eq_true h, bne_iff_ne]; omega
    · rw [decide_eq_false h, bne_eq_false_iff_eq]; omega
  have b2 : (a / 4611686018427387904 % 2 * 4611686018427387904 != 0) = decide (a / 4611686018427387904 % 2 = 1) := by
    by_cases h : a / 4611686018427387904 % 2 = 1
    · rw [decide_eq_true h, bne_iff_ne]; omega
    · rw [decide_eq_false h, bne_eq_false_iff_eq]; omega
  rw [w1, w2, b1, b2]

/-- The greatest stamp of a list, behind m. -/
def most (m : Int) (l : List Int) : Int := l.foldl (fun m w => mx m (w % 4611686018427387904)) m

theorem mx_le (a b : Int) : a ≤ mx a b ∧ b ≤ mx a b ∧ (mx a b = a ∨ mx a b = b) := by
  unfold mx; split <;> omega

theorem rd_at (l : List Int) (i : Nat) (h : i < l.length) : rd l (i : Int) = l[i] := by
  simp [rd, h]

theorem most_loop (n : Nat) : ∀ (k : Nat) (l : List Int) (i : Nat) (m : Int), (∀ x ∈ l, (Lit.int .u64 x).wf = true) → i ≤ l.length → l.length - i = n → l.length ≤ 1000 → n < k →
    word_Most.l0 k m l (l.length : Int) (i : Int) = some (most m (l.drop i)) := by
  induction n with
  | zero =>
    intro k l i m hw hi hn hl hk
    obtain ⟨k, rfl⟩ : ∃ m, k = m + 1 := ⟨k - 1, by omega⟩
    simp only [word_Most.l0]
    rw [if_neg (by omega), List.drop_of_length_le (by omega)]
    rfl
  | succ n ih =>
    intro k l i m hw hi hn hl hk
    obtain ⟨k, rfl⟩ : ∃ m, k = m + 1 := ⟨k - 1, by omega⟩
    have hlt : i < l.length := by omega
    have hb := bounds_u64 (hw _ (List.getElem_mem hlt))
    simp only [word_Most.l0]
    rw [if_pos (by omega), if_pos (by omega), if_pos (by omega), rd_at l i hlt, stamp_f hb.1 hb.2]
    simp only [Option.bind_some]
    rw [show wrap64 ((i : Int) + 1) = ((i + 1 : Nat) : Int) from by unfold wrap64; omega]
    rw [ih k l (i + 1) _ hw (by omega) (by omega) hl (by omega), List.drop_eq_getElem_cons hlt]
    rfl

theorem most_f (k : Nat) (l : List Int) (hw : ∀ x ∈ l, (Lit.int .u64 x).wf = true) (hl : l.length ≤ 1000) (hk : l.length < k) : word_Most.f k l = some (most 0 l) := by
  unfold word_Most.f
  have := most_loop l.length k l 0 0 hw (by omega) (by omega) hl hk
  rw [List.drop_zero] at this
  exact this

theorem most_ge : ∀ (l : List Int) (m : Int), m ≤ most m l ∧ (∀ x ∈ l, x % 4611686018427387904 ≤ most m l) ∧ (most m l = m ∨ ∃ x ∈ l, most m l = x % 4611686018427387904)
  | [], m => ⟨Int.le_refl _, by simp, .inl rfl⟩
  | w :: l, m => by
    have h := mx_le m (w % 4611686018427387904)
    obtain ⟨h1, h2, h3⟩ := most_ge l (mx m (w % 4611686018427387904))
    have e : most m (w :: l) = most (mx m (w % 4611686018427387904)) l := rfl
    rw [e]
    refine ⟨by omega, fun x hx => ?_, ?_⟩
    · rcases List.mem_cons.1 hx with rfl | hx
      · omega
      · exact h2 x hx
    · rcases h3 with h3 | ⟨x, hx, h3⟩
      · rcases h.2.2 with g | g
        · exact .inl (h3.trans g)
        · exact .inr ⟨w, List.mem_cons_self, h3.trans g⟩
      · exact .inr ⟨x, List.mem_cons_of_mem _ hx, h3⟩

theorem refparts_f {a : Int} (h0 : 0 ≤ a) (h1 : a ≤ 18446744073709551615) :
    cobwebref04_Parts.f a = some (decide (9223372036854775808 ≤ a), decide (a / 4611686018427387904 % 2 = 1), a % 4611686018427387904 / 2147483648, a % 2147483648) := by
  unfold cobwebref04_Parts.f
  have t1 : Int.tdiv a 9223372036854775808 = a / 9223372036854775808 := Int.tdiv_eq_ediv_of_nonneg h0
  have t2 : Int.tdiv a 4611686018427387904 = a / 4611686018427387904 := Int.tdiv_eq_ediv_of_nonneg h0
  have t3 : Int.tmod a 4611686018427387904 = a % 4611686018427387904 := Int.tmod_eq_emod_of_nonneg h0
  have t4 : Int.tdiv (a % 4611686018427387904) 2147483648 = a % 4611686018427387904 / 2147483648 := Int.tdiv_eq_ediv_of_nonneg (by omega)
  have t5 : Int.tmod (a % 4611686018427387904) 2147483648 = a % 4611686018427387904 % 2147483648 := Int.tmod_eq_emod_of_nonneg (by omega)
  have t6 : Int.tmod (a / 4611686018427387904) 2 = a / 4611686018427387904 % 2 := Int.tmod_eq_emod_of_nonneg (by omega)
  rw [t1, t2, t3, t4, t5, Bits.wrap (by omega) (by omega), Bits.wrap (by omega) (by omega), Bits.wrap (by omega) (by omega), t6, show a % 4611686018427387904 % 2147483648 = a % 2147483648 from by omega]
  have b1 : (a / 9223372036854775808 == 1) = decide (9223372036854775808 ≤ a) := by
    by_cases h : 9223372036854775808 ≤ a
    · rw [decide_eq_true h, beq_iff_eq]; omega
    · rw [decide_eq_false h, beq_eq_false_iff_ne]; omega
  have b2 : (a / 4611686018427387904 % 2 == 1) = decide (a / 4611686018427387904 % 2 = 1) := by
    by_cases h : a / 4611686018427387904 % 2 = 1
    · rw [decide_eq_true h, beq_iff_eq]; exact h
    · rw [decide_eq_false h, beq_eq_false_iff_ne]; exact h
  rw [b1, b2]

theorem refpack_f {e s : Int} (h0 : 0 ≤ e) (h1 : e ≤ 2147483647) (g0 : 0 ≤ s) (g1 : s ≤ 1073741823) : cobwebref04_Pack.f e s false false = some (e * 2147483648 + s) := by
  unfold cobwebref04_Pack.f
  have w3 : IntKind.u64.wrap (e * 2147483648) = e * 2147483648 := Bits.wrap (by omega) (by omega)
  rw [if_neg (by decide), if_neg (by decide), Bits.wrap h0 (by omega), Bits.wrap g0 (by omega), w3, Bits.wrap (by omega) (by omega)]

theorem refnext_f (k : Nat) {a e : Int} (h0 : 0 ≤ a) (h1 : a ≤ 18446744073709551615) (g0 : 0 ≤ e) (g1 : e ≤ 2147483647) :
    cobwebref04_Next.f (k + 1) a e = if a % 4611686018427387904 / 2147483648 > e then some (0, 40) else if a % 4611686018427387904 / 2147483648 < e then some (e * 2147483648 + 1, 0) else if a % 2147483648 ≥ 1073741823 then some (0, 40) else some (e * 2147483648 + (a % 2147483648 + 1), 0) := by
  unfold cobwebref04_Next.f
  rw [if_neg (by omega), decide_eq_false (by omega : ¬ e > 2147483647)]
  simp only [cobwebref04_Next.j0]
  rw [if_neg (by decide), refparts_f h0 h1]
  simp only [Option.bind_some]
  rw [Bits.wrap g0 (by omega)]
  have w1 : wrap64 (a % 2147483648) = a % 2147483648 := by unfold wrap64; omega
  have w2 : wrap64 (a % 2147483648 + 1) = a % 2147483648 + 1 := by unfold wrap64; omega
  rw [w1, w2, refpack_f g0 g1 (by omega) (by omega)]
  simp only [Option.bind_some]
  by_cases c : a % 2147483648 ≥ 1073741823
  · rw [if_pos c, if_pos c]
  · rw [if_neg c, if_neg c, refpack_f g0 g1 (by omega) (by omega)]
    rfl

theorem next_eq (k : Nat) {a e : Int} (h0 : 0 ≤ a) (h1 : a ≤ 18446744073709551615) :
    ∃ x er, word_Next.f (k + 1) a e = some (x, er) ∧ cobwebref04_Next.f (k + 1) a e = some (x, er) ∧ (er = 0 → 0 ≤ e ∧ e ≤ 2147483647 ∧ a % 4611686018427387904 < x ∧ ∃ s, 1 ≤ s ∧ s ≤ 1073741823 ∧ x = e * 2147483648 + s) := by
  by_cases g0 : e < 0
  · refine ⟨0, 2, ?_, ?_, fun h => by omega⟩
    · unfold word_Next.f; rw [if_pos g0]; simp only [word_Next.j0, if_true]
    · unfold cobwebref04_Next.f; rw [if_pos g0]; simp only [cobwebref04_Next.j0, if_true]
  by_cases g1 : e > 2147483647
  · refine ⟨0, 2, ?_, ?_, fun h => by omega⟩
    · unfold word_Next.f; rw [if_neg g0, decide_eq_true g1]; simp only [word_Next.j0, if_true]
    · unfold cobwebref04_Next.f; rw [if_neg g0, decide_eq_true g1]; simp only [cobwebref04_Next.j0, if_true]
  rw [next_f k h0 h1 (by omega) (by omega), refnext_f k h0 h1 (by omega) (by omega)]
  have hm := mx_le (e * 2147483648 + 1) (a % 4611686018427387904 + 1)
  obtain ⟨m, hm'⟩ : ∃ m, m = mx (e * 2147483648 + 1) (a % 4611686018427387904 + 1) := ⟨_, rfl⟩
  rw [← hm'] at hm ⊢
  by_cases c1 : a % 4611686018427387904 / 2147483648 > e
  · exact ⟨0, 40, if_pos (by omega), if_pos c1, fun h => by omega⟩
  rw [if_neg c1]
  by_cases c2 : a % 4611686018427387904 / 2147483648 < e
  · refine ⟨e * 2147483648 + 1, 0, ?_, if_pos c2, fun _ => ⟨by omega, by omega, by omega, 1, by omega, by omega, rfl⟩⟩
    have : m = e * 2147483648 + 1 := by omega
    rw [this, if_neg (by omega)]
  rw [if_neg c2]
  by_cases c3 : a % 2147483648 ≥ 1073741823
  · exact ⟨0, 40, if_pos (by omega), if_pos c3, fun h => by omega⟩
  · refine ⟨e * 2147483648 + (a % 2147483648 + 1), 0, ?_, if_neg c3, fun _ => ⟨by omega, by omega, by omega, _, by omega, by omega, rfl⟩⟩
    have : m = e * 2147483648 + (a % 2147483648 + 1) := by omega
    rw [this, if_neg (by omega)]

theorem nexts_loop (n : Nat) : ∀ (k : Nat) (l : List Int) (m : Int) (found : Bool) (i : Nat), (∀ x ∈ l, (Lit.int .u64 x).wf = true) → (∀ x ∈ l, x % 4611686018427387904 ≤ m) → i ≤ l.length → l.length - i = n → l.length ≤ 1000 →
    (found = true ∨ ∃ x ∈ l.drop i, x % 4611686018427387904 = m) → n < k → cobweblaw04_WordNexts.l0 k l m found (i : Int) = some true := by
  induction n with
  | zero =>
    intro k l m found i hw hle hi hn hl hf hk
    obtain ⟨k, rfl⟩ : ∃ m, k = m + 1 := ⟨k - 1, by omega⟩
    simp only [cobweblaw04_WordNexts.l0]
    rw [if_neg (by omega)]
    rcases hf with rfl | ⟨x, hx, _⟩
    · rfl
    · rw [List.drop_of_length_le (by omega)] at hx; cases hx
  | succ n ih =>
    intro k l m found i hw hle hi hn hl hf hk
    obtain ⟨k, rfl⟩ : ∃ m, k = m + 1 := ⟨k - 1, by omega⟩
    have hlt : i < l.length := by omega
    have hb := bounds_u64 (hw _ (List.getElem_mem hlt))
    simp only [cobweblaw04_WordNexts.l0]
    rw [if_pos (by omega), if_pos (by omega), rd_at l i hlt, stamp_f hb.1 hb.2]
    simp only [Option.bind_some]
    rw [if_neg (by have := hle _ (List.getElem_mem hlt); omega), show wrap64 ((i : Int) + 1) = ((i + 1 : Nat) : Int) from by unfold wrap64; omega]
    cases found with
    | true => rw [if_pos rfl]; exact ih k l m true (i + 1) hw hle (by omega) (by omega) hl (.inl rfl) (by omega)
    | false =>
      rw [if_neg (by decide)]
      refine ih k l m _ (i + 1) hw hle (by omega) (by omega) hl ?_ (by omega)
      rcases hf with hf | ⟨x, hx, he⟩
      · cases hf
      · rw [List.drop_eq_getElem_cons hlt] at hx
        rcases List.mem_cons.1 hx with rfl | hx
        · exact .inl (beq_iff_eq.2 he)
        · exact .inr ⟨x, hx, he⟩

theorem nexts_tail (k : Nat) (l : List Int) (hw : ∀ x ∈ l, (Lit.int .u64 x).wf = true) (hl : l.length ≤ 100) : cobweblaw04_WordNexts.j2 (k + 300) l = some true := by
  simp only [cobweblaw04_WordNexts.j2]
  rw [most_f _ l hw (by omega) (by omega)]
  simp only [Option.bind_some]
  have g := most_ge l 0
  by_cases h0 : (l.length : Int) = 0
  · rw [if_pos h0]
    simp only [cobweblaw04_WordNexts.j3]
    refine nexts_loop l.length _ l _ _ 0 hw g.2.1 (by omega) (by omega) (by omega) (.inl ?_) (by omega)
    have : l = [] := List.length_eq_zero_iff.1 (by omega)
    subst this; rfl
  · rw [if_neg h0]
    simp only [cobweblaw04_WordNexts.j3]
    refine nexts_loop l.length _ l _ _ 0 hw g.2.1 (by omega) (by omega) (by omega) (.inr ?_) (by omega)
    rw [List.drop_zero]
    rcases g.2.2 with h | ⟨x, hx, h⟩
    · have hlt : 0 < l.length := by omega
      have h1 := g.2.1 _ (List.getElem_mem hlt)
      exact ⟨l[0], List.getElem_mem hlt, by omega⟩
    · exact ⟨x, hx, h.symm⟩

theorem WordNexts : cobweblaw04_WordNexts.Pure := by
  intro a e l ha he _ _ hw
  have hb := bounds_u64 ha
  refine ⟨400, ?_⟩
  unfold cobweblaw04_WordNexts.f
  rw [awake_f 399]
  simp only [Option.bind_some, if_true]
  by_cases hl : (l.length : Int) > 100
  · rw [decide_eq_true hl]
    simp only [cobweblaw04_WordNexts.j0, if_true]
    rw [awake_f 398]; rfl
  · rw [decide_eq_false hl]
    simp only [cobweblaw04_WordNexts.j0, Bool.false_eq_true, if_false]
    obtain ⟨x, er, h1, h2, h3⟩ := next_eq 398 (a := a) (e := e) hb.1 hb.2
    rw [h1, h2]
    simp only [Option.bind_some, if_true, bne_self_eq_false]
    simp only [cobweblaw04_WordNexts.j1, Bool.false_eq_true, if_false]
    by_cases hz : er = 0
    · rw [if_pos hz]
      obtain ⟨e0, e1, hlt, s, s0, s1, rfl⟩ := h3 hz
      rw [parts_f (by omega) (by omega), if_neg (by omega)]
      simp only [Option.bind_some, if_true]
      rw [if_pos (by omega), if_neg (by omega), decide_eq_false (by omega : ¬ 9223372036854775808 ≤ e * 2147483648 + s), decide_eq_false (by omega : ¬ (e * 2147483648 + s) / 4611686018427387904 % 2 = 1)]
      simp only [Bool.false_eq_true, if_false]
      rw [stamp_f hb.1 hb.2]
      simp only [Option.bind_some]
      rw [if_neg (by omega)]
      exact nexts_tail 98 l hw (by omega)
    · rw [if_neg hz]
      exact nexts_tail 98 l hw (by omega)

end Go.Proofs.Ytgbljjemmnobnaa.Pure

namespace Go.Proofs.Ytgbljjemmnobnaa.PrintWords
open Go.ChangeShapes Go.WideShapes
/-- The printed row names this lemma so. -/
theorem sized_ints {H : Type} {enc : TypeId × Value → H} {P : Program} {W : World} {base : Nat} {spare : Nat → Bool} {held : Bool} {t e : TypeId} {k : IntKind} {a : Option Addr} {len cap : Nat} {d : DataW H} {ps : List MemPlace}
    {ts : List TypeId} {ds : List (DataW H)} {j : Nat} (hsz : (DataW.weightsEach P ts ds).all (· ≤ reachBytes) = true) (ht : ts[j]? = some t) (hd : ds[j]? = some d) (hu : P.underlying t = some (.slice e)) (he : P.underlying e = some (.int k))
    (hc : P.cellsOf e = 1) {B : Nat} (hB : P.bytesOf e = B) (h : DataW.Trod enc P W base spare held t (.slice a len cap) d ps) : len * B ≤ 140737488351232 :=
  Go.Proofs.YtgbljjemmnobnaaW.PrintWords.sized_ints hsz ht hd hu he hc hB h
end Go.Proofs.Ytgbljjemmnobnaa.PrintWords
