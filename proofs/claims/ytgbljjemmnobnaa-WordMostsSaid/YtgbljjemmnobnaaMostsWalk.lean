/-
  WordMosts' walk for every two lists and every word, and what the greatest stamps are; its conditions are that the lists can be read and hold words.
-/
import Derived.Test.YtgbljjemmnobnaaMosts
import Derived.Test.YtgbljjemmnobnaaBits
import Derived.Test.YtgbljjemmnobnaaWSized
namespace Go.Proofs.Ytgbljjemmnobnaa.MostsPure
open Go.RowKit Go.Proofs.Ytgbljjemmnobnaa.PWordMosts Go.Proofs.YtgbljjemmnobnaaW.PrintWords Go.Proofs.YtgbljjemmnobnaaW.PrintLast Go.Proofs.YtgbljjemmnobnaaW.PrintMore

theorem stamp_f {a : Int} (h0 : 0 ≤ a) (h1 : a ≤ 18446744073709551615) : word_Stamp.f a = some (a % 4611686018427387904) := by
  unfold word_Stamp.f; rw [Bits.stamp h0 h1]

theorem absent_f {a : Int} (ab : Bool) (h0 : 0 ≤ a) (h1 : a ≤ 18446744073709551615) :
    word_Absent.f a ab = some (a - a / 4611686018427387904 % 2 * 4611686018427387904 + (if ab = true then 4611686018427387904 else 0)) := by
  unfold word_Absent.f
  cases ab
  · rw [if_neg (by decide), Bits.present h0 h1, if_neg (by decide), Int.add_zero]
  · rw [if_pos rfl, Bits.absent h0 h1, if_pos rfl]; congr 1; omega

theorem next_f (k : Nat) {a e : Int} (h0 : 0 ≤ a) (h1 : a ≤ 18446744073709551615) (g0 : 0 ≤ e) (g1 : e ≤ 2147483647) :
    word_Next.f (k + 1) a e = if mx (e * 2147483648 + 1) (a % 4611686018427387904 + 1) > e * 2147483648 + 1073741823 then some (0, 40) else some (mx (e * 2147483648 + 1) (a % 4611686018427387904 + 1), 0) := by
  unfold word_Next.f
  rw [if_neg (by omega), decide_eq_false (by omega : ¬ e > 2147483647)]
  simp only [word_Next.j0]
  rw [if_neg (by decide), stamp_f h0 h1]
  simp only [Option.bind_some]
  have w1 : IntKind.u64.wrap e = e := Bits.wrap g0 (by omega)
  have w2 : IntKind.u64.wrap (e * 2147483648) = e * 2147483648 := Bits.wrap (by omega) (by omega)
  have w3 : IntKind.u64.wrap (e * 2147483648 + 1) = e * 2147483648 + 1 := Bits.wrap (by omega) (by omega)
  have w4 : IntKind.u64.wrap (e * 2147483648 + 1 - 1) = e * 2147483648 := by rw [Bits.wrap (by omega) (by omega)]; omega
  have w5 : IntKind.u64.wrap (e * 2147483648 + 1073741823) = e * 2147483648 + 1073741823 := Bits.wrap (by omega) (by omega)
  have w6 : IntKind.u64.wrap (a % 4611686018427387904 + 1) = a % 4611686018427387904 + 1 := Bits.wrap (by omega) (by omega)
  rw [w1, w2, w3, w4, w5, w6]

theorem awake_f (k : Nat) : cobweblaw04_awake.f (k + 1) = some true :=
  at_rounds cobweblaw04_awake.mono (Nat.le_add_left 1 k) (by decide +kernel)

/-- The greatest stamp of a list, behind m. -/
def most (m : Int) (l : List Int) : Int := l.foldl (fun m w => mx m (w % 4611686018427387904)) m

theorem mx_le (a b : Int) : a ≤ mx a b ∧ b ≤ mx a b ∧ (mx a b = a ∨ mx a b = b) := by
  unfold mx; split <;> omega

theorem rd_at (l : List Int) (i : Nat) (h : i < l.length) : rd l (i : Int) = l[i] := by
  simp [rd, h]

theorem most_loop (n : Nat) : ∀ (k : Nat) (l : List Int) (i : Nat) (m : Int), (∀ x ∈ l, (Lit.int .u64 x).wf = true) → i ≤ l.length → l.length - i = n → l.length ≤ 1000 → n < k →
    word_Most.l0 k m l (l.length : Int) (i : Int) = some (most m (l.drop i)) := by
  induction n with
  | zero =>
    intro k l i m hw hi hn hl hk
    obtain ⟨k, rfl⟩ : ∃ m, k = m + 1 := ⟨k - 1, by omega⟩
    simp only [word_Most.l0]
    rw [if_neg (by omega), List.drop_of_length_le (by omega)]
    rfl
  | succ n ih =>
    intro k l i m hw hi hn hl hk
    obtain ⟨k, rfl⟩ : ∃ m, k = m + 1 := ⟨k - 1, by omega⟩
    have hlt : i < l.length := by omega
    have hb := bounds_u64 (hw _ (List.getElem_mem hlt))
    simp only [word_Most.l0]
    rw [if_pos (by omega), if_pos (by omega), if_pos (by omega), rd_at l i hlt, stamp_f hb.1 hb.2]
    simp only [Option.bind_some]
    rw [show wrap64 ((i : Int) + 1) = ((i + 1 : Nat) : Int) from by unfold wrap64; omega]
    rw [ih k l (i + 1) _ hw (by omega) (by omega) hl (by omega), List.drop_eq_getElem_cons hlt]
    rfl

theorem most_f (k : Nat) (l : List Int) (hw : ∀ x ∈ l, (Lit.int .u64 x).wf = true) (hl : l.length ≤ 1000) (hk : l.length < k) : word_Most.f k l = some (most 0 l) := by
  unfold word_Most.f
  have := most_loop l.length k l 0 0 hw (by omega) (by omega) hl hk
  rw [List.drop_zero] at this
  exact this

theorem most_ge : ∀ (l : List Int) (m : Int), m ≤ most m l ∧ (∀ x ∈ l, x % 4611686018427387904 ≤ most m l) ∧ (most m l = m ∨ ∃ x ∈ l, most m l = x % 4611686018427387904)
  | [], m => ⟨Int.le_refl _, by simp, .inl rfl⟩
  | w :: l, m => by
    have h := mx_le m (w % 4611686018427387904)
    obtain ⟨h1, h2, h3⟩ := most_ge l (mx m (w % 4611686018427387904))
    have e : most m (w :: l) = most (mx m (w % 4611686018427387904)) l := rfl
    rw [e]
    refine ⟨by omega, fun x hx => ?_, ?_⟩
    · rcases List.mem_cons.1 hx with rfl | hx
      · omega
      · exact h2 x hx
    · rcases h3 with h3 | ⟨x, hx, h3⟩
      · rcases h.2.2 with g | g
        · exact .inl (h3.trans g)
        · exact .inr ⟨w, List.mem_cons_self, h3.trans g⟩
      · exact .inr ⟨x, List.mem_cons_of_mem _ hx, h3⟩

theorem most_only {M M' : Int} {l l' : List Int} (h : 0 ≤ M ∧ (∀ x ∈ l, x % 4611686018427387904 ≤ M) ∧ (M = 0 ∨ ∃ x ∈ l, M = x % 4611686018427387904))
    (h' : 0 ≤ M' ∧ (∀ x ∈ l', x % 4611686018427387904 ≤ M') ∧ (M' = 0 ∨ ∃ x ∈ l', M' = x % 4611686018427387904)) (hm : ∀ x, x ∈ l ↔ x ∈ l') : M = M' := by
  obtain ⟨a, b, c⟩ := h
  obtain ⟨a', b', c'⟩ := h'
  have p : M ≤ M' := by
    rcases c with c | ⟨x, hx, c⟩
    · omega
    · have := b' x ((hm x).1 hx); omega
  have q : M' ≤ M := by
    rcases c' with c' | ⟨x, hx, c'⟩
    · omega
    · have := b x ((hm x).2 hx); omega
  omega

theorem most_small (l : List Int) : 0 ≤ most 0 l ∧ most 0 l % 4611686018427387904 = most 0 l := by
  have g := most_ge l 0
  refine ⟨g.1, ?_⟩
  rcases g.2.2 with h | ⟨x, hx, h⟩
  · rw [h]; decide
  · rw [h]; omega

theorem most_two (l0 l1 : List Int) : most 0 [most 0 l0, most 0 l1] = most 0 (l0 ++ l1) := by
  have g0 := most_ge l0 0
  have g1 := most_ge l1 0
  have s0 := most_small l0
  have s1 := most_small l1
  refine most_only (l := l0 ++ l1) (l' := l0 ++ l1) ?_ (most_ge (l0 ++ l1) 0) (fun _ => Iff.rfl)
  have e : most 0 [most 0 l0, most 0 l1] = mx (mx 0 (most 0 l0)) (most 0 l1) := by
    show mx (mx 0 (most 0 l0 % 4611686018427387904)) (most 0 l1 % 4611686018427387904) = _
    rw [s0.2, s1.2]
  rw [e]
  have h := mx_le (mx 0 (most 0 l0)) (most 0 l1)
  have h' := mx_le 0 (most 0 l0)
  refine ⟨by omega, fun x hx => ?_, ?_⟩
  · rcases List.mem_append.1 hx with hx | hx
    · have := g0.2.1 x hx; omega
    · have := g1.2.1 x hx; omega
  · rcases h.2.2 with h3 | h3
    · rcases h'.2.2 with h4 | h4
      · exact .inl (h3.trans h4)
      · rcases g0.2.2 with h5 | ⟨x, hx, h5⟩
        · exact .inl ((h3.trans h4).trans h5)
        · exact .inr ⟨x, List.mem_append_left _ hx, (h3.trans h4).trans h5⟩
    · rcases g1.2.2 with h5 | ⟨x, hx, h5⟩
      · exact .inl (h3.trans h5)
      · exact .inr ⟨x, List.mem_append_right _ hx, h3.trans h5⟩

theorem most_turned (l0 l1 : List Int) : most 0 (l1 ++ l0) = most 0 (l0 ++ l1) :=
  most_only (most_ge (l1 ++ l0) 0) (most_ge (l0 ++ l1) 0) (fun x => by simp only [List.mem_append]; exact Or.comm)

theorem walk (A0 : Option Addr) (c0 : Nat) (l0 : List Int) (A1 : Option Addr) (c1 : Nat) (l1 : List Int) (a2 : Int) (w : World) (hr0 : Kd.C (Kd.int .u64) w A0 l0.length l0) (hc0 : l0.length ≤ c0) (hr1 : Kd.C (Kd.int .u64) w A1 l1.length l1) (hc1 : l1.length ≤ c1)
    (w0 : ∀ x ∈ l0, (Lit.int .u64 x).wf = true) (w1 : ∀ x ∈ l1, (Lit.int .u64 x).wf = true) (w2 : (Lit.int .u64 a2).wf = true) :
    Calls Try.prog 7 #[.slice A0 l0.length c0, .slice A1 l1.length c1, .int .u64 a2] w fun e w' => e = .returned (.bool true) ∧ Below w.heap.size w w' := by
  by_cases hl : 100 < l0.length ∨ l0.length ≤ 100 ∧ 100 < l1.length
  · exact Mosts.long 1 _ _ _ _ _ _ _ _ a2 w rfl rfl hl ⟨awake_f 0⟩
  · have b0 : l0.length ≤ 100 := by omega
    have b1 : l1.length ≤ 100 := by omega
    have hb := bounds_u64 w2
    have hk : ∀ (l : List Int), (∀ x ∈ l, (Lit.int .u64 x).wf = true) → l.length ≤ 200 → word_Most.f 300 l = some (most 0 l) := fun l hw h => most_f 300 l hw (by omega) (by omega)
    have ok : ∀ x : Int, 0 ≤ x → x ≤ 18446744073709551615 → (Lit.int .u64 x).wf = true := fun x h1 h2 => by
      simp [Lit.wf, IntKind.min, IntKind.max, IntKind.signed, IntKind.bits]; omega
    have s0 := most_small l0
    have s1 := most_small l1
    have hlock : bits .or .u64 a2 9223372036854775808 = a2 % 9223372036854775808 + 9223372036854775808 := Bits.lock hb.1 hb.2
    have hab := absent_f true hb.1 hb.2
    rw [if_pos rfl] at hab
    have z0 : 0 ≤ a2 - a2 / 4611686018427387904 % 2 * 4611686018427387904 + 4611686018427387904 ∧ a2 - a2 / 4611686018427387904 % 2 * 4611686018427387904 + 4611686018427387904 ≤ 18446744073709551615 ∧ (a2 - a2 / 4611686018427387904 % 2 * 4611686018427387904 + 4611686018427387904) % 4611686018427387904 = a2 % 4611686018427387904 := ⟨by omega, by omega, by omega⟩
    generalize a2 - a2 / 4611686018427387904 % 2 * 4611686018427387904 + 4611686018427387904 = z at *
    refine Mosts.core 300 A0 c0 l0 A1 c1 l1 a2 w hr0 hc0 hr1 hc1 b0 b1 (a2 % 9223372036854775808 + 9223372036854775808) (most 0 (l0 ++ l1)) (most 0 l0) (most 0 l1) (a2 % 4611686018427387904) z (bits .and .u64 a2 9223372036854775808 == 0) ⟨awake_f 299⟩ ⟨?_⟩
      [] ([] ++ l0) ([] ++ l0 ++ l1) [] ([] ++ l1) ([] ++ l1 ++ l0) _ _ _ ⟨rfl⟩ ⟨rfl⟩ ⟨rfl⟩ ⟨rfl⟩ ⟨rfl⟩ ⟨rfl⟩ ⟨rfl⟩ ⟨rfl⟩ ⟨rfl⟩ ⟨?_⟩ ⟨?_⟩ ⟨hk l0 w0 (by omega)⟩ ⟨hk l1 w1 (by omega)⟩ ⟨?_⟩ ⟨?_⟩ ⟨stamp_f hb.1 hb.2⟩ ⟨hab⟩ ⟨?_⟩
    · unfold word_Lock.f; rw [hlock]
    · rw [List.nil_append]
      exact hk _ (fun x hx => (List.mem_append.1 hx).elim (w0 x) (w1 x)) (by rw [List.length_append]; omega)
    · rw [List.nil_append, ← most_turned]
      exact hk _ (fun x hx => (List.mem_append.1 hx).elim (w1 x) (w0 x)) (by rw [List.length_append]; omega)
    · rw [← most_two]
      exact hk _ (fun x hx => by
        rcases List.mem_cons.1 hx with rfl | hx
        · exact ok _ s0.1 (by omega)
        · rw [List.mem_singleton.1 hx]; exact ok _ s1.1 (by omega)) (by simp)
    · rw [hk _ (fun x hx => by rw [List.mem_singleton.1 hx]; exact ok _ (by omega) (by omega)) (by simp)]
      show some (mx 0 _) = _
      unfold mx
      congr 1
      split <;> omega
    · rw [hk _ (fun x hx => by
        rcases List.mem_cons.1 hx with rfl | hx
        · exact ok _ z0.1 z0.2.1
        · rw [List.mem_singleton.1 hx]; exact w2) (by simp)]
      show some (mx (mx 0 _) _) = _
      rw [z0.2.2]
      unfold mx
      congr 1
      split <;> (try split) <;> omega

/-- The walk out of what a row opens. -/
theorem walk_rows (a0 : Option Addr) (len0 cap0 : Nat) (z0 : List Int) (a1 : Option Addr) (len1 cap1 : Nat) (z1 : List Int) (a2 : Int) (w : World)
    (w0 : (a0 = none ∧ len0 = 0 ∧ cap0 = 0 ∧ z0 = []) ∨ ∃ x, a0 = some x ∧ len0 ≤ cap0 ∧ cap0 ≤ maxLen ∧ z0.length = cap0 ∧ (∀ i, i < z0.length → w.cell? (x.add i) = some (.int .u64 (z0.getD i 0))) ∧ ∀ n ∈ z0, (Lit.int .u64 n).wf = true)
    (w1 : (a1 = none ∧ len1 = 0 ∧ cap1 = 0 ∧ z1 = []) ∨ ∃ x, a1 = some x ∧ len1 ≤ cap1 ∧ cap1 ≤ maxLen ∧ z1.length = cap1 ∧ (∀ i, i < z1.length → w.cell? (x.add i) = some (.int .u64 (z1.getD i 0))) ∧ ∀ n ∈ z1, (Lit.int .u64 n).wf = true) (w2 : (Lit.int .u64 a2).wf = true) :
    Calls Try.prog 7 #[.slice a0 len0 cap0, .slice a1 len1 cap1, .int .u64 a2] w fun e w' => e = .returned (.bool true) ∧ Below w.heap.size w w' := by
  obtain ⟨l0, rfl, hr0, hm0, hw0, hc0⟩ := ReadsInt.ofRowC w0
  obtain ⟨l1, rfl, hr1, hm1, hw1, hc1⟩ := ReadsInt.ofRowC w1
  exact walk _ _ l0 _ _ l1 a2 w (Kd.C_of_reads (d := (0 : Int)) (h1 := fun _ => rfl) hr0) hc0 (Kd.C_of_reads (d := (0 : Int)) (h1 := fun _ => rfl) hr1) hc1 hw0 hw1 w2

end Go.Proofs.Ytgbljjemmnobnaa.MostsPure
