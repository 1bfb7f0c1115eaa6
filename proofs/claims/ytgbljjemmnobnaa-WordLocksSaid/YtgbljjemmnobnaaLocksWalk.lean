/-
  WordLocks' walk, for every word: what the calls come to, put into the core of the walk. No condition but that the number is a word.
-/
import Derived.Test.YtgbljjemmnobnaaLocks
import Derived.Test.YtgbljjemmnobnaaPureWordPacks
namespace Go.Proofs.Ytgbljjemmnobnaa.Locks
open Go.RowKit Go.Proofs.Ytgbljjemmnobnaa.PWordPacks Go.Proofs.Ytgbljjemmnobnaa.Pure Go.Proofs.YtgbljjemmnobnaaW.PrintWords

theorem parts_calls {a : Int} (h0 : 0 ≤ a) (h1 : a ≤ 18446744073709551615) {L A : Bool} {E S : Int} (hL : decide (9223372036854775808 ≤ a) = L) (hA : decide (a / 4611686018427387904 % 2 = 1) = A)
    (hE : a % 4611686018427387904 / 2147483648 = E) (hS : a % 2147483648 = S) (w : World) :
    Calls Try.prog 13 #[.int .u64 a] w fun e w' => e = .returned (.tuple #[.bool L, .bool A, .int .u64 E, .int .u64 S]) ∧ Drawn0 w w' :=
  cobwebref04_Parts.calls a L A E S w (by rw [refparts_f h0 h1, hL, hA, hE, hS])

theorem stamp_calls {a s : Int} (h0 : 0 ≤ a) (h1 : a ≤ 18446744073709551615) (hs : a % 4611686018427387904 = s) (w : World) :
    Calls Try.prog 12 #[.int .u64 a] w fun e w' => e = .returned (.int .u64 s) ∧ Drawn0 w w' :=
  word_Stamp.calls a s w (by rw [stamp_f h0 h1, hs])

theorem walk (a : Int) (is : Bool) (w : World) (hw : (Lit.int .u64 a).wf = true) :
    Calls Try.prog 4 #[.int .u64 a, .bool is] w fun e w' => e = .returned (.bool true) ∧ Below w.heap.size w w' := by
  have hb := bounds_u64 hw
  obtain ⟨h0, h1⟩ := hb
  have hz : ∃ z, word_Absent.f a is = some z ∧ 0 ≤ z ∧ z ≤ 18446744073709551615 ∧ (9223372036854775808 ≤ z ↔ 9223372036854775808 ≤ a) ∧ (z / 4611686018427387904 % 2 = 1 ↔ is = true) ∧ z % 4611686018427387904 = a % 4611686018427387904 := by
    refine ⟨_, absent_f is h0 h1, ?_⟩
    cases is
    · rw [if_neg (by decide)]
      exact ⟨by omega, by omega, by omega, ⟨fun h => by omega, fun h => by cases h⟩, by omega⟩
    · rw [if_pos rfl]
      exact ⟨by omega, by omega, by omega, ⟨fun _ => rfl, fun _ => by omega⟩, by omega⟩
  obtain ⟨z, ez, z0, z1, zL, zA, zs⟩ := hz
  have hx : bits .or .u64 a 9223372036854775808 = a % 9223372036854775808 + 9223372036854775808 := Bits.lock h0 h1
  have hy : bits .andNot .u64 a 9223372036854775808 = a % 9223372036854775808 := Bits.unlock h0 h1
  have hok : (bits .and .u64 a 9223372036854775808 == 0) = !decide (9223372036854775808 ≤ a) := by
    rw [Bits.and63 h0 h1]
    by_cases h : 9223372036854775808 ≤ a
    · rw [decide_eq_true h, Bool.not_true, beq_eq_false_iff_ne]; omega
    · rw [decide_eq_false h, Bool.not_false, beq_iff_eq]; omega
  refine core a (a % 9223372036854775808 + 9223372036854775808) (a % 9223372036854775808) z (a % 4611686018427387904) (a % 4611686018427387904 / 2147483648) (a % 2147483648) (decide (9223372036854775808 ≤ a)) (decide (a / 4611686018427387904 % 2 = 1)) is w
    ⟨fun w => cobweblaw04_awake.calls 1 true w (awake_f 0)⟩
    ⟨fun w => ?_⟩ ⟨fun w => ?_⟩ ⟨fun w => word_Absent.calls a is z w ez⟩ ⟨parts_calls h0 h1 rfl rfl rfl rfl⟩
    ⟨parts_calls (by omega) (by omega) (decide_eq_true (by omega)) ?_ (by omega) (by omega)⟩
    ⟨parts_calls (by omega) (by omega) (decide_eq_false (by omega)) ?_ (by omega) (by omega)⟩
    ⟨parts_calls z0 z1 ?_ ?_ (by omega) (by omega)⟩
    ⟨stamp_calls h0 h1 rfl⟩ ⟨stamp_calls (by omega) (by omega) (by omega)⟩ ⟨stamp_calls (by omega) (by omega) (by omega)⟩ ⟨stamp_calls z0 z1 (by omega)⟩
  · have := lock_calls a w
    rw [hx, hok] at this
    exact this
  · have := unlock_calls a w
    rw [hy] at this
    exact this
  · rw [decide_eq_decide]; omega
  · rw [decide_eq_decide]; omega
  · rw [decide_eq_decide]; exact zL
  · cases is
    · exact decide_eq_false (by simpa using zA)
    · exact decide_eq_true (by simpa using zA)

end Go.Proofs.Ytgbljjemmnobnaa.Locks
