/-
  WordLocks' walk: for every word and either answer the law returns true, and memory that was there is as it was. No condition but that the number is a word.
-/
import Derived.Test.YtgbljjemmnobnaaPWordPacksx2
import Derived.Test.YtgbljjemmnobnaaBits
namespace Go.Proofs.Ytgbljjemmnobnaa.Locks
open Go.RowKit Go.Proofs.Ytgbljjemmnobnaa.PWordPacks Go.Proofs.YtgbljjemmnobnaaW.PrintWords Go.Proofs.YtgbljjemmnobnaaW.PrintLast Go.Proofs.YtgbljjemmnobnaaW.PrintMore
set_option linter.unusedVariables false
set_option linter.unusedSimpArgs false

theorem lock_calls (a : Int) (w : World) : Calls Try.prog 14 #[.int .u64 a] w fun e w' => e = .returned (.tuple #[.int .u64 (Go.bits .or .u64 a 9223372036854775808), .bool (Go.bits .and .u64 a 9223372036854775808 == 0)]) ∧ Drawn0 w w' := by
  go_enter Try.func14, Try.ntmps14
  go_wp2
  go_ret2
  exact ⟨rfl, Drawn0.refl _⟩
theorem unlock_calls (a : Int) (w : World) : Calls Try.prog 15 #[.int .u64 a] w fun e w' => e = .returned (.int .u64 (Go.bits .andNot .u64 a 9223372036854775808)) ∧ Drawn0 w w' := by
  go_enter Try.func15, Try.ntmps15
  go_wp2
  go_ret
  exact ⟨rfl, Drawn0.refl _⟩

set_option maxHeartbeats 2000000 in
set_option maxRecDepth 100000 in
theorem core (a x y z s E S : Int) (L A is : Bool) (w : World)
    (h9 : Aside0 (∀ w : World, Calls Try.prog 9 #[] w fun e w' => e = .returned (.bool true) ∧ Below w.heap.size w w'))
    (h14 : Aside0 (∀ w : World, Calls Try.prog 14 #[.int .u64 a] w fun e w' => e = .returned (.tuple #[.int .u64 x, .bool (!L)]) ∧ Drawn0 w w'))
    (h15 : Aside0 (∀ w : World, Calls Try.prog 15 #[.int .u64 a] w fun e w' => e = .returned (.int .u64 y) ∧ Drawn0 w w'))
    (h16 : Aside0 (∀ w : World, Calls Try.prog 16 #[.int .u64 a, .bool is] w fun e w' => e = .returned (.int .u64 z) ∧ Drawn0 w w'))
    (p0 : Aside0 (∀ w : World, Calls Try.prog 13 #[.int .u64 a] w fun e w' => e = .returned (.tuple #[.bool L, .bool A, .int .u64 E, .int .u64 S]) ∧ Drawn0 w w'))
    (p1 : Aside0 (∀ w : World, Calls Try.prog 13 #[.int .u64 x] w fun e w' => e = .returned (.tuple #[.bool true, .bool A, .int .u64 E, .int .u64 S]) ∧ Drawn0 w w'))
    (p2 : Aside0 (∀ w : World, Calls Try.prog 13 #[.int .u64 y] w fun e w' => e = .returned (.tuple #[.bool false, .bool A, .int .u64 E, .int .u64 S]) ∧ Drawn0 w w'))
    (p3 : Aside0 (∀ w : World, Calls Try.prog 13 #[.int .u64 z] w fun e w' => e = .returned (.tuple #[.bool L, .bool is, .int .u64 E, .int .u64 S]) ∧ Drawn0 w w'))
    (s0 : Aside0 (∀ w : World, Calls Try.prog 12 #[.int .u64 a] w fun e w' => e = .returned (.int .u64 s) ∧ Drawn0 w w'))
    (s1 : Aside0 (∀ w : World, Calls Try.prog 12 #[.int .u64 x] w fun e w' => e = .returned (.int .u64 s) ∧ Drawn0 w w'))
    (s2 : Aside0 (∀ w : World, Calls Try.prog 12 #[.int .u64 y] w fun e w' => e = .returned (.int .u64 s) ∧ Drawn0 w w'))
    (s3 : Aside0 (∀ w : World, Calls Try.prog 12 #[.int .u64 z] w fun e w' => e = .returned (.int .u64 s) ∧ Drawn0 w w')) :
    Calls Try.prog 4 #[.int .u64 a, .bool is] w fun e w' => e = .returned (.bool true) ∧ Below w.heap.size w w' := by
  cases L <;> cases A <;> cases is
  all_goals
    go_enter Try.func4, Try.ntmps4
    go_wp2_with (first | (go_at_call 9; refine (h9.out _).mono ?_; rintro e w1 ⟨rfl, hb⟩; have HB := Aside0.mk hb; clear hb) | (go_at_call 14; refine (h14.out _).mono ?_; rintro e w' ⟨rfl, ⟨nd, rfl⟩⟩) | (go_at_call 15; refine (h15.out _).mono ?_; rintro e w' ⟨rfl, ⟨nd, rfl⟩⟩) | (go_at_call 16; refine (h16.out _).mono ?_; rintro e w' ⟨rfl, ⟨nd, rfl⟩⟩) | (go_at_call_of 13 a; refine (p0.out _).mono ?_; rintro e w' ⟨rfl, ⟨nd, rfl⟩⟩) | (go_at_call_of 13 x; refine (p1.out _).mono ?_; rintro e w' ⟨rfl, ⟨nd, rfl⟩⟩) | (go_at_call_of 13 y; refine (p2.out _).mono ?_; rintro e w' ⟨rfl, ⟨nd, rfl⟩⟩) | (go_at_call_of 13 z; refine (p3.out _).mono ?_; rintro e w' ⟨rfl, ⟨nd, rfl⟩⟩) | (go_at_call_of 12 a; refine (s0.out _).mono ?_; rintro e w' ⟨rfl, ⟨nd, rfl⟩⟩) | (go_at_call_of 12 x; refine (s1.out _).mono ?_; rintro e w' ⟨rfl, ⟨nd, rfl⟩⟩) | (go_at_call_of 12 y; refine (s2.out _).mono ?_; rintro e w' ⟨rfl, ⟨nd, rfl⟩⟩) | (go_at_call_of 12 z; refine (s3.out _).mono ?_; rintro e w' ⟨rfl, ⟨nd, rfl⟩⟩))
    go_ret
    exact ⟨by first | rfl | simp, by repeat (first | exact HB.out | apply pw_below_drewN)⟩

end Go.Proofs.Ytgbljjemmnobnaa.Locks
