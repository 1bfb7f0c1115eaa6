/- Walks of the functions that a law reaches, written by a program of this session: each function's call comes to what the Lean function of its name answers; the conditions stand in each theorem. -/
import Derived.Test.YtgonodfggiablaaQBlockPacksx0
namespace Go.Proofs.Ytgonodfggiablaa.QBlockPacks
open Go.RowKit Go.Proofs.YtgonodfggiablaaW.PrintWords Go.Proofs.YtgonodfggiablaaW.PrintLast Go.Proofs.YtgonodfggiablaaW.PrintMore
attribute [local go_sem] max2_int min2_int max_two min_two max_three min_three max_four min_four   -- for this text's walks alone
set_option linter.unusedVariables false
set_option linter.unusedSimpArgs false

/-! ### cobwebref08_Same: function 13 -/
/-- Do two blocks look alike? -/
def likeB (a b : S30) : Bool := a.f0 == b.f0 && (strOfNums a.f1).toList == (strOfNums b.f1).toList
def sameB (l0 l1 : List S30) : Bool := l0.length == l1.length && (List.zip l0 l1).all (fun p => likeB p.1 p.2)
theorem sameB_no {l0 l1 : List S30} (i : Nat) (h0 : i < l0.length) (h1 : i < l1.length) (h : likeB l0[i] l1[i] = false) : sameB l0 l1 = false := by
  unfold sameB
  rw [Bool.and_eq_false_iff]
  right
  rw [List.all_eq_false]
  exact ⟨(l0[i], l1[i]), List.mem_iff_getElem.2 ⟨i, by simp; omega, by simp⟩, by simp [h]⟩
theorem sameB_yes {l0 l1 : List S30} (hl : l0.length = l1.length) (h : ∀ i (h0 : i < l0.length) (h1 : i < l1.length), likeB l0[i] l1[i] = true) : sameB l0 l1 = true := by
  unfold sameB
  rw [Bool.and_eq_true]
  refine ⟨beq_iff_eq.2 hl, List.all_eq_true.2 fun p hp => ?_⟩
  obtain ⟨i, hi, rfl⟩ := List.mem_iff_getElem.1 hp
  simp only [List.length_zip] at hi
  simpa using h i (by omega) (by omega)
set_option maxHeartbeats 4000000 in
set_option maxRecDepth 100000 in
theorem same_any (A0 : Option Addr) (c0 : Nat) (l0 : List (S30)) (A1 : Option Addr) (c1 : Nat) (l1 : List (S30)) (w : World) (hr0 : Kd.C k30 w A0 l0.length l0) (hc0 : l0.length ≤ c0) (hr1 : Kd.C k30 w A1 l1.length l1) (hc1 : l1.length ≤ c1) :
    Calls Try.prog 13 #[.slice A0 l0.length c0, .slice A1 l1.length c1] w fun e w' => e = .returned (.bool (sameB l0 l1)) ∧ Drawn0 w w' := by
  have HR0 := Aside0.mk hr0
  have HR1 := Aside0.mk hr1
  have hmx : l0.length ≤ 9223372036854775807 := hr0.2.1
  clear hr0 hr1
  by_cases hl : l0.length = l1.length
  · have HL := Aside0.mk hl
    have e0 : ((l0.length : Int) == (l1.length : Int)) = true := beq_iff_eq.2 (by omega)
    have e1 : ((l0.length : Int) != (l1.length : Int)) = false := bne_eq_false_iff_eq.2 (by omega)
    clear hl
    go_enter Try.func13, Try.ntmps13
    go_wp2
    go_loopg [5] (l0.length) (fun kq v5 wr => ∃ (k : Nat), v5 = .int .i64 k ∧ Aside0 (k + kq = l0.length) ∧ k ≤ l0.length ∧ Aside0 (∀ i (h0 : i < l0.length) (h1 : i < l1.length), i < k → likeB l0[i] l1[i] = true) ∧ Drawn0 w wr)
    case atStart => exact ⟨0, rfl, ⟨by omega⟩, Nat.zero_le _, ⟨fun i _ _ h => absurd h (Nat.not_lt_zero _)⟩, Drawn0.refl _⟩
    case round =>
      obtain ⟨k, rfl, HK, hk, HA, ⟨m, rfl⟩⟩ := hrel
      clear e0 e1
      by_cases hlt : k < l0.length
      · have hl1 : k < l1.length := by have := HL.out; omega
        obtain ⟨ad0, B0, d0, ea0, hx0, hy0, hn0, hC0⟩ := at_T30 HR0.out (k : Int) (by omega) (by omega)
        obtain ⟨ad1, B1, d1, ea1, hx1, hy1, hn1, hC1⟩ := at_T30 HR1.out (k : Int) (by omega) (by omega)
        obtain ⟨x, hx⟩ : ∃ x, x = l0[k] := ⟨_, rfl⟩
        obtain ⟨y, hy⟩ : ∃ y, y = l1[k] := ⟨_, rfl⟩
        have rx : rd_T30 l0 (k : Int) = x := by rw [hx]; simp [rd_T30, hlt]
        have ry : rd_T30 l1 (k : Int) = y := by rw [hy]; simp [rd_T30, hl1]
        rw [rx] at hx0 hy0 hn0 hC0
        rw [ry] at hx1 hy1 hn1 hC1
        have HX := Aside0.mk hx
        have HY := Aside0.mk hy
        clear hx hy rx ry
        rw [Int.toNat_natCast] at hx0 hy0 hx1 hy1
        have v0 := fun n => Kd.C_string (P := Try.prog) (A := B0) (c := d0) Try.underlying24 Try.underlying5 Try.underlying9 (Kd.C_drewN hC0 n)
        have v1 := fun n => Kd.C_string (P := Try.prog) (A := B1) (c := d1) Try.underlying24 Try.underlying5 Try.underlying9 (Kd.C_drewN hC1 n)
        obtain ⟨s0, hs0⟩ : ∃ s, s = strOfNums x.f1 := ⟨_, rfl⟩
        obtain ⟨s1, hs1⟩ : ∃ s, s = strOfNums y.f1 := ⟨_, rfl⟩
        rw [← hs0] at v0
        rw [← hs1] at v1
        have HS0 := Aside0.mk hs0
        have HS1 := Aside0.mk hs1
        clear hs0 hs1 hC0 hC1
        cases ea0
        cases ea1
        by_cases hkd : x.f0 = y.f0
        · by_cases hbd : s0.toList = s1.toList
          · have HG := Aside0.mk (show likeB x y = true by unfold likeB; rw [← HS0.out, ← HS1.out, hbd, hkd]; simp)
            have b0 : (x.f0 == y.f0) = true := beq_iff_eq.2 hkd
            have b1 : (x.f0 != y.f0) = false := bne_eq_false_iff_eq.2 hkd
            have b2 : (s0.toList == s1.toList) = true := beq_iff_eq.2 hbd
            have b3 : (s0.toList != s1.toList) = false := bne_eq_false_iff_eq.2 hbd
            clear hkd hbd
            go_wp2
            go_quiet (fail)
            go_wp2
            go_roundg (l0.length - (k + 1))
            case measure => have := HK.out; omega
            case rel =>
              refine ⟨k + 1, by go_num, ⟨by omega⟩, by omega, ⟨fun i h0 h1 hi => ?_⟩, by repeat (first | exact Drawn0.refl _ | apply Drawn0.step)⟩
              rcases Nat.lt_succ_iff_lt_or_eq.1 hi with h | rfl
              · exact HA.out i h0 h1 h
              · rw [← HX.out, ← HY.out]; exact HG.out
          · have HG := Aside0.mk (show likeB x y = false by unfold likeB; rw [← HS0.out, ← HS1.out, beq_eq_false_iff_ne.2 hbd]; simp)
            have b0 : (x.f0 == y.f0) = true := beq_iff_eq.2 hkd
            have b1 : (x.f0 != y.f0) = false := bne_eq_false_iff_eq.2 hkd
            have b2 : (s0.toList == s1.toList) = false := beq_eq_false_iff_ne.2 hbd
            have b3 : (s0.toList != s1.toList) = true := bne_iff_ne.2 hbd
            clear hkd hbd
            go_wp2
            go_quiet (fail)
            go_wp2
            go_ret
            exact ⟨by rw [sameB_no k hlt hl1 (by rw [← HX.out, ← HY.out]; exact HG.out)]; rfl, by repeat (first | exact Drawn0.refl _ | apply Drawn0.step)⟩
        · have HG := Aside0.mk (show likeB x y = false by unfold likeB; rw [beq_eq_false_iff_ne.2 hkd]; simp)
          have b0 : (x.f0 == y.f0) = false := beq_eq_false_iff_ne.2 hkd
          have b1 : (x.f0 != y.f0) = true := bne_iff_ne.2 hkd
          clear hkd v0 v1
          go_wp2
          go_quiet (fail)
          go_wp2
          go_ret
          exact ⟨by rw [sameB_no k hlt hl1 (by rw [← HX.out, ← HY.out]; exact HG.out)]; rfl, by repeat (first | exact Drawn0.refl _ | apply Drawn0.step)⟩
      · go_wp2
        go_ret
        exact ⟨by rw [sameB_yes HL.out (fun i h0 h1 => HA.out i h0 h1 (by omega))]; rfl, by repeat (first | exact Drawn0.refl _ | apply Drawn0.step)⟩
  · have e0 : ((l0.length : Int) == (l1.length : Int)) = false := beq_eq_false_iff_ne.2 (by omega)
    have e1 : ((l0.length : Int) != (l1.length : Int)) = true := bne_iff_ne.2 (by omega)
    have HG := Aside0.mk (show sameB l0 l1 = false by unfold sameB; rw [beq_eq_false_iff_ne.2 hl]; rfl)
    clear hl
    go_enter Try.func13, Try.ntmps13
    go_wp2
    go_ret
    exact ⟨by rw [HG.out]; rfl, by repeat (first | exact Drawn0.refl _ | apply Drawn0.step)⟩
def cobwebref08_Same.f (l0 : List (S30)) (l1 : List (S30)) : Option (Bool) := some (sameB l0 l1)
theorem cobwebref08_Same.calls (A0 : Option Addr) (c0 : Nat) (l0 : List (S30)) (A1 : Option Addr) (c1 : Nat) (l1 : List (S30)) (r : Bool) (w : World) (hr0 : Kd.C k30 w A0 l0.length l0) (hc0 : l0.length ≤ c0) (hr1 : Kd.C k30 w A1 l1.length l1) (hc1 : l1.length ≤ c1) (h : cobwebref08_Same.f l0 l1 = some r) :
    Calls Try.prog 13 #[.slice A0 l0.length c0, .slice A1 l1.length c1] w fun e w' => e = .returned (.bool r) ∧ Drawn0 w w' := by
  obtain rfl := Option.some.inj h
  exact same_any A0 c0 l0 A1 c1 l1 w hr0 hc0 hr1 hc1

end Go.Proofs.Ytgonodfggiablaa.QBlockPacks
