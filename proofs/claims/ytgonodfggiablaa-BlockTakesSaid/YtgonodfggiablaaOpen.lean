/-
  Arguments that hold slices, opened into what the walks read: a list of pieces of bytes; a list of blocks; bytes. Their conditions: that the argument is read as data.
-/
import Derived.Test.YtgonodfggiablaaMem
import Derived.Test.YtgonodfggiablaaCrc
import Derived.Deep.Matrix
import Derived.Deep.SlicePairs
import Derived.OpenShut
namespace Go.Proofs.Ytgonodfggiablaa.Open
open Go.RowKit Go.Deep Go.ChangeShapes Go.Proofs.YtgonodfggiablaaW.PrintWords Go.Proofs.YtgonodfggiablaaW.PrintLast Go.Proofs.YtgonodfggiablaaW.PrintMore

theorem getD_take (Z : List Int) (n j : Nat) (h : j < n) : (Z.take n).getD j 0 = Z.getD j 0 := by
  simp [List.getD_eq_getElem?_getD, h]
theorem bytes_C {W : World} {A : Option Addr} {L C : Nat} {Z : List Int} (hL : L ≤ C) (hC : C ≤ maxLen) (hZ : Z.length = C) (hn : A = none → C = 0) (hc : ∀ a', A = some a' → ∀ c, c < C → W.cell? (a'.add c) = some (.int .u8 (Z.getD c 0))) :
    (Z.take L).length = L ∧ (Kd.int .u8).C W A (Z.take L).length (Z.take L) := by
  have hl : (Z.take L).length = L := by rw [List.length_take]; omega
  refine ⟨hl, Kd.C_of_reads (d := (0 : Int)) (h1 := fun _ => rfl) ⟨rfl, by unfold maxLen at hC; omega, fun h0 => ?_⟩⟩
  cases A with
  | none => have := hn rfl; omega
  | some a => exact ⟨a, rfl, fun j hj => by rw [getD_take _ _ _ (by omega)]; exact hc a rfl j (by omega)⟩
theorem wf_bytes {Z : List Int} (h : ∀ n ∈ Z, (Lit.int .u8 n).wf = true) (L : Nat) : Crc.IsBytes (Z.take L) := fun x hx => bounds_u8 (h x (List.mem_of_mem_take hx))

theorem pieces {H : Type} {enc : TypeId × Value → H} {W : World} {fuel : Nat} {a : Option Addr} {len cap : Nat} {x : DataW H × List MemPlace}
    (h : DataW.trod enc Try.prog W 0 (fun _ => true) true fuel 22 [.slice a len cap] = some x) :
    ∃ l : List (List Int), len = l.length ∧ l.length ≤ cap ∧ Kd.C (Kd.slice 5 (Kd.int .u8)) W a l.length l ∧ ∀ b ∈ l, Crc.IsBytes b := by
  rcases open_int_rows Try.underlying22 Try.underlying24 Try.underlying5 (by kernel_rfl) (by kernel_rfl) h with ⟨hcs, _⟩ | ⟨a1, len1, cap1, A, L, C, Z, hcs, _, hl, hm, _, hr⟩
  · simp at hcs
    obtain ⟨rfl, rfl, rfl⟩ := hcs
    exact ⟨[], rfl, Nat.le_refl _, Kd.C_nil _ _, by simp⟩
  · simp at hcs
    obtain ⟨rfl, rfl, rfl⟩ := hcs
    refine ⟨(List.range len).map fun r => (Z r).take (L r), by simp, by simpa using hl, ⟨rfl, by unfold maxLen at hm; simp; omega, fun _ => ⟨a1, rfl, fun j p hj => ?_⟩⟩, fun b hb => ?_⟩
    · have hjl : j < len := by have := (List.getElem?_eq_some_iff.1 hj).1; simpa using this
      obtain rfl : (Z j).take (L j) = p := by simpa [hjl] using hj
      obtain ⟨hc, h1, h2, h3, h4, h5, h6⟩ := hr j (by omega)
      obtain ⟨hb1, hb2⟩ := bytes_C h1 h2 h3 h5 (fun a' e => (h6 a' e).2)
      refine ⟨[.slice (A j) (L j) (C j)], rfl, ⟨A j, C j, by rw [hb1], by omega, hb2⟩, fun i u hi => ?_⟩
      match i, hi with
      | 0, hi =>
        obtain rfl := Option.some.inj hi
        rw [show j * (Kd.slice 5 (Kd.int .u8)).sz + 0 = j from Nat.mul_one j]
        exact hc
    · obtain ⟨r, hr', rfl⟩ := List.mem_map.1 hb
      exact wf_bytes (hr r (by have := List.mem_range.1 hr'; omega)).2.2.2.2.1 _

/-- One slice of bytes, wherever it lies. -/
theorem bytes {H : Type} {enc : TypeId × Value → H} {W : World} {fuel : Nat} {v : Value} {x : DataW H × List MemPlace} (h : DataW.trod enc Try.prog W 0 (fun _ => true) true fuel 24 [v] = some x) :
    ∃ (A : Option Addr) (c : Nat) (l : List Int), v = .slice A l.length c ∧ l.length ≤ c ∧ (Kd.int .u8).C W A l.length l ∧ Crc.IsBytes l ∧ c ≤ maxLen := by
  rcases open_ints Try.underlying24 Try.underlying5 (by kernel_rfl) h with ⟨hcs, _⟩ | ⟨a, len, cap, zs, hcs, _, hl, hm, hz, _, hcell, hwz⟩
  · simp at hcs
    subst hcs
    exact ⟨none, 0, [], rfl, Nat.le_refl _, Kd.C_nil _ _, by simp [Crc.IsBytes], Nat.zero_le _⟩
  · simp at hcs
    subst hcs
    simp only [if_true] at hz
    obtain ⟨h1, h2⟩ := bytes_C (W := W) (A := some a) hl hm hz (by simp) (fun a' e c hc => by
      injection e with e
      subst e
      exact hcell c (by omega))
    exact ⟨some a, cap, zs.take len, by rw [h1], by omega, h2, wf_bytes hwz _, hm⟩

/-- Pairs of a kind and a body. -/
def kp : Kd (Int × List Int) := Kd.pair (Kd.int .u8) (Kd.slice 5 (Kd.int .u8))
theorem blocks {H : Type} {enc : TypeId × Value → H} {W : World} {fuel : Nat} {a : Option Addr} {len cap : Nat} {x : DataW H × List MemPlace}
    (h : DataW.trod enc Try.prog W 0 (fun _ => true) true fuel 32 [.slice a len cap] = some x) :
    ∃ l : List (Int × List Int), len = l.length ∧ l.length ≤ cap ∧ Kd.C kp W a l.length l ∧ ∀ b ∈ l, (0 ≤ b.1 ∧ b.1 ≤ 255) ∧ Crc.IsBytes b.2 := by
  rcases open_slice_pairs Try.underlying32 Try.underlying30 (by kernel_rfl) rfl rfl (by kernel_rfl) (by kernel_rfl) h with ⟨hcs, _⟩ | ⟨a1, len1, cap1, m, n, V0, V1, D0, D1, P0, P1, hcs, _, hl, hm, hmm, _, hr⟩
  · simp at hcs
    obtain ⟨rfl, rfl, rfl⟩ := hcs
    exact ⟨[], rfl, Nat.le_refl _, Kd.C_nil _ _, by simp⟩
  · simp at hcs
    obtain ⟨rfl, rfl, rfl⟩ := hcs
    simp only [if_true] at hmm
    subst hmm
    have each : ∀ i, i < m → ∃ y : Int × (Option Addr × Nat × List Int), V0 i = .int .u8 y.1 ∧ V1 i = .slice y.2.1 y.2.2.2.length y.2.2.1 ∧ y.2.2.2.length ≤ y.2.2.1 ∧ (Kd.int .u8).C W y.2.1 y.2.2.2.length y.2.2.2 ∧ (0 ≤ y.1 ∧ y.1 ≤ 255) ∧ Crc.IsBytes y.2.2.2 := by
      intro i hi
      obtain ⟨_, _, t0, t1⟩ := hr i hi
      obtain ⟨z, e0, _, wz⟩ := DataW.trod_int Try.underlying5 t0
      obtain ⟨A, c, l, e1, h1, h2, h3, _⟩ := bytes t1
      exact ⟨(z, A, c, l), by simpa using e0, e1, h1, h2, bounds_u8 wz, h3⟩
    obtain ⟨Y, hY⟩ := choose_lt each
    refine ⟨(List.range len).map fun r => ((Y r).1, (Y r).2.2.2), by simp, by simpa using hl, ⟨rfl, by unfold maxLen at hm; simp; omega, fun _ => ⟨a1, rfl, fun j p hj => ?_⟩⟩, fun b hb => ?_⟩
    · have hjl : j < len := by have := (List.getElem?_eq_some_iff.1 hj).1; simpa using this
      obtain rfl : ((Y j).1, (Y j).2.2.2) = p := by simpa [hjl] using hj
      obtain ⟨c0, c1, _, _⟩ := hr j (by omega)
      obtain ⟨e0, e1, h1, h2, _, _⟩ := hY j (by omega)
      rw [e0] at c0
      rw [e1] at c1
      refine ⟨[.int .u8 (Y j).1, .slice (Y j).2.1 (Y j).2.2.2.length (Y j).2.2.1], rfl, ⟨[_], [_], rfl, rfl, ⟨_, _, rfl, h1, h2⟩⟩, fun i u hi => ?_⟩
      match i, hi with
      | 0, hi =>
        obtain rfl := Option.some.inj hi
        exact c0
      | 1, hi =>
        obtain rfl := Option.some.inj hi
        exact c1
    · obtain ⟨r, hr', rfl⟩ := List.mem_map.1 hb
      exact (hY r (by have := List.mem_range.1 hr'; omega)).2.2.2.2
end Go.Proofs.Ytgonodfggiablaa.Open
