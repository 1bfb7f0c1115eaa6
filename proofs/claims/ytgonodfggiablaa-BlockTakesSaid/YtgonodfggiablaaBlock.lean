/-
  Blocks in plain lists: what the bytes of a block are, that bytes which begin with them begin with just that block, and what is scanned. Conditions: kinds and bodies are bytes, bodies have at most 2^20 of them.
-/
import Derived.Test.YtgonodfggiablaaTake
namespace Go.Proofs.Ytgonodfggiablaa.Block
open Go.RowKit Go.Proofs.YtgonodfggiablaaW.PrintWords
open Go.Proofs.Ytgonodfggiablaa.Word (word4)
open Go.Proofs.Ytgonodfggiablaa.Take (tk)
open Go.Proofs.Ytgonodfggiablaa.Crc (IsBytes)

def four (n : Int) : List Int := [n / 16777216 % 256, n / 65536 % 256, n / 256 % 256, n % 256]
def head (k : Int) (b : List Int) : List Int := [203, k] ++ four b.length ++ b
/-- A block's bytes. -/
def enc (k : Int) (b : List Int) : List Int := head k b ++ four (Crc.sum (head k b))

theorem four_bytes (n : Int) : IsBytes (four n) := by
  intro x hx
  simp only [four, List.mem_cons, List.not_mem_nil, or_false] at hx
  omega
theorem bytes_append {a b : List Int} (ha : IsBytes a) (hb : IsBytes b) : IsBytes (a ++ b) := fun x hx => (List.mem_append.1 hx).elim (ha x) (hb x)
theorem head_bytes {k : Int} {b : List Int} (hk : 0 ≤ k ∧ k ≤ 255) (hb : IsBytes b) : IsBytes (head k b) := by
  refine bytes_append (bytes_append (fun x hx => ?_) (four_bytes _)) hb
  simp only [List.mem_cons, List.not_mem_nil, or_false] at hx
  omega
theorem enc_bytes {k : Int} {b : List Int} (hk : 0 ≤ k ∧ k ≤ 255) (hb : IsBytes b) : IsBytes (enc k b) := bytes_append (head_bytes hk hb) (four_bytes _)
theorem head_length (k : Int) (b : List Int) : (head k b).length = b.length + 6 := by simp [head, four]
theorem enc_length (k : Int) (b : List Int) : (enc k b).length = b.length + 10 := by simp [enc, head, four]
theorem word4_four (n : Int) (h0 : 0 ≤ n) (h1 : n ≤ 4294967295) (rest : List Int) : word4 (four n ++ rest) = n := by
  show n / 16777216 % 256 * 16777216 + n / 65536 % 256 * 65536 + n / 256 % 256 * 256 + n % 256 = n
  omega

theorem tk_enc (k : Int) (b rest : List Int) (hk : 0 ≤ k ∧ k ≤ 255) (hb : IsBytes b) (hl : b.length ≤ 1048576) : tk (enc k b ++ rest) = (k, b, (b.length : Int) + 10, 0) := by
  have e1 : enc k b ++ rest = head k b ++ (four (Crc.sum (head k b)) ++ rest) := by unfold enc; rw [List.append_assoc]
  have h0 : rd (enc k b ++ rest) 0 = 203 := rfl
  have h1 : rd (enc k b ++ rest) 1 = k := rfl
  have hd : (enc k b ++ rest).drop 2 = four b.length ++ (b ++ four (Crc.sum (head k b)) ++ rest) := by simp [enc, head]
  have hw : word4 ((enc k b ++ rest).drop 2) = (b.length : Int) := by rw [hd]; exact word4_four _ (by omega) (by omega) _
  have hlen : (enc k b ++ rest).length = b.length + 10 + rest.length := by rw [List.length_append, enc_length]
  have hdr : (enc k b ++ rest).drop (b.length + 6) = four (Crc.sum (head k b)) ++ rest := by rw [e1]; exact List.drop_left' (head_length k b)
  have htk : (enc k b ++ rest).take (b.length + 6) = head k b := by rw [e1]; exact List.take_left' (head_length k b)
  have hs := Crc.sum_range _ (head_bytes hk hb)
  have hall : Sum.all [head k b] = Crc.sum (head k b) := by
    rw [Crc.all_eq [head k b] (by simpa using head_bytes hk hb)]; simp
  have hbody : (head k b).drop 6 = b := by simp [head, four]
  unfold Take.tk
  rw [if_neg (by omega), if_neg (by rw [h0]; simp), if_neg (by omega), hw, if_neg (by omega), if_neg (by omega), Int.toNat_natCast, hdr, htk, word4_four _ hs.1 hs.2, hall, if_neg (by simp), hbody, h1]

/-- What is taken is a block of the bytes. -/
theorem tk_taken {l : List Int} (hb : IsBytes l) (h : (tk l).2.2.2 = 0) : 10 ≤ (tk l).2.2.1 ∧ (tk l).2.2.1 ≤ (l.length : Int) ∧ (0 ≤ (tk l).1 ∧ (tk l).1 ≤ 255) ∧ IsBytes (tk l).2.1 ∧ (tk l).2.1.length ≤ l.length := by
  have hr := Word.word4_range (l := l.drop 2) (fun x hx => hb x (List.mem_of_mem_drop hx))
  revert h
  unfold Take.tk
  repeat' split
  all_goals intro h
  all_goals first
    | (exfalso; revert h; decide)
    | skip
  refine ⟨by dsimp only; omega, by dsimp only; omega, Word.rd_byte hb 1, fun x hx => hb x (List.mem_of_mem_take (List.mem_of_mem_drop hx)), ?_⟩
  simp only [List.length_drop, List.length_take]
  omega

/-- The blocks with which bytes begin. -/
def scan : Nat → List Int → List (Int × List Int) × Int
  | 0, _ => ([], 0)
  | n + 1, l => if (tk l).2.2.2 = 0 then (((tk l).1, (tk l).2.1) :: (scan n (l.drop (tk l).2.2.1.toNat)).1, (tk l).2.2.1 + (scan n (l.drop (tk l).2.2.1.toNat)).2) else ([], 0)
theorem scan_more : ∀ (n m : Nat) (l : List Int), IsBytes l → l.length ≤ n → n ≤ m → scan (m + 1) l = scan (n + 1) l
  | n, m, l, hb, hn, hm => by
    unfold scan
    by_cases h : (tk l).2.2.2 = 0
    · rw [if_pos h, if_pos h]
      obtain ⟨h1, h2, _, _⟩ := tk_taken hb h
      obtain ⟨n, rfl⟩ : ∃ q, n = q + 1 := ⟨n - 1, by omega⟩
      obtain ⟨m, rfl⟩ : ∃ q, m = q + 1 := ⟨m - 1, by omega⟩
      rw [scan_more n m (l.drop (tk l).2.2.1.toNat) (fun x hx => hb x (List.mem_of_mem_drop hx)) (by rw [List.length_drop]; omega) (by omega)]
    · rw [if_neg h, if_neg h]
termination_by n => n
theorem scan_range : ∀ (n : Nat) (l : List Int), IsBytes l → 0 ≤ (scan n l).2 ∧ (scan n l).2 ≤ l.length ∧ 10 * ((scan n l).1.length : Int) ≤ l.length ∧ ∀ x ∈ (scan n l).1, (0 ≤ x.1 ∧ x.1 ≤ 255) ∧ IsBytes x.2 ∧ x.2.length ≤ l.length
  | 0, l, _ => by simp [scan]
  | n + 1, l, hb => by
    unfold scan
    by_cases h : (tk l).2.2.2 = 0
    · rw [if_pos h]
      obtain ⟨h1, h2, h3, h4, h5⟩ := tk_taken hb h
      obtain ⟨i1, i2, i3, i4⟩ := scan_range n (l.drop (tk l).2.2.1.toNat) (fun x hx => hb x (List.mem_of_mem_drop hx))
      rw [List.length_drop] at i2 i3
      refine ⟨by dsimp only; omega, by dsimp only; omega, by simp only [List.length_cons]; omega, fun x hx => ?_⟩
      rcases List.mem_cons.1 hx with rfl | hx
      · exact ⟨h3, h4, h5⟩
      · obtain ⟨a, b, c⟩ := i4 x hx
        exact ⟨a, b, by rw [List.length_drop] at c; omega⟩
    · rw [if_neg h]
      simp
/-- The bytes of several blocks. -/
def encs (xs : List (Int × List Int)) : List Int := (xs.map fun x => enc x.1 x.2).flatten
def Ok (m : Nat) (xs : List (Int × List Int)) : Prop := ∀ x ∈ xs, (0 ≤ x.1 ∧ x.1 ≤ 255) ∧ IsBytes x.2 ∧ x.2.length ≤ m
theorem encs_cons (x : Int × List Int) (xs : List (Int × List Int)) : encs (x :: xs) = enc x.1 x.2 ++ encs xs := by simp [encs]
theorem encs_bytes {m : Nat} : ∀ {xs : List (Int × List Int)}, Ok m xs → IsBytes (encs xs)
  | [], _ => by intro x hx; simp [encs] at hx
  | x :: xs, h => by
    rw [encs_cons]
    have hx := h x List.mem_cons_self
    exact bytes_append (enc_bytes hx.1 hx.2.1) (encs_bytes fun y hy => h y (List.mem_cons_of_mem _ hy))
theorem encs_length {m : Nat} : ∀ {xs : List (Int × List Int)}, Ok m xs → (encs xs).length ≤ xs.length * (m + 10)
  | [], _ => by simp [encs]
  | x :: xs, h => by
    rw [encs_cons, List.length_append, enc_length, List.length_cons, Nat.succ_mul]
    have hx := h x List.mem_cons_self
    have := encs_length (xs := xs) fun y hy => h y (List.mem_cons_of_mem _ hy)
    omega
theorem scan_encs : ∀ (xs : List (Int × List Int)) (tail : List Int) (n : Nat), Ok 1048576 xs → IsBytes tail → (encs xs ++ tail).length ≤ n →
    scan (n + 1) (encs xs ++ tail) = (xs ++ (scan (n + 1) tail).1, ((encs xs).length : Int) + (scan (n + 1) tail).2)
  | [], tail, n, _, _, _ => by simp [encs]
  | x :: xs, tail, n, h, ht, hn => by
    have hx := h x List.mem_cons_self
    have hr : Ok 1048576 xs := fun y hy => h y (List.mem_cons_of_mem _ hy)
    have hn2 := hn
    rw [encs_cons, List.append_assoc, List.length_append, enc_length, List.length_append] at hn2
    obtain ⟨n, rfl⟩ : ∃ q, n = q + 1 := ⟨n - 1, by omega⟩
    have ih := scan_encs xs tail n hr ht (by rw [List.length_append]; omega)
    have ht2 : scan (n + 1 + 1) tail = scan (n + 1) tail := scan_more n (n + 1) tail ht (by omega) (by omega)
    rw [ht2, encs_cons, List.append_assoc]
    have e := tk_enc x.1 x.2 (encs xs ++ tail) hx.1 hx.2.1 hx.2.2
    have hd : (enc x.1 x.2 ++ (encs xs ++ tail)).drop ((x.2.length : Int) + 10).toNat = encs xs ++ tail :=
      List.drop_left' (by rw [enc_length]; omega)
    conv => lhs; unfold scan
    rw [e]
    dsimp only
    rw [if_pos rfl, hd, ih, List.length_append, enc_length]
    simp only [List.cons_append, Prod.mk.injEq, true_and]
    omega
end Go.Proofs.Ytgonodfggiablaa.Block
