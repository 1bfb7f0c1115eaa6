/-
  Unlike blocks have unlike bytes, and none are how other ones begin; sizes add up: for every two blocks; no other condition.
-/
import Derived.Lib.Bytes
import Derived.Test.YtgonodfggiablaaApart
import Derived.Test.YtgonodfggiablaaCrc
import Derived.Test.YtgonodfggiablaaBlock
import Derived.Test.YtgonodfggiablaaOpen
namespace Go.Proofs.Ytgonodfggiablaa.Pure
open Go.RowKit Go.Proofs.Ytgonodfggiablaa.QBlockApart Go.Proofs.YtgonodfggiablaaW.PrintWords Go.Proofs.YtgonodfggiablaaW.PrintLast Go.Proofs.YtgonodfggiablaaW.PrintMore

theorem rd_at (l : List Int) (i : Nat) (h : i < l.length) : rd l (i : Int) = l[i] := by simp [rd, h]
theorem wrap_nat {n : Nat} (h : n < 4611686018427387904) : wrap64 ((n : Int) + 1) = ((n + 1 : Nat) : Int) := by unfold wrap64; omega

def ofB (x : S30) : Int × List Int := (x.f0, x.f1)
def toB (p : Int × List Int) : S30 := ⟨p.1, p.2⟩
theorem to_of (l : List S30) : (l.map ofB).map toB = l := by
  rw [List.map_map]
  have : toB ∘ ofB = id := funext fun x => rfl
  rw [this, List.map_id]
theorem rdT_at (l : List S30) (i : Nat) (h : i < l.length) : rd_T30 l (i : Int) = l[i] := by simp [rd_T30, h]
/-- Blocks of bytes, their bodies no longer than m. -/
def OkB (m : Nat) (l : List S30) : Prop := ∀ x ∈ l, (0 ≤ x.f0 ∧ x.f0 ≤ 255) ∧ Crc.IsBytes x.f1 ∧ x.f1.length ≤ m
theorem ok_of {m : Nat} {l : List S30} (h : OkB m l) : Block.Ok m (l.map ofB) := fun p hp => by
  obtain ⟨x, hx, rfl⟩ := List.mem_map.1 hp
  exact h x hx

theorem small_loop (n : Nat) : ∀ (k : Nat) (l : List S30) (i : Nat), i ≤ l.length → l.length - i = n → l.length ≤ 20 → n < k →
    ∃ b, cobweblaw08_small.l0 k l (i : Int) = some b ∧ (b = true → ∀ x ∈ l.drop i, x.f1.length ≤ 500) := by
  induction n with
  | zero =>
    intro k l i hi hn hl hk
    obtain ⟨k, rfl⟩ : ∃ m, k = m + 1 := ⟨k - 1, by omega⟩
    refine ⟨true, ?_, fun _ x hx => by rw [List.drop_of_length_le (by omega)] at hx; cases hx⟩
    simp only [cobweblaw08_small.l0]
    rw [if_neg (by omega)]
  | succ n ih =>
    intro k l i hi hn hl hk
    obtain ⟨k, rfl⟩ : ∃ m, k = m + 1 := ⟨k - 1, by omega⟩
    have hlt : i < l.length := by omega
    simp only [cobweblaw08_small.l0]
    rw [if_pos (by omega), if_pos (by omega), rdT_at l i hlt]
    by_cases hc : ((l[i]).f1.length : Int) > 500
    · rw [if_pos hc]
      exact ⟨false, rfl, fun h => by cases h⟩
    · rw [if_neg hc, wrap_nat (by omega)]
      obtain ⟨b, h1, h2⟩ := ih k l (i + 1) (by omega) (by omega) hl (by omega)
      refine ⟨b, h1, fun hb x hx => ?_⟩
      rw [List.drop_eq_getElem_cons hlt] at hx
      rcases List.mem_cons.1 hx with rfl | hx
      · omega
      · exact h2 hb x hx
theorem small_f (k : Nat) (l : List S30) (hk : 21 < k) : ∃ b, cobweblaw08_small.f k l = some b ∧ (b = true → l.length ≤ 20 ∧ ∀ x ∈ l, x.f1.length ≤ 500) := by
  unfold cobweblaw08_small.f
  by_cases hl : (l.length : Int) > 20
  · rw [if_pos hl]
    exact ⟨false, rfl, fun h => by cases h⟩
  · rw [if_neg hl]
    obtain ⟨b, h1, h2⟩ := small_loop l.length k l 0 (by omega) (by omega) (by omega) (by omega)
    exact ⟨b, h1, fun hb => ⟨by omega, h2 hb⟩⟩

theorem four_f (l : List Int) (n : Int) (hl : l.length < 1000000) : block_four.f l n = some (l ++ Block.four n) := by
  unfold block_four.f
  simp only [Option.bind_some]
  rw [if_pos (by simp only [List.length_cons, List.length_nil]; omega)]
  rfl

theorem pack_loop (n : Nat) : ∀ (k : Nat) (out : List Int) (l : List S30) (i : Nat), OkB 500 l → i ≤ l.length → l.length - i = n → l.length ≤ 20 → out.length ≤ 510 * i → n < k →
    block_Pack.l0 k out l (l.length : Int) (i : Int) = some (out ++ Block.encs ((l.drop i).map ofB), 0) := by
  induction n with
  | zero =>
    intro k out l i ho hi hn hl hout hk
    obtain ⟨k, rfl⟩ : ∃ m, k = m + 1 := ⟨k - 1, by omega⟩
    simp only [block_Pack.l0]
    rw [if_neg (by omega), List.drop_of_length_le (by omega)]
    simp [Block.encs]
  | succ n ih =>
    intro k out l i ho hi hn hl hout hk
    obtain ⟨k, rfl⟩ : ∃ m, k = m + 1 := ⟨k - 1, by omega⟩
    have hlt : i < l.length := by omega
    obtain ⟨h1, h2, h3⟩ := ho _ (List.getElem_mem hlt)
    have hh := Block.head_bytes h1 h2
    have hs := Crc.sum_range _ hh
    simp only [block_Pack.l0]
    rw [if_pos (by omega), if_pos (by omega), if_pos (by omega), rdT_at l i hlt, if_neg (by omega)]
    simp only [Option.bind_some]
    have l1 : ([203, l[i].f0] : List Int).length = 2 := rfl
    have lf : ∀ n, (Block.four n).length = 4 := fun _ => rfl
    rw [if_pos (by rw [l1]; omega), show (l[i].f1.length : Int) % 4294967296 = (l[i].f1.length : Int) from by omega, four_f _ _ (by rw [List.length_append, l1]; omega)]
    simp only [Option.bind_some]
    rw [if_pos (by rw [List.length_append, List.length_append, l1, lf]; omega), if_pos (by omega), if_pos (by rw [List.length_append, List.length_append, List.length_append]; omega), Int.toNat_natCast]
    have e : out ++ [203, l[i].f0] ++ Block.four (l[i].f1.length : Int) ++ l[i].f1 = out ++ Block.head l[i].f0 l[i].f1 := by unfold Block.head; simp
    have hhl := Block.head_length l[i].f0 l[i].f1
    rw [e, List.drop_left]
    have hsum : block_Sum.f [Block.head l[i].f0 l[i].f1] = some (Crc.sum (Block.head l[i].f0 l[i].f1)) := by
      unfold block_Sum.f
      rw [if_pos (by simp), if_pos (by simp only [List.all_cons, List.all_nil, Bool.and_true]; exact decide_eq_true (by omega)), Crc.all_eq _ (by simpa using hh)]
      simp
    rw [hsum]
    simp only [Option.bind_some]
    rw [four_f _ _ (by rw [List.length_append]; omega)]
    simp only [Option.bind_some]
    rw [wrap_nat (by omega), ih k _ l (i + 1) ho (by omega) (by omega) hl (by rw [List.length_append, List.length_append, lf]; omega) (by omega)]
    rw [List.drop_eq_getElem_cons hlt, List.map_cons, Block.encs_cons, ← List.append_assoc]
    have e2 : out ++ Block.enc (ofB l[i]).1 (ofB l[i]).2 = out ++ Block.head l[i].f0 l[i].f1 ++ Block.four (Crc.sum (Block.head l[i].f0 l[i].f1)) := by
      rw [List.append_assoc]; rfl
    rw [e2]

theorem pack_f (k : Nat) (l : List S30) (ho : OkB 500 l) (hl : l.length ≤ 20) (hk : 21 < k) : block_Pack.f k l = some (Block.encs (l.map ofB), 0) := by
  unfold block_Pack.f
  have := pack_loop l.length k [] l 0 ho (by omega) (by omega) hl (by simp) (by omega)
  rw [List.nil_append, List.drop_zero] at this
  exact this

theorem size_loop (n : Nat) : ∀ (k : Nat) (t : Nat) (l : List S30) (i : Nat), OkB 500 l → i ≤ l.length → l.length - i = n → l.length ≤ 20 → t ≤ 510 * i → n < k →
    block_Size.l0 k (t : Int) l (l.length : Int) (i : Int) = some (((t + (Block.encs ((l.drop i).map ofB)).length : Nat) : Int)) := by
  induction n with
  | zero =>
    intro k t l i ho hi hn hl ht hk
    obtain ⟨k, rfl⟩ : ∃ m, k = m + 1 := ⟨k - 1, by omega⟩
    simp only [block_Size.l0]
    rw [if_neg (by omega), List.drop_of_length_le (by omega)]
    simp [Block.encs]
  | succ n ih =>
    intro k t l i ho hi hn hl ht hk
    obtain ⟨k, rfl⟩ : ∃ m, k = m + 1 := ⟨k - 1, by omega⟩
    have hlt : i < l.length := by omega
    obtain ⟨h1, h2, h3⟩ := ho _ (List.getElem_mem hlt)
    simp only [block_Size.l0]
    rw [if_pos (by omega), if_pos (by omega), if_pos (by omega), rdT_at l i hlt, wrap_nat (by omega)]
    have w1 : wrap64 ((t : Int) + wrap64 (10 + (l[i].f1.length : Int))) = ((t + (10 + l[i].f1.length) : Nat) : Int) := by
      have : wrap64 (10 + (l[i].f1.length : Int)) = 10 + (l[i].f1.length : Int) := by unfold wrap64; omega
      rw [this]; unfold wrap64; omega
    rw [w1, ih k _ l (i + 1) ho (by omega) (by omega) hl (by omega) (by omega)]
    rw [List.drop_eq_getElem_cons hlt, List.map_cons, Block.encs_cons, List.length_append, Block.enc_length]
    congr 2
    show _ = t + (l[i].f1.length + 10 + _)
    omega

theorem size_f (k : Nat) (l : List S30) (ho : OkB 500 l) (hl : l.length ≤ 20) (hk : 21 < k) : block_Size.f k l = some ((Block.encs (l.map ofB)).length : Int) := by
  unfold block_Size.f
  have := size_loop l.length k 0 l 0 ho (by omega) (by omega) hl (by simp) (by omega)
  rw [Nat.zero_add, List.drop_zero] at this
  exact this

theorem bytes_inj {a b : List Int} (ha : Crc.IsBytes a) (hb : Crc.IsBytes b) (h : (strOfNums a).toList = (strOfNums b).toList) : a = b := by
  rw [Lib.strOfNums_toList, Lib.strOfNums_toList] at h
  unfold Lib.bytesOf at h
  induction a generalizing b with
  | nil => cases b with
    | nil => rfl
    | cons y b => simp at h
  | cons x a ih => cases b with
    | nil => simp at h
    | cons y b =>
      simp only [List.map_cons, List.cons.injEq] at h
      obtain ⟨h1, h2⟩ := h
      have hx := ha x (by simp)
      have hy := hb y (by simp)
      have h3 : x.toNat % 256 = y.toNat % 256 := by simpa using congrArg UInt8.toNat h1
      have h4 : x = y := by omega
      rw [h4, ih (fun z hz => ha z (by simp [hz])) (fun z hz => hb z (by simp [hz])) h2]
theorem str_same {a b : List Int} (ha : Crc.IsBytes a) (hb : Crc.IsBytes b) : ((strOfNums a).toList == (strOfNums b).toList) = decide (a = b) := by
  by_cases h : a = b
  · subst h; simp
  · rw [decide_eq_false h]
    exact beq_eq_false_iff_ne.2 (fun e => h (bytes_inj ha hb e))
theorem take_bytes {a : List Int} (ha : Crc.IsBytes a) (n : Nat) : Crc.IsBytes (a.take n) := fun x hx => ha x (List.mem_of_mem_take hx)

theorem enc_take6 (k : Int) (b : List Int) : (Block.enc k b).take 6 = [203, k] ++ Block.four b.length := by
  unfold Block.enc Block.head Block.four
  rfl
theorem enc_body (k : Int) (b : List Int) : ((Block.enc k b).drop 6).take b.length = b := by
  unfold Block.enc Block.head Block.four
  simp
theorem enc_apart {k k' : Int} {b b' : List Int} (hb : b.length ≤ 500) (hb' : b'.length ≤ 500) (h : (Block.enc k b).take (min (Block.enc k b).length (Block.enc k' b').length) = (Block.enc k' b').take (min (Block.enc k b).length (Block.enc k' b').length)) : k = k' ∧ b = b' := by
  have l1 := Block.enc_length k b
  have l2 := Block.enc_length k' b'
  have h6 : (Block.enc k b).take 6 = (Block.enc k' b').take 6 := by
    have := congrArg (List.take 6) h
    rwa [List.take_take, List.take_take, Nat.min_eq_left (by omega)] at this
  rw [enc_take6, enc_take6] at h6
  simp only [Block.four, List.cons_append, List.nil_append, List.cons.injEq, and_true, true_and] at h6
  obtain ⟨hk, _, _, h3, h4⟩ := h6
  have hl : b.length = b'.length := by omega
  refine ⟨hk, ?_⟩
  rw [l1, l2, hl, Nat.min_self, List.take_of_length_le (by omega), List.take_of_length_le (by omega)] at h
  have e1 := enc_body k b
  rw [h, hl, enc_body] at e1
  exact e1.symm
theorem same_apart (x y : S30) (hx : Crc.IsBytes x.f1) (hy : Crc.IsBytes y.f1) (lx : x.f1.length ≤ 500) (ly : y.f1.length ≤ 500) (kx : 0 ≤ x.f0 ∧ x.f0 ≤ 255) (ky : 0 ≤ y.f0 ∧ y.f0 ≤ 255) :
    ((strOfNums ((Block.enc x.f0 x.f1).take (min (Block.enc x.f0 x.f1).length (Block.enc y.f0 y.f1).length))).toList == (strOfNums ((Block.enc y.f0 y.f1).take (min (Block.enc x.f0 x.f1).length (Block.enc y.f0 y.f1).length))).toList) = sameB [x] [y] := by
  rw [str_same (take_bytes (Block.enc_bytes kx hx) _) (take_bytes (Block.enc_bytes ky hy) _)]
  have hs : sameB [x] [y] = likeB x y := by simp [sameB]
  rw [hs]
  unfold likeB
  rw [str_same hx hy]
  by_cases h : x.f0 = y.f0 ∧ x.f1 = y.f1
  · obtain ⟨h1, h2⟩ := h
    rw [h1, h2]; simp
  · rw [decide_eq_false (fun e => h (enc_apart lx ly e))]
    rcases Classical.em (x.f0 = y.f0) with h1 | h1
    · have h2 : x.f1 ≠ y.f1 := fun e => h ⟨h1, e⟩
      simp [h2]
    · simp [h1]

theorem walk (A0 : Option Addr) (c0 : Nat) (A1 : Option Addr) (c1 : Nat) (x y : S30) (w : World) (hC0 : (Kd.int .u8).C w A0 x.f1.length x.f1) (hc0 : x.f1.length ≤ c0) (hC1 : (Kd.int .u8).C w A1 y.f1.length y.f1) (hc1 : y.f1.length ≤ c1)
    (hx : Crc.IsBytes x.f1) (hy : Crc.IsBytes y.f1) (kx : 0 ≤ x.f0 ∧ x.f0 ≤ 255) (ky : 0 ≤ y.f0 ∧ y.f0 ≤ 255) :
    Calls Try.prog 4 #[.agg #[.int .u8 x.f0, .slice A0 x.f1.length c0], .agg #[.int .u8 y.f0, .slice A1 y.f1.length c1]] w fun e w' => e = .returned (.bool true) ∧ Below w.heap.size w w' := by
  obtain ⟨b, hs, hb⟩ := small_f 50000 [x, y] (by omega)
  cases b with
  | false => exact Apart.off 50000 A0 c0 A1 c1 x y w hC0 hc0 hC1 hc1 ⟨hs⟩
  | true =>
    obtain ⟨_, h5⟩ := hb rfl
    have lx := h5 x (by simp)
    have ly := h5 y (by simp)
    have o1 : OkB 500 [x] := fun z hz => by rw [List.mem_singleton.1 hz]; exact ⟨kx, hx, lx⟩
    have o2 : OkB 500 [y] := fun z hz => by rw [List.mem_singleton.1 hz]; exact ⟨ky, hy, ly⟩
    have o3 : OkB 500 [x, y] := fun z hz => by
      rcases List.mem_cons.1 hz with rfl | hz
      · exact ⟨kx, hx, lx⟩
      · rw [List.mem_singleton.1 hz]; exact ⟨ky, hy, ly⟩
    have e1 : Block.encs ([x].map ofB) = Block.enc x.f0 x.f1 := by simp [Block.encs, ofB]
    have e2 : Block.encs ([y].map ofB) = Block.enc y.f0 y.f1 := by simp [Block.encs, ofB]
    have e3 : Block.encs ([x, y].map ofB) = Block.enc x.f0 x.f1 ++ Block.enc y.f0 y.f1 := by simp [Block.encs, ofB]
    have l1 := Block.enc_length x.f0 x.f1
    have l2 := Block.enc_length y.f0 y.f1
    exact Apart.core 50000 A0 c0 A1 c1 x y w hC0 hc0 hC1 hc1 (Block.enc x.f0 x.f1) (Block.enc y.f0 y.f1) (sameB [x] [y]) _ rfl (by omega) (by omega) ⟨hs⟩
      ⟨by rw [pack_f _ _ o1 (by simp) (by omega), e1]⟩ ⟨by rw [pack_f _ _ o2 (by simp) (by omega), e2]⟩ ⟨by rw [pack_f _ _ o3 (by simp) (by omega), e3]⟩ ⟨rfl⟩
      (same_apart x y hx hy lx ly kx ky)
      ⟨by rw [size_f _ _ o1 (by simp) (by omega), e1]⟩ ⟨by rw [size_f _ _ o2 (by simp) (by omega), e2]⟩ ⟨by rw [size_f _ _ o3 (by simp) (by omega), e3, List.length_append]; simp⟩

end Go.Proofs.Ytgonodfggiablaa.Pure
