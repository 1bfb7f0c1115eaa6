/-
  Blocks' bytes are the reference's, and are scanned as the blocks: for every list of blocks of bytes; no other condition.
-/
import Derived.Test.YtgonodfggiablaaPacks
import Derived.Test.YtgonodfggiablaaCrc
import Derived.Test.YtgonodfggiablaaBlock
import Derived.Test.YtgonodfggiablaaOpen
namespace Go.Proofs.Ytgonodfggiablaa.Pure
open Go.RowKit Go.Proofs.Ytgonodfggiablaa.QBlockPacks Go.Proofs.YtgonodfggiablaaW.PrintWords Go.Proofs.YtgonodfggiablaaW.PrintLast Go.Proofs.YtgonodfggiablaaW.PrintMore

theorem rd_at (l : List Int) (i : Nat) (h : i < l.length) : rd l (i : Int) = l[i] := by simp [rd, h]
theorem wrap_nat {n : Nat} (h : n < 4611686018427387904) : wrap64 ((n : Int) + 1) = ((n + 1 : Nat) : Int) := by unfold wrap64; omega

theorem ref_bit (k : Nat) (l : List Int) (r : Nat) (i : Int) (j : Nat) (hr : r < 4294967296) (hj : j < 8) :
    cobwebref08_Sum.l1 (k + 1) l (r : Int) i (j : Int) = cobwebref08_Sum.l1 k l (Crc.bit r : Int) i ((j + 1 : Nat) : Int) := by
  simp only [cobwebref08_Sum.l1]
  rw [if_pos (by omega), wrap_nat (by omega)]
  have t1 : Int.tmod (r : Int) 2 = ((r % 2 : Nat) : Int) := by rw [Int.tmod_eq_emod_of_nonneg (by omega)]; omega
  have t2 : Int.tdiv (r : Int) 2 % 4294967296 = ((r / 2 : Nat) : Int) := by rw [Int.tdiv_eq_ediv_of_nonneg (by omega)]; omega
  rw [t1, t2]
  unfold Crc.bit
  by_cases h : r % 2 = 1
  · rw [if_pos (by omega), if_pos h, show (3988292384 : Int) = ((3988292384 : Nat) : Int) from rfl, u32_xor_nat _ _ (by omega) (by decide)]
  · rw [if_neg (by omega), if_neg h]

theorem ref_byte (k : Nat) (l : List Int) (r : Nat) (i : Int) (hr : r < 4294967296) : cobwebref08_Sum.l1 (k + 9) l (r : Int) i 0 = cobwebref08_Sum.l0 k l (Crc.bit8 r : Int) (wrap64 (i + 1)) := by
  have b := Crc.bit_lt
  have e0 := ref_bit (k + 8) l r i 0 hr (by decide)
  have h1 := b r hr
  have e1 := ref_bit (k + 7) l _ i 1 h1 (by decide)
  have h2 := b _ h1
  have e2 := ref_bit (k + 6) l _ i 2 h2 (by decide)
  have h3 := b _ h2
  have e3 := ref_bit (k + 5) l _ i 3 h3 (by decide)
  have h4 := b _ h3
  have e4 := ref_bit (k + 4) l _ i 4 h4 (by decide)
  have h5 := b _ h4
  have e5 := ref_bit (k + 3) l _ i 5 h5 (by decide)
  have h6 := b _ h5
  have e6 := ref_bit (k + 2) l _ i 6 h6 (by decide)
  have h7 := b _ h6
  have e7 := ref_bit (k + 1) l _ i 7 h7 (by decide)
  refine e0.trans (e1.trans (e2.trans (e3.trans (e4.trans (e5.trans (e6.trans (e7.trans ?_)))))))
  simp only [cobwebref08_Sum.l1]
  rw [if_neg (by omega)]
  rfl

theorem ref_loop (n : Nat) : ∀ (k : Nat) (l : List Int) (s : Nat) (i : Nat), Crc.IsBytes l → i ≤ l.length → l.length - i = n → l.length < 4611686018427387904 → s < 4294967296 → 10 * n < k →
    cobwebref08_Sum.l0 k l (s : Int) (i : Int) = some ((Crc.reg s (l.drop i) ^^^ 4294967295 : Nat) : Int) := by
  induction n with
  | zero =>
    intro k l s i hb hi hn hl hs hk
    obtain ⟨k, rfl⟩ : ∃ m, k = m + 1 := ⟨k - 1, by omega⟩
    simp only [cobwebref08_Sum.l0]
    rw [if_neg (by omega), List.drop_of_length_le (by omega), show (4294967295 : Int) = ((4294967295 : Nat) : Int) from rfl, u32_xor_nat _ _ hs (by decide)]
    rfl
  | succ n ih =>
    intro k l s i hb hi hn hl hs hk
    obtain ⟨k, rfl⟩ : ∃ m, k = m + 10 := ⟨k - 10, by omega⟩
    have hlt : i < l.length := by omega
    have hx := hb _ (List.getElem_mem hlt)
    simp only [cobwebref08_Sum.l0]
    rw [if_pos (by omega), if_pos (by omega), rd_at l i hlt]
    have ex : bits .xor .u32 (s : Int) (l[i] % 4294967296) = ((s ^^^ l[i].toNat : Nat) : Int) := by
      rw [show l[i] % 4294967296 = ((l[i].toNat : Nat) : Int) from by omega]
      exact u32_xor_nat _ _ hs (by omega)
    rw [ex, ref_byte k l _ _ (Crc.xor_lt hs (by omega)), wrap_nat (by omega)]
    have := ih k l (Crc.byte s l[i].toNat) (i + 1) hb (by omega) (by omega) hl (Crc.byte_lt _ _ hs (by omega)) (by omega)
    rw [List.drop_eq_getElem_cons hlt]
    exact this

theorem ref_sum (k : Nat) (l : List Int) (hb : Crc.IsBytes l) (hl : l.length < 4611686018427387904) (hk : 10 * l.length < k) : cobwebref08_Sum.f k l = some (Crc.sum l) := by
  unfold cobwebref08_Sum.f
  have := ref_loop l.length k l 4294967295 0 hb (by omega) (by omega) hl (by decide) hk
  rw [List.drop_zero] at this
  exact this

def ofB (x : S30) : Int × List Int := (x.f0, x.f1)
def toB (p : Int × List Int) : S30 := ⟨p.1, p.2⟩
theorem to_of (l : List S30) : (l.map ofB).map toB = l := by
  rw [List.map_map]
  have : toB ∘ ofB = id := funext fun x => rfl
  rw [this, List.map_id]
theorem rdT_at (l : List S30) (i : Nat) (h : i < l.length) : rd_T30 l (i : Int) = l[i] := by simp [rd_T30, h]
/-- Blocks of bytes, their bodies no longer than m. -/
def OkB (m : Nat) (l : List S30) : Prop := ∀ x ∈ l, (0 ≤ x.f0 ∧ x.f0 ≤ 255) ∧ Crc.IsBytes x.f1 ∧ x.f1.length ≤ m
theorem ok_of {m : Nat} {l : List S30} (h : OkB m l) : Block.Ok m (l.map ofB) := fun p hp => by
  obtain ⟨x, hx, rfl⟩ := List.mem_map.1 hp
  exact h x hx

theorem small_loop (n : Nat) : ∀ (k : Nat) (l : List S30) (i : Nat), i ≤ l.length → l.length - i = n → l.length ≤ 20 → n < k →
    ∃ b, cobweblaw08_small.l0 k l (i : Int) = some b ∧ (b = true → ∀ x ∈ l.drop i, x.f1.length ≤ 500) := by
  induction n with
  | zero =>
    intro k l i hi hn hl hk
    obtain ⟨k, rfl⟩ : ∃ m, k = m + 1 := ⟨k - 1, by omega⟩
    refine ⟨true, ?_, fun _ x hx => by rw [List.drop_of_length_le (by omega)] at hx; cases hx⟩
    simp only [cobweblaw08_small.l0]
    rw [if_neg (by omega)]
  | succ n ih =>
    intro k l i hi hn hl hk
    obtain ⟨k, rfl⟩ : ∃ m, k = m + 1 := ⟨k - 1, by omega⟩
    have hlt : i < l.length := by omega
    simp only [cobweblaw08_small.l0]
    rw [if_pos (by omega), if_pos (by omega), rdT_at l i hlt]
    by_cases hc : ((l[i]).f1.length : Int) > 500
    · rw [if_pos hc]
      exact ⟨false, rfl, fun h => by cases h⟩
    · rw [if_neg hc, wrap_nat (by omega)]
      obtain ⟨b, h1, h2⟩ := ih k l (i + 1) (by omega) (by omega) hl (by omega)
      refine ⟨b, h1, fun hb x hx => ?_⟩
      rw [List.drop_eq_getElem_cons hlt] at hx
      rcases List.mem_cons.1 hx with rfl | hx
      · omega
      · exact h2 hb x hx
theorem small_f (k : Nat) (l : List S30) (hk : 21 < k) : ∃ b, cobweblaw08_small.f k l = some b ∧ (b = true → l.length ≤ 20 ∧ ∀ x ∈ l, x.f1.length ≤ 500) := by
  unfold cobweblaw08_small.f
  by_cases hl : (l.length : Int) > 20
  · rw [if_pos hl]
    exact ⟨false, rfl, fun h => by cases h⟩
  · rw [if_neg hl]
    obtain ⟨b, h1, h2⟩ := small_loop l.length k l 0 (by omega) (by omega) (by omega) (by omega)
    exact ⟨b, h1, fun hb => ⟨by omega, h2 hb⟩⟩

theorem reffour_f (n : Int) (h0 : 0 ≤ n) (h1 : n ≤ 4294967295) : cobwebref08_four.f n = some (Block.four n) := by
  unfold cobwebref08_four.f Block.four
  rw [Int.tdiv_eq_ediv_of_nonneg h0, Int.tdiv_eq_ediv_of_nonneg h0, Int.tdiv_eq_ediv_of_nonneg h0]
  have e1 : n / 16777216 % 4294967296 = n / 16777216 := by omega
  have e2 : n / 65536 % 4294967296 = n / 65536 := by omega
  have e3 : n / 256 % 4294967296 = n / 256 := by omega
  rw [e1, e2, e3]

theorem four_length (n : Int) : (Block.four n).length = 4 := rfl

theorem refpack_f (k : Nat) (a : Int) (b : List Int) (ha : 0 ≤ a ∧ a ≤ 255) (hb : Crc.IsBytes b) (hl : b.length ≤ 1048576) (hk : 10 * (b.length + 6) < k) : cobwebref08_Pack.f k a b = some (Block.enc a b) := by
  unfold cobwebref08_Pack.f
  rw [show (b.length : Int) % 4294967296 = (b.length : Int) from by omega, reffour_f _ (by omega) (by omega)]
  simp only [Option.bind_some]
  have l1 : ([203, a] : List Int).length = 2 := rfl
  rw [if_pos (by rw [l1, four_length]; omega), if_pos (by rw [List.length_append, l1, four_length]; omega)]
  have hs := Crc.sum_range _ (Block.head_bytes ha hb)
  have e := ref_sum k (Block.head a b) (Block.head_bytes ha hb) (by rw [Block.head_length]; omega) (by rw [Block.head_length]; omega)
  have e' : cobwebref08_Sum.f k ([203, a] ++ Block.four (b.length : Int) ++ b) = some (Crc.sum (Block.head a b)) := e
  rw [e']
  simp only [Option.bind_some]
  rw [reffour_f _ hs.1 hs.2]
  simp only [Option.bind_some]
  rw [if_pos (by rw [four_length]; have := Block.head_length a b; unfold Block.head at this; omega)]
  rfl

theorem refall_loop (n : Nat) : ∀ (k : Nat) (l : List S30) (acc : List Int) (i : Nat), OkB 500 l → i ≤ l.length → l.length - i = n → l.length ≤ 20 → acc.length ≤ 510 * i → 6000 + n < k →
    cobwebref08_All.l0 k l acc (i : Int) = some (acc ++ Block.encs ((l.drop i).map ofB)) := by
  induction n with
  | zero =>
    intro k l acc i ho hi hn hl ha hk
    obtain ⟨k, rfl⟩ : ∃ m, k = m + 1 := ⟨k - 1, by omega⟩
    simp only [cobwebref08_All.l0]
    rw [if_neg (by omega), List.drop_of_length_le (by omega)]
    simp [Block.encs]
  | succ n ih =>
    intro k l acc i ho hi hn hl ha hk
    obtain ⟨k, rfl⟩ : ∃ m, k = m + 1 := ⟨k - 1, by omega⟩
    have hlt : i < l.length := by omega
    obtain ⟨h1, h2, h3⟩ := ho _ (List.getElem_mem hlt)
    simp only [cobwebref08_All.l0]
    rw [if_pos (by omega), if_pos (by omega), rdT_at l i hlt, refpack_f k _ _ h1 h2 (by omega) (by omega)]
    simp only [Option.bind_some]
    rw [if_pos (by rw [Block.enc_length]; omega), wrap_nat (by omega), ih k l _ (i + 1) ho (by omega) (by omega) hl (by rw [List.length_append, Block.enc_length]; omega) (by omega)]
    rw [List.drop_eq_getElem_cons hlt, List.map_cons, Block.encs_cons, List.append_assoc]
    rfl

theorem refall_f (k : Nat) (l : List S30) (ho : OkB 500 l) (hl : l.length ≤ 20) (hk : 6030 < k) : cobwebref08_All.f k l = some (Block.encs (l.map ofB)) := by
  unfold cobwebref08_All.f
  have := refall_loop l.length k l [] 0 ho (by omega) (by omega) hl (by simp) (by omega)
  rw [List.nil_append, List.drop_zero] at this
  exact this

theorem take_f (l : List Int) (hb : Crc.IsBytes l) (hl : l.length ≤ 140737488355328) : block_Take.f l = some (Take.tk l) := by
  unfold block_Take.f
  rw [if_pos (List.all_eq_true.2 fun x hx => decide_eq_true (hb x hx)), if_pos hl]

theorem scan_step (n : Nat) (l : List Int) (T : Int × List Int × Int × Int) (h : Take.tk l = T) : Block.scan (n + 1) l = if T.2.2.2 = 0 then ((T.1, T.2.1) :: (Block.scan n (l.drop T.2.2.1.toNat)).1, T.2.2.1 + (Block.scan n (l.drop T.2.2.1.toNat)).2) else ([], 0) := by
  subst h; rfl

theorem scan_loop : ∀ (n k : Nat) (x0 : List Int) (acc : List S30) (at_ : Nat), Crc.IsBytes x0 → x0.length ≤ 1000000 → at_ ≤ x0.length → (x0.drop at_).length ≤ n → acc.length ≤ at_ → n + 1 < k →
    block_Scan.l0 k x0 acc (at_ : Int) = some (acc ++ (Block.scan (n + 1) (x0.drop at_)).1.map toB, (at_ : Int) + (Block.scan (n + 1) (x0.drop at_)).2)
  | n, k, x0, acc, at_, hb, hl, ha, hn, hac, hk => by
    obtain ⟨k, rfl⟩ : ∃ m, k = m + 1 := ⟨k - 1, by omega⟩
    have hbd : Crc.IsBytes (x0.drop at_) := fun x hx => hb x (List.mem_of_mem_drop hx)
    have hld : (x0.drop at_).length = x0.length - at_ := List.length_drop
    have htaken := Block.tk_taken hbd
    obtain ⟨⟨t1, t2, t3, t4⟩, hT⟩ : ∃ T, Take.tk (x0.drop at_) = T := ⟨_, rfl⟩
    have e := take_f _ hbd (by omega)
    rw [hT] at htaken e
    rw [scan_step n _ _ hT]
    clear hT
    dsimp only at htaken
    simp only [block_Scan.l0]
    rw [if_pos (by omega), if_pos (by omega), Int.toNat_natCast, e]
    simp only [Option.bind_some]
    by_cases h : t4 = 0
    · obtain ⟨h1, h2, _, _⟩ := htaken h
      rw [if_pos h, if_pos h, if_pos (by omega)]
      obtain ⟨m, rfl⟩ : ∃ m : Nat, t3 = (m : Int) := ⟨_, (Int.toNat_of_nonneg (by omega)).symm⟩
      have hw : wrap64 ((at_ : Int) + (m : Int)) = ((at_ + m : Nat) : Int) := by unfold wrap64; omega
      rw [hw, Int.toNat_natCast]
      obtain ⟨n, rfl⟩ : ∃ q, n = q + 1 := ⟨n - 1, by omega⟩
      rw [scan_loop n k x0 _ (at_ + m) hb hl (by omega) (by rw [List.length_drop]; omega) (by rw [List.length_append, List.length_singleton]; omega) (by omega), List.drop_drop]
      generalize Block.scan (n + 1) (x0.drop (at_ + m)) = R
      simp only [List.map_cons, List.append_assoc, List.cons_append, List.nil_append]
      congr 1
      rw [Prod.mk.injEq]
      refine ⟨rfl, ?_⟩
      omega
    · rw [if_neg h, if_neg h]
      simp
termination_by n => n

theorem scan_f (k n : Nat) (l : List Int) (hb : Crc.IsBytes l) (hl : l.length ≤ 1000000) (hn : l.length ≤ n) (hk : n + 1 < k) : block_Scan.f k l = some ((Block.scan (n + 1) l).1.map toB, (Block.scan (n + 1) l).2) := by
  unfold block_Scan.f
  have := scan_loop n k l [] 0 hb hl (by omega) (by simpa using hn) (by simp) hk
  rw [List.drop_zero, List.nil_append] at this
  refine this.trans ?_
  simp

theorem same_self (l : List S30) : sameB l l = true := sameB_yes rfl fun i h0 h1 => by simp [likeB]

theorem four_f (l : List Int) (n : Int) (hl : l.length < 1000000) : block_four.f l n = some (l ++ Block.four n) := by
  unfold block_four.f
  simp only [Option.bind_some]
  rw [if_pos (by simp only [List.length_cons, List.length_nil]; omega)]
  rfl

theorem pack_loop (n : Nat) : ∀ (k : Nat) (out : List Int) (l : List S30) (i : Nat), OkB 500 l → i ≤ l.length → l.length - i = n → l.length ≤ 20 → out.length ≤ 510 * i → n < k →
    block_Pack.l0 k out l (l.length : Int) (i : Int) = some (out ++ Block.encs ((l.drop i).map ofB), 0) := by
  induction n with
  | zero =>
    intro k out l i ho hi hn hl hout hk
    obtain ⟨k, rfl⟩ : ∃ m, k = m + 1 := ⟨k - 1, by omega⟩
    simp only [block_Pack.l0]
    rw [if_neg (by omega), List.drop_of_length_le (by omega)]
    simp [Block.encs]
  | succ n ih =>
    intro k out l i ho hi hn hl hout hk
    obtain ⟨k, rfl⟩ : ∃ m, k = m + 1 := ⟨k - 1, by omega⟩
    have hlt : i < l.length := by omega
    obtain ⟨h1, h2, h3⟩ := ho _ (List.getElem_mem hlt)
    have hh := Block.head_bytes h1 h2
    have hs := Crc.sum_range _ hh
    simp only [block_Pack.l0]
    rw [if_pos (by omega), if_pos (by omega), if_pos (by omega), rdT_at l i hlt, if_neg (by omega)]
    simp only [Option.bind_some]
    have l1 : ([203, l[i].f0] : List Int).length = 2 := rfl
    have lf : ∀ n, (Block.four n).length = 4 := fun _ => rfl
    rw [if_pos (by rw [l1]; omega), show (l[i].f1.length : Int) % 4294967296 = (l[i].f1.length : Int) from by omega, four_f _ _ (by rw [List.length_append, l1]; omega)]
    simp only [Option.bind_some]
    rw [if_pos (by rw [List.length_append, List.length_append, l1, lf]; omega), if_pos (by omega), if_pos (by rw [List.length_append, List.length_append, List.length_append]; omega), Int.toNat_natCast]
    have e : out ++ [203, l[i].f0] ++ Block.four (l[i].f1.length : Int) ++ l[i].f1 = out ++ Block.head l[i].f0 l[i].f1 := by unfold Block.head; simp
    have hhl := Block.head_length l[i].f0 l[i].f1
    rw [e, List.drop_left]
    have hsum : block_Sum.f [Block.head l[i].f0 l[i].f1] = some (Crc.sum (Block.head l[i].f0 l[i].f1)) := by
      unfold block_Sum.f
      rw [if_pos (by simp), if_pos (by simp only [List.all_cons, List.all_nil, Bool.and_true]; exact decide_eq_true (by omega)), Crc.all_eq _ (by simpa using hh)]
      simp
    rw [hsum]
    simp only [Option.bind_some]
    rw [four_f _ _ (by rw [List.length_append]; omega)]
    simp only [Option.bind_some]
    rw [wrap_nat (by omega), ih k _ l (i + 1) ho (by omega) (by omega) hl (by rw [List.length_append, List.length_append, lf]; omega) (by omega)]
    rw [List.drop_eq_getElem_cons hlt, List.map_cons, Block.encs_cons, ← List.append_assoc]
    have e2 : out ++ Block.enc (ofB l[i]).1 (ofB l[i]).2 = out ++ Block.head l[i].f0 l[i].f1 ++ Block.four (Crc.sum (Block.head l[i].f0 l[i].f1)) := by
      rw [List.append_assoc]; rfl
    rw [e2]

theorem pack_f (k : Nat) (l : List S30) (ho : OkB 500 l) (hl : l.length ≤ 20) (hk : 21 < k) : block_Pack.f k l = some (Block.encs (l.map ofB), 0) := by
  unfold block_Pack.f
  have := pack_loop l.length k [] l 0 ho (by omega) (by omega) hl (by simp) (by omega)
  rw [List.nil_append, List.drop_zero] at this
  exact this

theorem size_loop (n : Nat) : ∀ (k : Nat) (t : Nat) (l : List S30) (i : Nat), OkB 500 l → i ≤ l.length → l.length - i = n → l.length ≤ 20 → t ≤ 510 * i → n < k →
    block_Size.l0 k (t : Int) l (l.length : Int) (i : Int) = some (((t + (Block.encs ((l.drop i).map ofB)).length : Nat) : Int)) := by
  induction n with
  | zero =>
    intro k t l i ho hi hn hl ht hk
    obtain ⟨k, rfl⟩ : ∃ m, k = m + 1 := ⟨k - 1, by omega⟩
    simp only [block_Size.l0]
    rw [if_neg (by omega), List.drop_of_length_le (by omega)]
    simp [Block.encs]
  | succ n ih =>
    intro k t l i ho hi hn hl ht hk
    obtain ⟨k, rfl⟩ : ∃ m, k = m + 1 := ⟨k - 1, by omega⟩
    have hlt : i < l.length := by omega
    obtain ⟨h1, h2, h3⟩ := ho _ (List.getElem_mem hlt)
    simp only [block_Size.l0]
    rw [if_pos (by omega), if_pos (by omega), if_pos (by omega), rdT_at l i hlt, wrap_nat (by omega)]
    have w1 : wrap64 ((t : Int) + wrap64 (10 + (l[i].f1.length : Int))) = ((t + (10 + l[i].f1.length) : Nat) : Int) := by
      have : wrap64 (10 + (l[i].f1.length : Int)) = 10 + (l[i].f1.length : Int) := by unfold wrap64; omega
      rw [this]; unfold wrap64; omega
    rw [w1, ih k _ l (i + 1) ho (by omega) (by omega) hl (by omega) (by omega)]
    rw [List.drop_eq_getElem_cons hlt, List.map_cons, Block.encs_cons, List.length_append, Block.enc_length]
    congr 2
    show _ = t + (l[i].f1.length + 10 + _)
    omega

theorem size_f (k : Nat) (l : List S30) (ho : OkB 500 l) (hl : l.length ≤ 20) (hk : 21 < k) : block_Size.f k l = some ((Block.encs (l.map ofB)).length : Int) := by
  unfold block_Size.f
  have := size_loop l.length k 0 l 0 ho (by omega) (by omega) hl (by simp) (by omega)
  rw [Nat.zero_add, List.drop_zero] at this
  exact this

theorem toC {W : World} {A : Option Addr} {l : List (Int × List Int)} (h : Kd.C Open.kp W A l.length l) : Kd.C k30 W A (l.map toB).length (l.map toB) :=
  ⟨rfl, by rw [List.length_map]; exact h.2.1, fun hn => by
    obtain ⟨ad, e, hc⟩ := h.2.2 (by rw [List.length_map] at hn; exact hn)
    refine ⟨ad, e, fun j p hj => ?_⟩
    rw [List.getElem?_map] at hj
    obtain ⟨q, hq, rfl⟩ := Option.map_eq_some_iff.1 hj
    obtain ⟨c, h1, h2, h3⟩ := hc j q hq
    exact ⟨c, h1, h2, h3⟩⟩
theorem bytesB {l : List (Int × List Int)} (h : ∀ b ∈ l, (0 ≤ b.1 ∧ b.1 ≤ 255) ∧ Crc.IsBytes b.2) : ∀ x ∈ l.map toB, (0 ≤ x.f0 ∧ x.f0 ≤ 255) ∧ Crc.IsBytes x.f1 := fun x hx => by
  obtain ⟨p, hp, rfl⟩ := List.mem_map.1 hx
  exact h p hp

theorem walk (A0 : Option Addr) (c0 : Nat) (l0 : List (Int × List Int)) (W : World) (hC0 : Kd.C Open.kp W A0 l0.length l0) (hc0 : l0.length ≤ c0) (hb0 : ∀ b ∈ l0, (0 ≤ b.1 ∧ b.1 ≤ 255) ∧ Crc.IsBytes b.2) :
    Calls Try.prog 7 #[.slice A0 l0.length c0] W fun e w' => e = .returned (.bool true) ∧ Below W.heap.size W w' := by
  have hx := bytesB hb0
  have hC := toC hC0
  have hc : (l0.map toB).length ≤ c0 := by rw [List.length_map]; exact hc0
  have hlen : l0.length = (l0.map toB).length := by rw [List.length_map]
  rw [hlen]
  generalize l0.map toB = xs at *
  obtain ⟨b, hs, hb⟩ := small_f 50000 xs (by omega)
  cases b with
  | false => exact Packs.off 50000 A0 c0 xs W hC hc ⟨hs⟩
  | true =>
    obtain ⟨hl, h5⟩ := hb rfl
    have ho : OkB 500 xs := fun x h => ⟨(hx x h).1, (hx x h).2, h5 x h⟩
    have hok := ok_of ho
    have hok2 : Block.Ok 1048576 (xs.map ofB) := fun p hp => ⟨(hok p hp).1, (hok p hp).2.1, by have := (hok p hp).2.2; omega⟩
    have hbB := Block.encs_bytes hok
    have hlB := Block.encs_length hok
    rw [List.length_map] at hlB
    have hlB2 : (Block.encs (xs.map ofB)).length ≤ 10200 := Nat.le_trans hlB (Nat.mul_le_mul_right 510 hl)
    have hsc : block_Scan.f 50000 (Block.encs (xs.map ofB)) = some (xs, ((Block.encs (xs.map ofB)).length : Int)) := by
      rw [scan_f _ 10200 _ hbB (by omega) hlB2 (by omega)]
      have e := Block.scan_encs (xs.map ofB) [] 10200 hok2 (by intro x hx; cases hx) (by rw [List.append_nil]; exact hlB2)
      rw [List.append_nil] at e
      have z : Block.scan (10200 + 1) [] = ([], 0) := rfl
      rw [e, z]
      simp only [List.append_nil, Int.add_zero]
      rw [to_of]
    exact Packs.core 50000 A0 c0 xs W hC hc _ _ (by omega) ⟨hs⟩ ⟨pack_f _ xs ho hl (by omega)⟩ ⟨refall_f _ xs ho hl (by omega)⟩ ⟨size_f _ xs ho hl (by omega)⟩ ⟨hsc⟩ ⟨by unfold cobwebref08_Same.f; rw [same_self]⟩

end Go.Proofs.Ytgonodfggiablaa.Pure
