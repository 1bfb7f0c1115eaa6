/-
  The reference's Take.
-/
import Derived.Test.YtgonodfggiablaaProg
import Derived.Test.YtgonodfggiablaaRegH
import Derived.Test.YtgonodfggiablaaMem
import Derived.Test.YtgonodfggiablaaCrc
import Derived.Test.YtgonodfggiablaaWord
import Derived.Test.YtgonodfggiablaaClone
import Derived.Test.YtgonodfggiablaaSum
import Derived.Test.YtgonodfggiablaaTake
import Derived.Test.YtgonodfggiablaaBlock
import Derived.Test.YtgonodfggiablaaQBlockTakesx1
import Derived.Test.YtgonodfggiablaaQBlockTakesx2
import Derived.Lib.SmallJoins
import Derived.Lib.Bytes
import Derived.Below
import Derived.Deep.Draws
import Derived.Deep.AppendLies
import Derived.Maps.AppendAt
import Derived.OwnWalk
import Derived.Laws.BytesArg
import Derived.Laws.MakeOwn
import Derived.Laws.OwnMore
import Derived.Deep.OwnRows
import Derived.Tactics
import Derived.Lib.ConvBytes
import Derived.Laws.Slices
import Derived.WalkKit
import Derived.KernelRfl
import Derived.RowKit3
import Derived.Deep.LoopGhost
import Derived.Deep.QuietTactic
import Derived.BigQuiet
import Derived.WideLaws
import Derived.Deep.DeepCutAuto
import Derived.Deep.CutBlock
import Derived.Deep.RegionHeld3
import Derived.Laws.Rows
import Derived.Lib.AppendStr
import Derived.ArgAppend
import Derived.Laws.IdiomCopy
import Derived.OrdersHeld
import Derived.Laws.BitsLemmas
import Derived.RowKit
import Derived.Lib.SliceRun
import Derived.Test.YtgonodfggiablaaWWords
import Derived.Test.YtgonodfggiablaaWLast
import Derived.Test.YtgonodfggiablaaWTab
import Derived.Test.YtgonodfggiablaaWFour
import Derived.Test.YtgonodfggiablaaWQPut
import Derived.Test.YtgonodfggiablaaWApart
import Derived.Test.YtgonodfggiablaaWArr
import Derived.Test.YtgonodfggiablaaWZeros
import Derived.Test.YtgonodfggiablaaWFoot
import Derived.Test.YtgonodfggiablaaWKept
import Derived.Test.YtgonodfggiablaaWShare
import Derived.Test.YtgonodfggiablaaWN
import Derived.Test.YtgonodfggiablaaWFootNe
import Derived.Test.YtgonodfggiablaaWAt
import Derived.Test.YtgonodfggiablaaWEqStruct
import Derived.Test.YtgonodfggiablaaWRepsOne
import Derived.Test.YtgonodfggiablaaWInv
import Derived.Test.YtgonodfggiablaaWInvWords
import Derived.Test.YtgonodfggiablaaWGuard
import Derived.Test.YtgonodfggiablaaWNEv
import Derived.Test.YtgonodfggiablaaWMore
namespace Go.Proofs.Ytgonodfggiablaa.RTake
open Go.RowKit Go.Proofs.YtgonodfggiablaaW.PrintWords Go.Proofs.YtgonodfggiablaaW.PrintLast Go.Proofs.YtgonodfggiablaaW.PrintMore
set_option linter.unusedVariables false
set_option linter.unusedSimpArgs false
open QBlockTakes Mem
open Word (word4)
theorem rd_drop (l : List Int) (m k : Nat) : rd (l.drop m) (k : Int) = rd l ((m + k : Nat) : Int) := by
  simp only [rd, List.getElem?_drop]
  simp
  rw [show ((m : Int) + (k : Int)).toNat = m + k by omega]
theorem word4_drop2 (l : List Int) : word4 (l.drop 2) = rd l 2 * 16777216 + rd l 3 * 65536 + rd l 4 * 256 + rd l 5 := by
  have h0 : rd (l.drop 2) 0 = rd l 2 := rd_drop l 2 0
  have h1 : rd (l.drop 2) 1 = rd l 3 := rd_drop l 2 1
  have h2 : rd (l.drop 2) 2 = rd l 4 := rd_drop l 2 2
  have h3 : rd (l.drop 2) 3 = rd l 5 := rd_drop l 2 3
  unfold word4
  rw [h0, h1, h2, h3]
theorem rd_at (l : List Int) (i : Nat) (h : i < l.length) : rd l (i : Int) = l[i] := by simp [rd, h]
theorem wrap_nat {n : Nat} (h : n < 4611686018427387904) : wrap64 ((n : Int) + 1) = ((n + 1 : Nat) : Int) := by unfold wrap64; omega

theorem ref_bit (k : Nat) (l : List Int) (r : Nat) (i : Int) (j : Nat) (hr : r < 4294967296) (hj : j < 8) :
    cobwebref08_Sum.l1 (k + 1) l (r : Int) i (j : Int) = cobwebref08_Sum.l1 k l (Crc.bit r : Int) i ((j + 1 : Nat) : Int) := by
  simp only [cobwebref08_Sum.l1]
  rw [if_pos (by omega), wrap_nat (by omega)]
  have t1 : Int.tmod (r : Int) 2 = ((r % 2 : Nat) : Int) := by rw [Int.tmod_eq_emod_of_nonneg (by omega)]; omega
  have t2 : Int.tdiv (r : Int) 2 % 4294967296 = ((r / 2 : Nat) : Int) := by rw [Int.tdiv_eq_ediv_of_nonneg (by omega)]; omega
  rw [t1, t2]
  unfold Crc.bit
  by_cases h : r % 2 = 1
  · rw [if_pos (by omega), if_pos h, show (3988292384 : Int) = ((3988292384 : Nat) : Int) from rfl, u32_xor_nat _ _ (by omega) (by decide)]
  · rw [if_neg (by omega), if_neg h]

theorem ref_byte (k : Nat) (l : List Int) (r : Nat) (i : Int) (hr : r < 4294967296) : cobwebref08_Sum.l1 (k + 9) l (r : Int) i 0 = cobwebref08_Sum.l0 k l (Crc.bit8 r : Int) (wrap64 (i + 1)) := by
  have b := Crc.bit_lt
  have e0 := ref_bit (k + 8) l r i 0 hr (by decide)
  have h1 := b r hr
  have e1 := ref_bit (k + 7) l _ i 1 h1 (by decide)
  have h2 := b _ h1
  have e2 := ref_bit (k + 6) l _ i 2 h2 (by decide)
  have h3 := b _ h2
  have e3 := ref_bit (k + 5) l _ i 3 h3 (by decide)
  have h4 := b _ h3
  have e4 := ref_bit (k + 4) l _ i 4 h4 (by decide)
  have h5 := b _ h4
  have e5 := ref_bit (k + 3) l _ i 5 h5 (by decide)
  have h6 := b _ h5
  have e6 := ref_bit (k + 2) l _ i 6 h6 (by decide)
  have h7 := b _ h6
  have e7 := ref_bit (k + 1) l _ i 7 h7 (by decide)
  refine e0.trans (e1.trans (e2.trans (e3.trans (e4.trans (e5.trans (e6.trans (e7.trans ?_)))))))
  simp only [cobwebref08_Sum.l1]
  rw [if_neg (by omega)]
  rfl

theorem ref_loop (n : Nat) : ∀ (k : Nat) (l : List Int) (s : Nat) (i : Nat), Crc.IsBytes l → i ≤ l.length → l.length - i = n → l.length < 4611686018427387904 → s < 4294967296 → 10 * n < k →
    cobwebref08_Sum.l0 k l (s : Int) (i : Int) = some ((Crc.reg s (l.drop i) ^^^ 4294967295 : Nat) : Int) := by
  induction n with
  | zero =>
    intro k l s i hb hi hn hl hs hk
    obtain ⟨k, rfl⟩ : ∃ m, k = m + 1 := ⟨k - 1, by omega⟩
    simp only [cobwebref08_Sum.l0]
    rw [if_neg (by omega), List.drop_of_length_le (by omega), show (4294967295 : Int) = ((4294967295 : Nat) : Int) from rfl, u32_xor_nat _ _ hs (by decide)]
    rfl
  | succ n ih =>
    intro k l s i hb hi hn hl hs hk
    obtain ⟨k, rfl⟩ : ∃ m, k = m + 10 := ⟨k - 10, by omega⟩
    have hlt : i < l.length := by omega
    have hx := hb _ (List.getElem_mem hlt)
    simp only [cobwebref08_Sum.l0]
    rw [if_pos (by omega), if_pos (by omega), rd_at l i hlt]
    have ex : bits .xor .u32 (s : Int) (l[i] % 4294967296) = ((s ^^^ l[i].toNat : Nat) : Int) := by
      rw [show l[i] % 4294967296 = ((l[i].toNat : Nat) : Int) from by omega]
      exact u32_xor_nat _ _ hs (by omega)
    rw [ex, ref_byte k l _ _ (Crc.xor_lt hs (by omega)), wrap_nat (by omega)]
    have := ih k l (Crc.byte s l[i].toNat) (i + 1) hb (by omega) (by omega) hl (Crc.byte_lt _ _ hs (by omega)) (by omega)
    rw [List.drop_eq_getElem_cons hlt]
    exact this

theorem ref_sum (k : Nat) (l : List Int) (hb : Crc.IsBytes l) (hl : l.length < 4611686018427387904) (hk : 10 * l.length < k) : cobwebref08_Sum.f k l = some (Crc.sum l) := by
  unfold cobwebref08_Sum.f
  have := ref_loop l.length k l 4294967295 0 hb (by omega) (by omega) hl (by decide) hk
  rw [List.drop_zero] at this
  exact this

theorem four_ref (s : Int) (h0 : 0 ≤ s) (h1 : s ≤ 4294967295) : cobwebref08_four.f s = some (Block.four s) := by
  unfold cobwebref08_four.f Block.four
  rw [Int.tdiv_eq_ediv_of_nonneg h0, Int.tdiv_eq_ediv_of_nonneg h0, Int.tdiv_eq_ediv_of_nonneg h0]
  congr 1
  simp only [List.cons.injEq, and_true]
  omega
theorem bytes_inj {a b : List Int} (ha : Crc.IsBytes a) (hb : Crc.IsBytes b) (h : (strOfNums a).toList = (strOfNums b).toList) : a = b := by
  rw [Lib.strOfNums_toList, Lib.strOfNums_toList] at h
  unfold Lib.bytesOf at h
  induction a generalizing b with
  | nil => cases b with
    | nil => rfl
    | cons y b => simp at h
  | cons x a ih => cases b with
    | nil => simp at h
    | cons y b =>
      simp only [List.map_cons, List.cons.injEq] at h
      obtain ⟨h1, h2⟩ := h
      have hx := ha x (by simp)
      have hy := hb y (by simp)
      have h3 : x.toNat % 256 = y.toNat % 256 := by simpa using congrArg UInt8.toNat h1
      have h4 : x = y := by omega
      rw [h4, ih (fun z hz => ha z (by simp [hz])) (fun z hz => hb z (by simp [hz])) h2]
theorem str_same {a b : List Int} (ha : Crc.IsBytes a) (hb : Crc.IsBytes b) : ((strOfNums a).toList == (strOfNums b).toList) = decide (a = b) := by
  by_cases h : a = b
  · subst h; simp
  · rw [decide_eq_false h]
    exact beq_eq_false_iff_ne.2 (fun e => h (bytes_inj ha hb e))
theorem four_word (d : List Int) (hb : Crc.IsBytes d) (hl : 4 ≤ d.length) (s : Int) (h0 : 0 ≤ s) (h1 : s ≤ 4294967295) : Block.four s = d.take 4 ↔ word4 d = s := by
  match d, hl with
  | a :: b :: c :: e :: r, _ =>
    have ha := hb a (by simp)
    have hb2 := hb b (by simp)
    have hc := hb c (by simp)
    have he := hb e (by simp)
    have hw : word4 (a :: b :: c :: e :: r) = a * 16777216 + b * 65536 + c * 256 + e := by simp [word4, rd]
    rw [hw]
    unfold Block.four
    simp only [List.take_succ_cons, List.take_zero, List.cons.injEq, and_true]
    omega
theorem four_same (l : List Int) (n : Nat) (s : Int) (hb : Crc.IsBytes l) (h0 : 0 ≤ s) (h1 : s ≤ 4294967295) (hl : n + 10 ≤ l.length) :
    ((strOfNums (Block.four s)).toList == (strOfNums ((l.take (n + 10)).drop (n + 6))).toList) = decide (word4 (l.drop (n + 6)) = s) := by
  have e : (l.take (n + 10)).drop (n + 6) = (l.drop (n + 6)).take 4 := by rw [List.drop_take, show n + 10 - (n + 6) = 4 by omega]
  rw [str_same (Block.four_bytes s) (fun x hx => hb x (List.mem_of_mem_take (List.mem_of_mem_drop hx))), e]
  have h := four_word (l.drop (n + 6)) (fun x hx => hb x (List.mem_of_mem_drop hx)) (by rw [List.length_drop]; omega) s h0 h1
  by_cases hh : word4 (l.drop (n + 6)) = s
  · rw [decide_eq_true hh, decide_eq_true (h.2 hh)]
  · rw [decide_eq_false hh, decide_eq_false (fun e => hh (h.1 e))]
theorem of_not_bne {a b : Int} (h : (a != b) = false) : a = b := by simpa using h
theorem of_bne {a b : Int} (h : (a != b) = true) : a ≠ b := by simpa using h

set_option maxHeartbeats 8000000 in
set_option maxRecDepth 100000 in
theorem r_empty (A0 : Option Addr) (c0 : Nat) (l0 : List Int) (w : World) (hr0 : Kd.C (Kd.int .u8) w A0 l0.length l0) (hc0 : l0.length ≤ c0) (hl : l0.length = 0) :
    Calls Try.prog 16 #[.slice A0 l0.length c0] w fun e w' => e = .returned (.tuple #[.agg #[.int .u8 0, .slice none 0 0], .int .i64 0, .int .i64 20]) ∧ Below w.heap.size w w' := by
  obtain rfl := List.length_eq_zero_iff.1 hl
  clear hl
  have HR0 := Aside0.mk hr0
  clear hr0
  go_enter Try.func16, Try.ntmps16
  go_wp2_with (first | ((with_reducible refine gate_dst (N := 2) rfl ?_); refine box_event ?hg (N := 2) ?hd (cs := #[.int .u8 0, .slice none 0 0]) (t := 30) ?hr ?_; (case hd => rfl); (case hg => rfl); (case hr => first | (go_simp; done) | (go_simp; rfl)); intro g hg w1 hbox hb; have HB := Aside0.mk hb; have BK := Aside0.mk hbox; have GE := Aside0.mk (show w.heap.size ≤ g by rw [hg]; exact Nat.le_refl _); have HR1 := Aside0.mk (Kd.C_below HR0.out hb); clear hg hb hbox; have hcz0 : w1.cell? ⟨g, 0, none⟩ = some (.int .u8 0) := (blk_cell BK.out 0).trans rfl; have hcz1 : w1.cell? ⟨g, 1, none⟩ = some (.slice none 0 0) := (blk_cell BK.out 1).trans rfl; have hfz0 := blk_frozen BK.out 0; have hfz1 := blk_frozen BK.out 1))
  refine bodyPost_ret (results_ctt rfl _ _ g 30 #[.int .u8 0, .slice none 0 0] (0, 0) _ rfl (by (with_reducible repeat (first | refine blk_drewN ?_ _ | refine blk_drew ?_ | refine blk_alloc ?_ _)); refine blk_put (cs := #[.int .u8 0, .slice none 0 0]) ?_ 1 _ rfl; (with_reducible repeat (first | refine blk_drewN ?_ _ | refine blk_drew ?_ | refine blk_alloc ?_ _)); refine blk_put (cs := #[.int .u8 0, .slice none 0 0]) ?_ 0 _ rfl; (with_reducible repeat (first | refine blk_drewN ?_ _ | refine blk_drew ?_ | refine blk_alloc ?_ _)); exact BK.out) Try.underlying30 rfl (by kernel_rfl)) rfl ?_
  exact ⟨rfl, (by repeat (first | (with_reducible first | exact HB.out | apply below_alloc | apply pw_below_drewN | apply below_drew1 | refine below_set ?_ GE.out) | exact HB.out))⟩

set_option maxHeartbeats 8000000 in
set_option maxRecDepth 100000 in
theorem r_magic (A0 : Option Addr) (c0 : Nat) (l0 : List Int) (w : World) (hr0 : Kd.C (Kd.int .u8) w A0 l0.length l0) (hc0 : l0.length ≤ c0) (hl : 0 < l0.length) (hk : ¬ rd l0 0 = 203) :
    Calls Try.prog 16 #[.slice A0 l0.length c0] w fun e w' => e = .returned (.tuple #[.agg #[.int .u8 0, .slice none 0 0], .int .i64 0, .int .i64 80]) ∧ Below w.heap.size w w' := by
  have p0 : 0 ≤ (0 : Int) := by omega
  have q0 : 0 < (l0.length : Int) := by omega
  have i0 : (0 < l0.length) = True := eq_true (by omega)
  have z0 : ((l0.length : Int) == 0) = false := beq_eq_false_iff_ne.2 (by omega)
  have z1 : ((l0.length : Int) != 0) = true := bne_iff_ne.2 (by omega)
  have z2 : ¬ l0 = [] := fun h => by rw [h] at q0; simp at q0
  have k0 : (rd l0 0 == 203) = false := beq_eq_false_iff_ne.2 hk
  have k1 : (rd l0 0 != 203) = true := bne_iff_ne.2 hk
  clear hk
  clear hl
  have HR0 := Aside0.mk hr0
  clear hr0
  go_enter Try.func16, Try.ntmps16
  go_wp2_with (first | ((with_reducible refine gate_dst (N := 2) rfl ?_); refine box_event ?hg (N := 2) ?hd (cs := #[.int .u8 0, .slice none 0 0]) (t := 30) ?hr ?_; (case hd => rfl); (case hg => rfl); (case hr => first | (go_simp; done) | (go_simp; rfl)); intro g hg w1 hbox hb; have HB := Aside0.mk hb; have BK := Aside0.mk hbox; have GE := Aside0.mk (show w.heap.size ≤ g by rw [hg]; exact Nat.le_refl _); have HR1 := Aside0.mk (Kd.C_below HR0.out hb); clear hg hb hbox; have hcz0 : w1.cell? ⟨g, 0, none⟩ = some (.int .u8 0) := (blk_cell BK.out 0).trans rfl; have hcz1 : w1.cell? ⟨g, 1, none⟩ = some (.slice none 0 0) := (blk_cell BK.out 1).trans rfl; have hfz0 := blk_frozen BK.out 0; have hfz1 := blk_frozen BK.out 1; obtain ⟨ad0_, e0, hx0⟩ := Kd.at_int HR1.out 0 p0 q0; cases e0; rw [show ((0 : Int)).toNat = 0 from rfl, Addr.add_zero'] at hx0))
  refine bodyPost_ret (results_ctt rfl _ _ g 30 #[.int .u8 0, .slice none 0 0] (0, 0) _ rfl (by (with_reducible repeat (first | refine blk_drewN ?_ _ | refine blk_drew ?_ | refine blk_alloc ?_ _)); refine blk_put (cs := #[.int .u8 0, .slice none 0 0]) ?_ 1 _ rfl; (with_reducible repeat (first | refine blk_drewN ?_ _ | refine blk_drew ?_ | refine blk_alloc ?_ _)); refine blk_put (cs := #[.int .u8 0, .slice none 0 0]) ?_ 0 _ rfl; (with_reducible repeat (first | refine blk_drewN ?_ _ | refine blk_drew ?_ | refine blk_alloc ?_ _)); exact BK.out) Try.underlying30 rfl (by kernel_rfl)) rfl ?_
  exact ⟨rfl, (by repeat (first | (with_reducible first | exact HB.out | apply below_alloc | apply pw_below_drewN | apply below_drew1 | refine below_set ?_ GE.out) | exact HB.out))⟩

set_option maxHeartbeats 8000000 in
set_option maxRecDepth 100000 in
theorem r_short (A0 : Option Addr) (c0 : Nat) (l0 : List Int) (w : World) (hr0 : Kd.C (Kd.int .u8) w A0 l0.length l0) (hc0 : l0.length ≤ c0) (hl : 0 < l0.length) (hk : rd l0 0 = 203) (h6 : l0.length < 6) :
    Calls Try.prog 16 #[.slice A0 l0.length c0] w fun e w' => e = .returned (.tuple #[.agg #[.int .u8 0, .slice none 0 0], .int .i64 0, .int .i64 20]) ∧ Below w.heap.size w w' := by
  have p0 : 0 ≤ (0 : Int) := by omega
  have q0 : 0 < (l0.length : Int) := by omega
  have i0 : (0 < l0.length) = True := eq_true (by omega)
  have z0 : ((l0.length : Int) == 0) = false := beq_eq_false_iff_ne.2 (by omega)
  have z1 : ((l0.length : Int) != 0) = true := bne_iff_ne.2 (by omega)
  have z2 : ¬ l0 = [] := fun h => by rw [h] at q0; simp at q0
  have k0 : (rd l0 0 == 203) = true := beq_iff_eq.2 hk
  have k1 : (rd l0 0 != 203) = false := bne_eq_false_iff_eq.2 hk
  clear hk
  have s0 : decide ((l0.length : Int) < 6) = true := decide_eq_true (by omega)
  have s1 : decide (l0.length < 6) = true := decide_eq_true h6
  clear h6
  clear hl
  have HR0 := Aside0.mk hr0
  clear hr0
  go_enter Try.func16, Try.ntmps16
  go_wp2_with (first | ((with_reducible refine gate_dst (N := 2) rfl ?_); refine box_event ?hg (N := 2) ?hd (cs := #[.int .u8 0, .slice none 0 0]) (t := 30) ?hr ?_; (case hd => rfl); (case hg => rfl); (case hr => first | (go_simp; done) | (go_simp; rfl)); intro g hg w1 hbox hb; have HB := Aside0.mk hb; have BK := Aside0.mk hbox; have GE := Aside0.mk (show w.heap.size ≤ g by rw [hg]; exact Nat.le_refl _); have HR1 := Aside0.mk (Kd.C_below HR0.out hb); clear hg hb hbox; have hcz0 : w1.cell? ⟨g, 0, none⟩ = some (.int .u8 0) := (blk_cell BK.out 0).trans rfl; have hcz1 : w1.cell? ⟨g, 1, none⟩ = some (.slice none 0 0) := (blk_cell BK.out 1).trans rfl; have hfz0 := blk_frozen BK.out 0; have hfz1 := blk_frozen BK.out 1; obtain ⟨ad0_, e0, hx0⟩ := Kd.at_int HR1.out 0 p0 q0; cases e0; rw [show ((0 : Int)).toNat = 0 from rfl, Addr.add_zero'] at hx0))
  refine bodyPost_ret (results_ctt rfl _ _ g 30 #[.int .u8 0, .slice none 0 0] (0, 0) _ rfl (by (with_reducible repeat (first | refine blk_drewN ?_ _ | refine blk_drew ?_ | refine blk_alloc ?_ _)); refine blk_put (cs := #[.int .u8 0, .slice none 0 0]) ?_ 1 _ rfl; (with_reducible repeat (first | refine blk_drewN ?_ _ | refine blk_drew ?_ | refine blk_alloc ?_ _)); refine blk_put (cs := #[.int .u8 0, .slice none 0 0]) ?_ 0 _ rfl; (with_reducible repeat (first | refine blk_drewN ?_ _ | refine blk_drew ?_ | refine blk_alloc ?_ _)); exact BK.out) Try.underlying30 rfl (by kernel_rfl)) rfl ?_
  exact ⟨rfl, (by repeat (first | (with_reducible first | exact HB.out | apply below_alloc | apply pw_below_drewN | apply below_drew1 | refine below_set ?_ GE.out) | exact HB.out))⟩

set_option maxHeartbeats 8000000 in
set_option maxRecDepth 100000 in
theorem r_long (A0 : Option Addr) (c0 : Nat) (l0 : List Int) (w : World) (hr0 : Kd.C (Kd.int .u8) w A0 l0.length l0) (hc0 : l0.length ≤ c0) (hk : rd l0 0 = 203) (h6 : 6 ≤ l0.length) (hby : Crc.IsBytes l0) (hw : 1048576 < word4 (l0.drop 2)) :
    Calls Try.prog 16 #[.slice A0 l0.length c0] w fun e w' => e = .returned (.tuple #[.agg #[.int .u8 0, .slice none 0 0], .int .i64 0, .int .i64 82]) ∧ Below w.heap.size w w' := by
  have p0 : 0 ≤ (0 : Int) := by omega
  have q0 : 0 < (l0.length : Int) := by omega
  have i0 : (0 < l0.length) = True := eq_true (by omega)
  have z0 : ((l0.length : Int) == 0) = false := beq_eq_false_iff_ne.2 (by omega)
  have z1 : ((l0.length : Int) != 0) = true := bne_iff_ne.2 (by omega)
  have z2 : ¬ l0 = [] := fun h => by rw [h] at q0; simp at q0
  have k0 : (rd l0 0 == 203) = true := beq_iff_eq.2 hk
  have k1 : (rd l0 0 != 203) = false := bne_eq_false_iff_eq.2 hk
  clear hk
  have s0 : decide ((l0.length : Int) < 6) = false := decide_eq_false (by omega)
  have s1 : decide (l0.length < 6) = false := decide_eq_false (by omega)
  have HBY := Aside0.mk hby
  have r2 := Word.rd_byte hby 2
  have r3 := Word.rd_byte hby 3
  have r4 := Word.rd_byte hby 4
  have r5 := Word.rd_byte hby 5
  obtain ⟨b2, hb2⟩ : ∃ b, b = rd l0 2 := ⟨_, rfl⟩
  obtain ⟨b3, hb3⟩ : ∃ b, b = rd l0 3 := ⟨_, rfl⟩
  obtain ⟨b4, hb4⟩ : ∃ b, b = rd l0 4 := ⟨_, rfl⟩
  obtain ⟨b5, hb5⟩ : ∃ b, b = rd l0 5 := ⟨_, rfl⟩
  rw [← hb2] at r2
  rw [← hb3] at r3
  rw [← hb4] at r4
  rw [← hb5] at r5
  obtain ⟨n, hn⟩ : ∃ n : Nat, word4 (l0.drop 2) = (n : Int) := ⟨_, (Int.toNat_of_nonneg (Word.word4_range (fun x hx => hby x (List.mem_of_mem_drop hx))).1).symm⟩
  rw [hn] at hw
  have hnb : ((b2 * 256 + b3) * 256 + b4) * 256 + b5 = (n : Int) := by rw [← hn, word4_drop2, hb2, hb3, hb4, hb5]; omega
  have HB2 := Aside0.mk hb2
  have HB3 := Aside0.mk hb3
  have HB4 := Aside0.mk hb4
  have HB5 := Aside0.mk hb5
  have t1 : IntKind.i64.wrap (b2 * 256) = b2 * 256 := by rw [IntKind.wrap_i64]; omega
  have t2 : IntKind.i64.wrap (b2 * 256 + b3) = b2 * 256 + b3 := by rw [IntKind.wrap_i64]; omega
  have t3 : IntKind.i64.wrap ((b2 * 256 + b3) * 256) = (b2 * 256 + b3) * 256 := by rw [IntKind.wrap_i64]; omega
  have t4 : IntKind.i64.wrap ((b2 * 256 + b3) * 256 + b4) = (b2 * 256 + b3) * 256 + b4 := by rw [IntKind.wrap_i64]; omega
  have t5 : IntKind.i64.wrap (((b2 * 256 + b3) * 256 + b4) * 256) = ((b2 * 256 + b3) * 256 + b4) * 256 := by rw [IntKind.wrap_i64]; omega
  have t6 : IntKind.i64.wrap (((b2 * 256 + b3) * 256 + b4) * 256 + b5) = (n : Int) := by rw [IntKind.wrap_i64]; omega
  have HNEST := Aside0.mk (show IntKind.i64.wrap (IntKind.i64.wrap (IntKind.i64.wrap (IntKind.i64.wrap (IntKind.i64.wrap (IntKind.i64.wrap (IntKind.i64.wrap b2 * 256) + IntKind.i64.wrap b3) * 256) + IntKind.i64.wrap b4) * 256) + IntKind.i64.wrap b5) = (n : Int) by
    rw [show IntKind.i64.wrap b2 = b2 by rw [IntKind.wrap_i64]; omega, show IntKind.i64.wrap b3 = b3 by rw [IntKind.wrap_i64]; omega, show IntKind.i64.wrap b4 = b4 by rw [IntKind.wrap_i64]; omega, show IntKind.i64.wrap b5 = b5 by rw [IntKind.wrap_i64]; omega, t1, t2, t3, t4, t5, t6])
  clear t1 t2 t3 t4 t5 t6
  have HNB := Aside0.mk hnb
  have HN := Aside0.mk hn
  clear hb2 hb3 hb4 hb5 hn hnb
  have q5 : (5 : Int) < (l0.length : Int) := by omega
  have q4 : (4 : Int) < (l0.length : Int) := by omega
  have q3 : (3 : Int) < (l0.length : Int) := by omega
  have q2 : (2 : Int) < (l0.length : Int) := by omega
  have hgt : decide ((1048576 : Int) < (n : Int)) = true := decide_eq_true hw
  clear hw h6
  have HR0 := Aside0.mk hr0
  clear hr0
  go_enter Try.func16, Try.ntmps16
  go_wp2_with (first | ((with_reducible refine gate_dst (N := 2) rfl ?_); refine box_event ?hg (N := 2) ?hd (cs := #[.int .u8 0, .slice none 0 0]) (t := 30) ?hr ?_; (case hd => rfl); (case hg => rfl); (case hr => first | (go_simp; done) | (go_simp; rfl)); intro g hg w1 hbox hb; have HB := Aside0.mk hb; have BK := Aside0.mk hbox; have GE := Aside0.mk (show w.heap.size ≤ g by rw [hg]; exact Nat.le_refl _); have HR1 := Aside0.mk (Kd.C_below HR0.out hb); clear hg hb hbox; have hcz0 : w1.cell? ⟨g, 0, none⟩ = some (.int .u8 0) := (blk_cell BK.out 0).trans rfl; have hcz1 : w1.cell? ⟨g, 1, none⟩ = some (.slice none 0 0) := (blk_cell BK.out 1).trans rfl; have hfz0 := blk_frozen BK.out 0; have hfz1 := blk_frozen BK.out 1; obtain ⟨ad0_, e0, hx0⟩ := Kd.at_int HR1.out 0 p0 q0; cases e0; rw [show ((0 : Int)).toNat = 0 from rfl, Addr.add_zero'] at hx0))
  have hy2 : ∀ W, Below w1.heap.size w1 W → W.cell? ⟨ad0_.block, ad0_.off + 2, none⟩ = some (.int .u8 b2) := fun W h => by
    obtain ⟨ad, e, hx⟩ := Kd.at_int (Kd.C_below HR1.out h) 2 (by omega) q2
    cases e
    simp only [show (2 : Int).toNat = 2 from rfl, Nat.reduceEqDiff, Go.Addr.add, ↓reduceIte] at hx
    rw [HB2.out]; exact hx
  have hy3 : ∀ W, Below w1.heap.size w1 W → W.cell? ⟨ad0_.block, ad0_.off + 3, none⟩ = some (.int .u8 b3) := fun W h => by
    obtain ⟨ad, e, hx⟩ := Kd.at_int (Kd.C_below HR1.out h) 3 (by omega) q3
    cases e
    simp only [show (3 : Int).toNat = 3 from rfl, Nat.reduceEqDiff, Go.Addr.add, ↓reduceIte] at hx
    rw [HB3.out]; exact hx
  have hy4 : ∀ W, Below w1.heap.size w1 W → W.cell? ⟨ad0_.block, ad0_.off + 4, none⟩ = some (.int .u8 b4) := fun W h => by
    obtain ⟨ad, e, hx⟩ := Kd.at_int (Kd.C_below HR1.out h) 4 (by omega) q4
    cases e
    simp only [show (4 : Int).toNat = 4 from rfl, Nat.reduceEqDiff, Go.Addr.add, ↓reduceIte] at hx
    rw [HB4.out]; exact hx
  have hy5 : ∀ W, Below w1.heap.size w1 W → W.cell? ⟨ad0_.block, ad0_.off + 5, none⟩ = some (.int .u8 b5) := fun W h => by
    obtain ⟨ad, e, hx⟩ := Kd.at_int (Kd.C_below HR1.out h) 5 (by omega) q5
    cases e
    simp only [show (5 : Int).toNat = 5 from rfl, Nat.reduceEqDiff, Go.Addr.add, ↓reduceIte] at hx
    rw [HB5.out]; exact hx
  refine RegH.startH (fun W => Below w1.heap.size w1 W) (by kernel_rfl) rfl (below_drew1 (Below.refl _ _)) (fun hS => ?_)
  (refine RegH.tkH (i := 0) (d := 19) (oi := ⟨_, _, _, _, _, _⟩) (v := ?_) rfl rfl (by kernel_rfl) (by kernel_rfl) (by kernel_rfl) (fun _ _ _ h => h) (Or.inl ⟨by rfl, ?_⟩) hS ?_; rotate_left; (intro w hSw; (try dsimp only at hSw); go_simp); try (with_reducible rfl))
  try simp only [Act.put, List.setIfInBounds_toArray, List.set_cons_zero, List.set_cons_succ]
  (refine RegH.tkH (i := 1) (d := 20) (oi := ⟨_, _, _, _, _, _⟩) (v := ?_) rfl rfl (by kernel_rfl) (by kernel_rfl) (by kernel_rfl) (fun _ _ _ h => h) (Or.inl ⟨by rfl, ?_⟩) hS ?_; rotate_left; (intro w hSw; (try dsimp only at hSw); go_simp); try (with_reducible rfl))
  try simp only [Act.put, List.setIfInBounds_toArray, List.set_cons_zero, List.set_cons_succ]
  (refine RegH.tkH (i := 2) (d := 21) (oi := ⟨_, _, _, _, _, _⟩) (v := ?_) rfl rfl (by kernel_rfl) (by kernel_rfl) (by kernel_rfl) (fun _ _ _ h => h) (Or.inl ⟨by rfl, ?_⟩) hS ?_; rotate_left; (intro w hSw; (try dsimp only at hSw); go_simp); try (with_reducible rfl))
  try simp only [Act.put, List.setIfInBounds_toArray, List.set_cons_zero, List.set_cons_succ]
  (refine RegH.tkH (i := 3) (d := 22) (oi := ⟨_, _, _, _, _, _⟩) (v := ?_) rfl rfl (by kernel_rfl) (by kernel_rfl) (by kernel_rfl) (fun _ _ _ h => h) (Or.inl ⟨by rfl, ?_⟩) hS ?_; rotate_left; (intro w hSw; (try dsimp only at hSw); go_simp); try (with_reducible rfl))
  try simp only [Act.put, List.setIfInBounds_toArray, List.set_cons_zero, List.set_cons_succ]
  (refine RegH.tkH (i := 4) (d := 23) (oi := ⟨_, _, _, _, _, _⟩) (v := ?_) rfl rfl (by kernel_rfl) (by kernel_rfl) (by kernel_rfl) (fun _ _ _ h => h) (Or.inl ⟨by rfl, ?_⟩) hS ?_; rotate_left; (intro w hSw; (try dsimp only at hSw); go_simp); try (with_reducible rfl))
  try simp only [Act.put, List.setIfInBounds_toArray, List.set_cons_zero, List.set_cons_succ]
  (refine RegH.tkH (i := 5) (d := 24) (oi := ⟨_, _, _, _, _, _⟩) (v := ?_) rfl rfl (by kernel_rfl) (by kernel_rfl) (by kernel_rfl) (fun _ _ _ h => h) (Or.inl ⟨by rfl, ?_⟩) hS ?_; rotate_left; (intro w hSw; (try dsimp only at hSw); go_simp); try (with_reducible rfl))
  try simp only [Act.put, List.setIfInBounds_toArray, List.set_cons_zero, List.set_cons_succ]
  (refine RegH.tkH (i := 6) (d := 25) (oi := ⟨_, _, _, _, _, _⟩) (v := ?_) rfl rfl (by kernel_rfl) (by kernel_rfl) (by kernel_rfl) (fun _ _ _ h => h) (Or.inl ⟨by rfl, ?_⟩) hS ?_; rotate_left; (intro w hSw; (try dsimp only at hSw); go_simp); try (with_reducible rfl))
  try simp only [Act.put, List.setIfInBounds_toArray, List.set_cons_zero, List.set_cons_succ]
  (refine RegH.tkH (i := 7) (d := 26) (oi := ⟨_, _, _, _, _, _⟩) (v := ?_) rfl rfl (by kernel_rfl) (by kernel_rfl) (by kernel_rfl) (fun _ _ _ h => h) (Or.inl ⟨by rfl, ?_⟩) hS ?_; rotate_left; (intro w hSw; (try dsimp only at hSw); go_simp); try (with_reducible rfl))
  try simp only [Act.put, List.setIfInBounds_toArray, List.set_cons_zero, List.set_cons_succ]
  (refine RegH.tkH (i := 8) (d := 27) (oi := ⟨_, _, _, _, _, _⟩) (v := ?_) rfl rfl (by kernel_rfl) (by kernel_rfl) (by kernel_rfl) (fun _ _ _ h => h) (Or.inl ⟨by rfl, ?_⟩) hS ?_; rotate_left; (intro w hSw; (try dsimp only at hSw); go_simp); try (with_reducible rfl))
  try simp only [Act.put, List.setIfInBounds_toArray, List.set_cons_zero, List.set_cons_succ]
  (refine RegH.tkH (i := 9) (d := 28) (oi := ⟨_, _, _, _, _, _⟩) (v := ?_) rfl rfl (by kernel_rfl) (by kernel_rfl) (by kernel_rfl) (fun _ _ _ h => h) (Or.inl ⟨by rfl, ?_⟩) hS ?_; rotate_left; (intro w hSw; (try dsimp only at hSw); go_simp); try (with_reducible rfl))
  try simp only [Act.put, List.setIfInBounds_toArray, List.set_cons_zero, List.set_cons_succ]
  (refine RegH.tkH (i := 10) (d := 29) (oi := ⟨_, _, _, _, _, _⟩) (v := ?_) rfl rfl (by kernel_rfl) (by kernel_rfl) (by kernel_rfl) (fun _ _ _ h => h) (Or.inl ⟨by rfl, ?_⟩) hS ?_; rotate_left; (intro w hSw; (try dsimp only at hSw); go_simp); try (with_reducible rfl))
  try simp only [Act.put, List.setIfInBounds_toArray, List.set_cons_zero, List.set_cons_succ]
  (refine RegH.tkH (i := 11) (d := 30) (oi := ⟨_, _, _, _, _, _⟩) (v := ?_) rfl rfl (by kernel_rfl) (by kernel_rfl) (by kernel_rfl) (fun _ _ _ h => h) (Or.inl ⟨by rfl, ?_⟩) hS ?_; rotate_left; (intro w hSw; (try dsimp only at hSw); go_simp); try (with_reducible rfl))
  try simp only [Act.put, List.setIfInBounds_toArray, List.set_cons_zero, List.set_cons_succ]
  (refine RegH.tkH (i := 12) (d := 31) (oi := ⟨_, _, _, _, _, _⟩) (v := ?_) rfl rfl (by kernel_rfl) (by kernel_rfl) (by kernel_rfl) (fun _ _ _ h => h) (Or.inl ⟨by rfl, ?_⟩) hS ?_; rotate_left; (intro w hSw; (try dsimp only at hSw); go_simp); try (with_reducible rfl))
  try simp only [Act.put, List.setIfInBounds_toArray, List.set_cons_zero, List.set_cons_succ]
  (refine RegH.tkH (i := 13) (d := 32) (oi := ⟨_, _, _, _, _, _⟩) (v := ?_) rfl rfl (by kernel_rfl) (by kernel_rfl) (by kernel_rfl) (fun _ _ _ h => h) (Or.inl ⟨by rfl, ?_⟩) hS ?_; rotate_left; (intro w hSw; (try dsimp only at hSw); go_simp); try (with_reducible rfl))
  try simp only [Act.put, List.setIfInBounds_toArray, List.set_cons_zero, List.set_cons_succ]
  (refine RegH.tkH (i := 14) (d := 33) (oi := ⟨_, _, _, _, _, _⟩) (v := ?_) rfl rfl (by kernel_rfl) (by kernel_rfl) (by kernel_rfl) (fun _ _ _ h => h) (Or.inl ⟨by rfl, ?_⟩) hS ?_; rotate_left; (intro w hSw; (try dsimp only at hSw); go_simp); try (with_reducible rfl))
  try simp only [Act.put, List.setIfInBounds_toArray, List.set_cons_zero, List.set_cons_succ]
  (refine RegH.tkH (i := 15) (d := 34) (oi := ⟨_, _, _, _, _, _⟩) (v := ?_) rfl rfl (by kernel_rfl) (by kernel_rfl) (by kernel_rfl) (fun _ _ _ h => h) (Or.inl ⟨by rfl, ?_⟩) hS ?_; rotate_left; (intro w hSw; (try dsimp only at hSw); go_simp); try (with_reducible rfl))
  try simp only [Act.put, List.setIfInBounds_toArray, List.set_cons_zero, List.set_cons_succ]
  (refine RegH.tkH (i := 16) (d := 35) (oi := ⟨_, _, _, _, _, _⟩) (v := ?_) rfl rfl (by kernel_rfl) (by kernel_rfl) (by kernel_rfl) (fun _ _ _ h => h) (Or.inl ⟨by rfl, ?_⟩) hS ?_; rotate_left; (intro w hSw; (try dsimp only at hSw); go_simp); try (with_reducible rfl))
  try simp only [Act.put, List.setIfInBounds_toArray, List.set_cons_zero, List.set_cons_succ]
  (refine RegH.tkH (i := 17) (d := 36) (oi := ⟨_, _, _, _, _, _⟩) (v := ?_) rfl rfl (by kernel_rfl) (by kernel_rfl) (by kernel_rfl) (fun _ _ _ h => h) (Or.inl ⟨by rfl, ?_⟩) hS ?_; rotate_left; (intro w hSw; (try dsimp only at hSw); go_simp); try (with_reducible rfl))
  try simp only [Act.put, List.setIfInBounds_toArray, List.set_cons_zero, List.set_cons_succ]
  (refine RegH.tkH (i := 18) (d := 37) (oi := ⟨_, _, _, _, _, _⟩) (v := ?_) rfl rfl (by kernel_rfl) (by kernel_rfl) (by kernel_rfl) (fun _ _ _ h => h) (Or.inl ⟨by rfl, ?_⟩) hS ?_; rotate_left; (intro w hSw; (try dsimp only at hSw); go_simp); try (with_reducible rfl))
  try simp only [Act.put, List.setIfInBounds_toArray, List.set_cons_zero, List.set_cons_succ]
  (refine RegH.tkH (i := 19) (d := 38) (oi := ⟨_, _, _, _, _, _⟩) (v := ?_) rfl rfl (by kernel_rfl) (by kernel_rfl) (by kernel_rfl) (fun _ _ _ h => h) (Or.inl ⟨by rfl, ?_⟩) hS ?_; rotate_left; (intro w hSw; (try dsimp only at hSw); go_simp); try (with_reducible rfl))
  try simp only [Act.put, List.setIfInBounds_toArray, List.set_cons_zero, List.set_cons_succ]
  (refine RegH.tkH (i := 20) (d := 39) (oi := ⟨_, _, _, _, _, _⟩) (v := ?_) rfl rfl (by kernel_rfl) (by kernel_rfl) (by kernel_rfl) (fun _ _ _ h => h) (Or.inl ⟨by rfl, ?_⟩) hS ?_; rotate_left; (intro w hSw; (try dsimp only at hSw); go_simp); try (with_reducible rfl))
  try simp only [Act.put, List.setIfInBounds_toArray, List.set_cons_zero, List.set_cons_succ]
  (refine RegH.tkH (i := 21) (d := 40) (oi := ⟨_, _, _, _, _, _⟩) (v := ?_) rfl rfl (by kernel_rfl) (by kernel_rfl) (by kernel_rfl) (fun _ _ _ h => h) (Or.inl ⟨by rfl, ?_⟩) hS ?_; rotate_left; (intro w hSw; (try dsimp only at hSw); go_simp); try (with_reducible rfl))
  try simp only [Act.put, List.setIfInBounds_toArray, List.set_cons_zero, List.set_cons_succ]
  refine RegH.oneH (i := 22) (o := ⟨_, _, _, _, _, _⟩) (by kernel_rfl) rfl (fun K hK => ?_)
  go_simp
  refine hK.out _ _ (hS) (fun hS => ?_)
  clear hK K
  try simp only [Act.put, List.setIfInBounds_toArray, List.set_cons_zero, List.set_cons_succ]
  refine wpAnyH_done (by kernel_rfl) ?_ _
  rw [HNEST.out]
  go_wp2
  refine bodyPost_ret (results_ctt rfl _ _ g 30 #[.int .u8 0, .slice none 0 0] (0, 0) _ rfl (by (with_reducible repeat (first | refine blk_drewN ?_ _ | refine blk_drew ?_ | refine blk_alloc ?_ _)); refine blk_put (cs := #[.int .u8 0, .slice none 0 0]) ?_ 1 _ rfl; (with_reducible repeat (first | refine blk_drewN ?_ _ | refine blk_drew ?_ | refine blk_alloc ?_ _)); refine blk_put (cs := #[.int .u8 0, .slice none 0 0]) ?_ 0 _ rfl; (with_reducible repeat (first | refine blk_drewN ?_ _ | refine blk_drew ?_ | refine blk_alloc ?_ _)); exact BK.out) Try.underlying30 rfl (by kernel_rfl)) rfl ?_
  exact ⟨rfl, (by repeat (first | (with_reducible first | exact HB.out | apply below_alloc | apply pw_below_drewN | apply below_drew1 | refine below_set ?_ GE.out) | exact HB.out))⟩

set_option maxHeartbeats 8000000 in
set_option maxRecDepth 100000 in
theorem r_behind (A0 : Option Addr) (c0 : Nat) (l0 : List Int) (w : World) (hr0 : Kd.C (Kd.int .u8) w A0 l0.length l0) (hc0 : l0.length ≤ c0) (hk : rd l0 0 = 203) (h6 : 6 ≤ l0.length) (hby : Crc.IsBytes l0) (hw : word4 (l0.drop 2) ≤ 1048576) (hs : (l0.length : Int) < word4 (l0.drop 2) + 10) :
    Calls Try.prog 16 #[.slice A0 l0.length c0] w fun e w' => e = .returned (.tuple #[.agg #[.int .u8 0, .slice none 0 0], .int .i64 0, .int .i64 20]) ∧ Below w.heap.size w w' := by
  have p0 : 0 ≤ (0 : Int) := by omega
  have q0 : 0 < (l0.length : Int) := by omega
  have i0 : (0 < l0.length) = True := eq_true (by omega)
  have z0 : ((l0.length : Int) == 0) = false := beq_eq_false_iff_ne.2 (by omega)
  have z1 : ((l0.length : Int) != 0) = true := bne_iff_ne.2 (by omega)
  have z2 : ¬ l0 = [] := fun h => by rw [h] at q0; simp at q0
  have k0 : (rd l0 0 == 203) = true := beq_iff_eq.2 hk
  have k1 : (rd l0 0 != 203) = false := bne_eq_false_iff_eq.2 hk
  clear hk
  have s0 : decide ((l0.length : Int) < 6) = false := decide_eq_false (by omega)
  have s1 : decide (l0.length < 6) = false := decide_eq_false (by omega)
  have HBY := Aside0.mk hby
  have r2 := Word.rd_byte hby 2
  have r3 := Word.rd_byte hby 3
  have r4 := Word.rd_byte hby 4
  have r5 := Word.rd_byte hby 5
  obtain ⟨b2, hb2⟩ : ∃ b, b = rd l0 2 := ⟨_, rfl⟩
  obtain ⟨b3, hb3⟩ : ∃ b, b = rd l0 3 := ⟨_, rfl⟩
  obtain ⟨b4, hb4⟩ : ∃ b, b = rd l0 4 := ⟨_, rfl⟩
  obtain ⟨b5, hb5⟩ : ∃ b, b = rd l0 5 := ⟨_, rfl⟩
  rw [← hb2] at r2
  rw [← hb3] at r3
  rw [← hb4] at r4
  rw [← hb5] at r5
  obtain ⟨n, hn⟩ : ∃ n : Nat, word4 (l0.drop 2) = (n : Int) := ⟨_, (Int.toNat_of_nonneg (Word.word4_range (fun x hx => hby x (List.mem_of_mem_drop hx))).1).symm⟩
  rw [hn] at hw hs
  have hnb : ((b2 * 256 + b3) * 256 + b4) * 256 + b5 = (n : Int) := by rw [← hn, word4_drop2, hb2, hb3, hb4, hb5]; omega
  have HB2 := Aside0.mk hb2
  have HB3 := Aside0.mk hb3
  have HB4 := Aside0.mk hb4
  have HB5 := Aside0.mk hb5
  have t1 : IntKind.i64.wrap (b2 * 256) = b2 * 256 := by rw [IntKind.wrap_i64]; omega
  have t2 : IntKind.i64.wrap (b2 * 256 + b3) = b2 * 256 + b3 := by rw [IntKind.wrap_i64]; omega
  have t3 : IntKind.i64.wrap ((b2 * 256 + b3) * 256) = (b2 * 256 + b3) * 256 := by rw [IntKind.wrap_i64]; omega
  have t4 : IntKind.i64.wrap ((b2 * 256 + b3) * 256 + b4) = (b2 * 256 + b3) * 256 + b4 := by rw [IntKind.wrap_i64]; omega
  have t5 : IntKind.i64.wrap (((b2 * 256 + b3) * 256 + b4) * 256) = ((b2 * 256 + b3) * 256 + b4) * 256 := by rw [IntKind.wrap_i64]; omega
  have t6 : IntKind.i64.wrap (((b2 * 256 + b3) * 256 + b4) * 256 + b5) = (n : Int) := by rw [IntKind.wrap_i64]; omega
  have HNEST := Aside0.mk (show IntKind.i64.wrap (IntKind.i64.wrap (IntKind.i64.wrap (IntKind.i64.wrap (IntKind.i64.wrap (IntKind.i64.wrap (IntKind.i64.wrap b2 * 256) + IntKind.i64.wrap b3) * 256) + IntKind.i64.wrap b4) * 256) + IntKind.i64.wrap b5) = (n : Int) by
    rw [show IntKind.i64.wrap b2 = b2 by rw [IntKind.wrap_i64]; omega, show IntKind.i64.wrap b3 = b3 by rw [IntKind.wrap_i64]; omega, show IntKind.i64.wrap b4 = b4 by rw [IntKind.wrap_i64]; omega, show IntKind.i64.wrap b5 = b5 by rw [IntKind.wrap_i64]; omega, t1, t2, t3, t4, t5, t6])
  clear t1 t2 t3 t4 t5 t6
  have HNB := Aside0.mk hnb
  have HN := Aside0.mk hn
  clear hb2 hb3 hb4 hb5 hn hnb
  have q5 : (5 : Int) < (l0.length : Int) := by omega
  have q4 : (4 : Int) < (l0.length : Int) := by omega
  have q3 : (3 : Int) < (l0.length : Int) := by omega
  have q2 : (2 : Int) < (l0.length : Int) := by omega
  have hgt : decide ((1048576 : Int) < (n : Int)) = false := decide_eq_false (by omega)
  have t10 : IntKind.i64.wrap ((n : Int) + 10) = (n : Int) + 10 := by rw [IntKind.wrap_i64]; omega
  have hlt : decide ((l0.length : Int) < (n : Int) + 10) = true := decide_eq_true hs
  clear hw h6 hs
  have HR0 := Aside0.mk hr0
  clear hr0
  go_enter Try.func16, Try.ntmps16
  go_wp2_with (first | ((with_reducible refine gate_dst (N := 2) rfl ?_); refine box_event ?hg (N := 2) ?hd (cs := #[.int .u8 0, .slice none 0 0]) (t := 30) ?hr ?_; (case hd => rfl); (case hg => rfl); (case hr => first | (go_simp; done) | (go_simp; rfl)); intro g hg w1 hbox hb; have HB := Aside0.mk hb; have BK := Aside0.mk hbox; have GE := Aside0.mk (show w.heap.size ≤ g by rw [hg]; exact Nat.le_refl _); have HR1 := Aside0.mk (Kd.C_below HR0.out hb); clear hg hb hbox; have hcz0 : w1.cell? ⟨g, 0, none⟩ = some (.int .u8 0) := (blk_cell BK.out 0).trans rfl; have hcz1 : w1.cell? ⟨g, 1, none⟩ = some (.slice none 0 0) := (blk_cell BK.out 1).trans rfl; have hfz0 := blk_frozen BK.out 0; have hfz1 := blk_frozen BK.out 1; obtain ⟨ad0_, e0, hx0⟩ := Kd.at_int HR1.out 0 p0 q0; cases e0; rw [show ((0 : Int)).toNat = 0 from rfl, Addr.add_zero'] at hx0))
  have hy2 : ∀ W, Below w1.heap.size w1 W → W.cell? ⟨ad0_.block, ad0_.off + 2, none⟩ = some (.int .u8 b2) := fun W h => by
    obtain ⟨ad, e, hx⟩ := Kd.at_int (Kd.C_below HR1.out h) 2 (by omega) q2
    cases e
    simp only [show (2 : Int).toNat = 2 from rfl, Nat.reduceEqDiff, Go.Addr.add, ↓reduceIte] at hx
    rw [HB2.out]; exact hx
  have hy3 : ∀ W, Below w1.heap.size w1 W → W.cell? ⟨ad0_.block, ad0_.off + 3, none⟩ = some (.int .u8 b3) := fun W h => by
    obtain ⟨ad, e, hx⟩ := Kd.at_int (Kd.C_below HR1.out h) 3 (by omega) q3
    cases e
    simp only [show (3 : Int).toNat = 3 from rfl, Nat.reduceEqDiff, Go.Addr.add, ↓reduceIte] at hx
    rw [HB3.out]; exact hx
  have hy4 : ∀ W, Below w1.heap.size w1 W → W.cell? ⟨ad0_.block, ad0_.off + 4, none⟩ = some (.int .u8 b4) := fun W h => by
    obtain ⟨ad, e, hx⟩ := Kd.at_int (Kd.C_below HR1.out h) 4 (by omega) q4
    cases e
    simp only [show (4 : Int).toNat = 4 from rfl, Nat.reduceEqDiff, Go.Addr.add, ↓reduceIte] at hx
    rw [HB4.out]; exact hx
  have hy5 : ∀ W, Below w1.heap.size w1 W → W.cell? ⟨ad0_.block, ad0_.off + 5, none⟩ = some (.int .u8 b5) := fun W h => by
    obtain ⟨ad, e, hx⟩ := Kd.at_int (Kd.C_below HR1.out h) 5 (by omega) q5
    cases e
    simp only [show (5 : Int).toNat = 5 from rfl, Nat.reduceEqDiff, Go.Addr.add, ↓reduceIte] at hx
    rw [HB5.out]; exact hx
  refine RegH.startH (fun W => Below w1.heap.size w1 W) (by kernel_rfl) rfl (below_drew1 (Below.refl _ _)) (fun hS => ?_)
  (refine RegH.tkH (i := 0) (d := 19) (oi := ⟨_, _, _, _, _, _⟩) (v := ?_) rfl rfl (by kernel_rfl) (by kernel_rfl) (by kernel_rfl) (fun _ _ _ h => h) (Or.inl ⟨by rfl, ?_⟩) hS ?_; rotate_left; (intro w hSw; (try dsimp only at hSw); go_simp); try (with_reducible rfl))
  try simp only [Act.put, List.setIfInBounds_toArray, List.set_cons_zero, List.set_cons_succ]
  (refine RegH.tkH (i := 1) (d := 20) (oi := ⟨_, _, _, _, _, _⟩) (v := ?_) rfl rfl (by kernel_rfl) (by kernel_rfl) (by kernel_rfl) (fun _ _ _ h => h) (Or.inl ⟨by rfl, ?_⟩) hS ?_; rotate_left; (intro w hSw; (try dsimp only at hSw); go_simp); try (with_reducible rfl))
  try simp only [Act.put, List.setIfInBounds_toArray, List.set_cons_zero, List.set_cons_succ]
  (refine RegH.tkH (i := 2) (d := 21) (oi := ⟨_, _, _, _, _, _⟩) (v := ?_) rfl rfl (by kernel_rfl) (by kernel_rfl) (by kernel_rfl) (fun _ _ _ h => h) (Or.inl ⟨by rfl, ?_⟩) hS ?_; rotate_left; (intro w hSw; (try dsimp only at hSw); go_simp); try (with_reducible rfl))
  try simp only [Act.put, List.setIfInBounds_toArray, List.set_cons_zero, List.set_cons_succ]
  (refine RegH.tkH (i := 3) (d := 22) (oi := ⟨_, _, _, _, _, _⟩) (v := ?_) rfl rfl (by kernel_rfl) (by kernel_rfl) (by kernel_rfl) (fun _ _ _ h => h) (Or.inl ⟨by rfl, ?_⟩) hS ?_; rotate_left; (intro w hSw; (try dsimp only at hSw); go_simp); try (with_reducible rfl))
  try simp only [Act.put, List.setIfInBounds_toArray, List.set_cons_zero, List.set_cons_succ]
  (refine RegH.tkH (i := 4) (d := 23) (oi := ⟨_, _, _, _, _, _⟩) (v := ?_) rfl rfl (by kernel_rfl) (by kernel_rfl) (by kernel_rfl) (fun _ _ _ h => h) (Or.inl ⟨by rfl, ?_⟩) hS ?_; rotate_left; (intro w hSw; (try dsimp only at hSw); go_simp); try (with_reducible rfl))
  try simp only [Act.put, List.setIfInBounds_toArray, List.set_cons_zero, List.set_cons_succ]
  (refine RegH.tkH (i := 5) (d := 24) (oi := ⟨_, _, _, _, _, _⟩) (v := ?_) rfl rfl (by kernel_rfl) (by kernel_rfl) (by kernel_rfl) (fun _ _ _ h => h) (Or.inl ⟨by rfl, ?_⟩) hS ?_; rotate_left; (intro w hSw; (try dsimp only at hSw); go_simp); try (with_reducible rfl))
  try simp only [Act.put, List.setIfInBounds_toArray, List.set_cons_zero, List.set_cons_succ]
  (refine RegH.tkH (i := 6) (d := 25) (oi := ⟨_, _, _, _, _, _⟩) (v := ?_) rfl rfl (by kernel_rfl) (by kernel_rfl) (by kernel_rfl) (fun _ _ _ h => h) (Or.inl ⟨by rfl, ?_⟩) hS ?_; rotate_left; (intro w hSw; (try dsimp only at hSw); go_simp); try (with_reducible rfl))
  try simp only [Act.put, List.setIfInBounds_toArray, List.set_cons_zero, List.set_cons_succ]
  (refine RegH.tkH (i := 7) (d := 26) (oi := ⟨_, _, _, _, _, _⟩) (v := ?_) rfl rfl (by kernel_rfl) (by kernel_rfl) (by kernel_rfl) (fun _ _ _ h => h) (Or.inl ⟨by rfl, ?_⟩) hS ?_; rotate_left; (intro w hSw; (try dsimp only at hSw); go_simp); try (with_reducible rfl))
  try simp only [Act.put, List.setIfInBounds_toArray, List.set_cons_zero, List.set_cons_succ]
  (refine RegH.tkH (i := 8) (d := 27) (oi := ⟨_, _, _, _, _, _⟩) (v := ?_) rfl rfl (by kernel_rfl) (by kernel_rfl) (by kernel_rfl) (fun _ _ _ h => h) (Or.inl ⟨by rfl, ?_⟩) hS ?_; rotate_left; (intro w hSw; (try dsimp only at hSw); go_simp); try (with_reducible rfl))
  try simp only [Act.put, List.setIfInBounds_toArray, List.set_cons_zero, List.set_cons_succ]
  (refine RegH.tkH (i := 9) (d := 28) (oi := ⟨_, _, _, _, _, _⟩) (v := ?_) rfl rfl (by kernel_rfl) (by kernel_rfl) (by kernel_rfl) (fun _ _ _ h => h) (Or.inl ⟨by rfl, ?_⟩) hS ?_; rotate_left; (intro w hSw; (try dsimp only at hSw); go_simp); try (with_reducible rfl))
  try simp only [Act.put, List.setIfInBounds_toArray, List.set_cons_zero, List.set_cons_succ]
  (refine RegH.tkH (i := 10) (d := 29) (oi := ⟨_, _, _, _, _, _⟩) (v := ?_) rfl rfl (by kernel_rfl) (by kernel_rfl) (by kernel_rfl) (fun _ _ _ h => h) (Or.inl ⟨by rfl, ?_⟩) hS ?_; rotate_left; (intro w hSw; (try dsimp only at hSw); go_simp); try (with_reducible rfl))
  try simp only [Act.put, List.setIfInBounds_toArray, List.set_cons_zero, List.set_cons_succ]
  (refine RegH.tkH (i := 11) (d := 30) (oi := ⟨_, _, _, _, _, _⟩) (v := ?_) rfl rfl (by kernel_rfl) (by kernel_rfl) (by kernel_rfl) (fun _ _ _ h => h) (Or.inl ⟨by rfl, ?_⟩) hS ?_; rotate_left; (intro w hSw; (try dsimp only at hSw); go_simp); try (with_reducible rfl))
  try simp only [Act.put, List.setIfInBounds_toArray, List.set_cons_zero, List.set_cons_succ]
  (refine RegH.tkH (i := 12) (d := 31) (oi := ⟨_, _, _, _, _, _⟩) (v := ?_) rfl rfl (by kernel_rfl) (by kernel_rfl) (by kernel_rfl) (fun _ _ _ h => h) (Or.inl ⟨by rfl, ?_⟩) hS ?_; rotate_left; (intro w hSw; (try dsimp only at hSw); go_simp); try (with_reducible rfl))
  try simp only [Act.put, List.setIfInBounds_toArray, List.set_cons_zero, List.set_cons_succ]
  (refine RegH.tkH (i := 13) (d := 32) (oi := ⟨_, _, _, _, _, _⟩) (v := ?_) rfl rfl (by kernel_rfl) (by kernel_rfl) (by kernel_rfl) (fun _ _ _ h => h) (Or.inl ⟨by rfl, ?_⟩) hS ?_; rotate_left; (intro w hSw; (try dsimp only at hSw); go_simp); try (with_reducible rfl))
  try simp only [Act.put, List.setIfInBounds_toArray, List.set_cons_zero, List.set_cons_succ]
  (refine RegH.tkH (i := 14) (d := 33) (oi := ⟨_, _, _, _, _, _⟩) (v := ?_) rfl rfl (by kernel_rfl) (by kernel_rfl) (by kernel_rfl) (fun _ _ _ h => h) (Or.inl ⟨by rfl, ?_⟩) hS ?_; rotate_left; (intro w hSw; (try dsimp only at hSw); go_simp); try (with_reducible rfl))
  try simp only [Act.put, List.setIfInBounds_toArray, List.set_cons_zero, List.set_cons_succ]
  (refine RegH.tkH (i := 15) (d := 34) (oi := ⟨_, _, _, _, _, _⟩) (v := ?_) rfl rfl (by kernel_rfl) (by kernel_rfl) (by kernel_rfl) (fun _ _ _ h => h) (Or.inl ⟨by rfl, ?_⟩) hS ?_; rotate_left; (intro w hSw; (try dsimp only at hSw); go_simp); try (with_reducible rfl))
  try simp only [Act.put, List.setIfInBounds_toArray, List.set_cons_zero, List.set_cons_succ]
  (refine RegH.tkH (i := 16) (d := 35) (oi := ⟨_, _, _, _, _, _⟩) (v := ?_) rfl rfl (by kernel_rfl) (by kernel_rfl) (by kernel_rfl) (fun _ _ _ h => h) (Or.inl ⟨by rfl, ?_⟩) hS ?_; rotate_left; (intro w hSw; (try dsimp only at hSw); go_simp); try (with_reducible rfl))
  try simp only [Act.put, List.setIfInBounds_toArray, List.set_cons_zero, List.set_cons_succ]
  (refine RegH.tkH (i := 17) (d := 36) (oi := ⟨_, _, _, _, _, _⟩) (v := ?_) rfl rfl (by kernel_rfl) (by kernel_rfl) (by kernel_rfl) (fun _ _ _ h => h) (Or.inl ⟨by rfl, ?_⟩) hS ?_; rotate_left; (intro w hSw; (try dsimp only at hSw); go_simp); try (with_reducible rfl))
  try simp only [Act.put, List.setIfInBounds_toArray, List.set_cons_zero, List.set_cons_succ]
  (refine RegH.tkH (i := 18) (d := 37) (oi := ⟨_, _, _, _, _, _⟩) (v := ?_) rfl rfl (by kernel_rfl) (by kernel_rfl) (by kernel_rfl) (fun _ _ _ h => h) (Or.inl ⟨by rfl, ?_⟩) hS ?_; rotate_left; (intro w hSw; (try dsimp only at hSw); go_simp); try (with_reducible rfl))
  try simp only [Act.put, List.setIfInBounds_toArray, List.set_cons_zero, List.set_cons_succ]
  (refine RegH.tkH (i := 19) (d := 38) (oi := ⟨_, _, _, _, _, _⟩) (v := ?_) rfl rfl (by kernel_rfl) (by kernel_rfl) (by kernel_rfl) (fun _ _ _ h => h) (Or.inl ⟨by rfl, ?_⟩) hS ?_; rotate_left; (intro w hSw; (try dsimp only at hSw); go_simp); try (with_reducible rfl))
  try simp only [Act.put, List.setIfInBounds_toArray, List.set_cons_zero, List.set_cons_succ]
  (refine RegH.tkH (i := 20) (d := 39) (oi := ⟨_, _, _, _, _, _⟩) (v := ?_) rfl rfl (by kernel_rfl) (by kernel_rfl) (by kernel_rfl) (fun _ _ _ h => h) (Or.inl ⟨by rfl, ?_⟩) hS ?_; rotate_left; (intro w hSw; (try dsimp only at hSw); go_simp); try (with_reducible rfl))
  try simp only [Act.put, List.setIfInBounds_toArray, List.set_cons_zero, List.set_cons_succ]
  (refine RegH.tkH (i := 21) (d := 40) (oi := ⟨_, _, _, _, _, _⟩) (v := ?_) rfl rfl (by kernel_rfl) (by kernel_rfl) (by kernel_rfl) (fun _ _ _ h => h) (Or.inl ⟨by rfl, ?_⟩) hS ?_; rotate_left; (intro w hSw; (try dsimp only at hSw); go_simp); try (with_reducible rfl))
  try simp only [Act.put, List.setIfInBounds_toArray, List.set_cons_zero, List.set_cons_succ]
  refine RegH.oneH (i := 22) (o := ⟨_, _, _, _, _, _⟩) (by kernel_rfl) rfl (fun K hK => ?_)
  go_simp
  refine hK.out _ _ (hS) (fun hS => ?_)
  clear hK K
  try simp only [Act.put, List.setIfInBounds_toArray, List.set_cons_zero, List.set_cons_succ]
  refine wpAnyH_done (by kernel_rfl) ?_ _
  rw [HNEST.out]
  go_wp2
  refine bodyPost_ret (results_ctt rfl _ _ g 30 #[.int .u8 0, .slice none 0 0] (0, 0) _ rfl (by (with_reducible repeat (first | refine blk_drewN ?_ _ | refine blk_drew ?_ | refine blk_alloc ?_ _)); refine blk_put (cs := #[.int .u8 0, .slice none 0 0]) ?_ 1 _ rfl; (with_reducible repeat (first | refine blk_drewN ?_ _ | refine blk_drew ?_ | refine blk_alloc ?_ _)); refine blk_put (cs := #[.int .u8 0, .slice none 0 0]) ?_ 0 _ rfl; (with_reducible repeat (first | refine blk_drewN ?_ _ | refine blk_drew ?_ | refine blk_alloc ?_ _)); exact BK.out) Try.underlying30 rfl (by kernel_rfl)) rfl ?_
  exact ⟨rfl, (by repeat (first | (with_reducible first | exact HB.out | apply below_alloc | apply pw_below_drewN | apply below_drew1 | refine below_set ?_ GE.out) | exact HB.out))⟩

set_option maxHeartbeats 8000000 in
set_option maxRecDepth 100000 in
theorem r_sums (A0 : Option Addr) (c0 : Nat) (l0 : List Int) (w : World) (hr0 : Kd.C (Kd.int .u8) w A0 l0.length l0) (hc0 : l0.length ≤ c0) (hk : rd l0 0 = 203) (h6 : 6 ≤ l0.length) (hby : Crc.IsBytes l0) (hm : l0.length ≤ 100000000) (hw : word4 (l0.drop 2) ≤ 1048576) (hs : word4 (l0.drop 2) + 10 ≤ (l0.length : Int)) (hcmp : (word4 (l0.drop ((word4 (l0.drop 2)).toNat + 6)) != Sum.all [l0.take ((word4 (l0.drop 2)).toNat + 6)]) = true) :
    Calls Try.prog 16 #[.slice A0 l0.length c0] w fun e w' => e = .returned (.tuple #[.agg #[.int .u8 0, .slice none 0 0], .int .i64 0, .int .i64 81]) ∧ Below w.heap.size w w' := by
  have p0 : 0 ≤ (0 : Int) := by omega
  have q0 : 0 < (l0.length : Int) := by omega
  have i0 : (0 < l0.length) = True := eq_true (by omega)
  have z0 : ((l0.length : Int) == 0) = false := beq_eq_false_iff_ne.2 (by omega)
  have z1 : ((l0.length : Int) != 0) = true := bne_iff_ne.2 (by omega)
  have z2 : ¬ l0 = [] := fun h => by rw [h] at q0; simp at q0
  have k0 : (rd l0 0 == 203) = true := beq_iff_eq.2 hk
  have k1 : (rd l0 0 != 203) = false := bne_eq_false_iff_eq.2 hk
  clear hk
  have s0 : decide ((l0.length : Int) < 6) = false := decide_eq_false (by omega)
  have s1 : decide (l0.length < 6) = false := decide_eq_false (by omega)
  have HBY := Aside0.mk hby
  have r2 := Word.rd_byte hby 2
  have r3 := Word.rd_byte hby 3
  have r4 := Word.rd_byte hby 4
  have r5 := Word.rd_byte hby 5
  obtain ⟨b2, hb2⟩ : ∃ b, b = rd l0 2 := ⟨_, rfl⟩
  obtain ⟨b3, hb3⟩ : ∃ b, b = rd l0 3 := ⟨_, rfl⟩
  obtain ⟨b4, hb4⟩ : ∃ b, b = rd l0 4 := ⟨_, rfl⟩
  obtain ⟨b5, hb5⟩ : ∃ b, b = rd l0 5 := ⟨_, rfl⟩
  rw [← hb2] at r2
  rw [← hb3] at r3
  rw [← hb4] at r4
  rw [← hb5] at r5
  obtain ⟨n, hn⟩ : ∃ n : Nat, word4 (l0.drop 2) = (n : Int) := ⟨_, (Int.toNat_of_nonneg (Word.word4_range (fun x hx => hby x (List.mem_of_mem_drop hx))).1).symm⟩
  rw [hn] at hw hs hcmp
  rw [Int.toNat_natCast] at hcmp
  have hnb : ((b2 * 256 + b3) * 256 + b4) * 256 + b5 = (n : Int) := by rw [← hn, word4_drop2, hb2, hb3, hb4, hb5]; omega
  have HB2 := Aside0.mk hb2
  have HB3 := Aside0.mk hb3
  have HB4 := Aside0.mk hb4
  have HB5 := Aside0.mk hb5
  have t1 : IntKind.i64.wrap (b2 * 256) = b2 * 256 := by rw [IntKind.wrap_i64]; omega
  have t2 : IntKind.i64.wrap (b2 * 256 + b3) = b2 * 256 + b3 := by rw [IntKind.wrap_i64]; omega
  have t3 : IntKind.i64.wrap ((b2 * 256 + b3) * 256) = (b2 * 256 + b3) * 256 := by rw [IntKind.wrap_i64]; omega
  have t4 : IntKind.i64.wrap ((b2 * 256 + b3) * 256 + b4) = (b2 * 256 + b3) * 256 + b4 := by rw [IntKind.wrap_i64]; omega
  have t5 : IntKind.i64.wrap (((b2 * 256 + b3) * 256 + b4) * 256) = ((b2 * 256 + b3) * 256 + b4) * 256 := by rw [IntKind.wrap_i64]; omega
  have t6 : IntKind.i64.wrap (((b2 * 256 + b3) * 256 + b4) * 256 + b5) = (n : Int) := by rw [IntKind.wrap_i64]; omega
  have HNEST := Aside0.mk (show IntKind.i64.wrap (IntKind.i64.wrap (IntKind.i64.wrap (IntKind.i64.wrap (IntKind.i64.wrap (IntKind.i64.wrap (IntKind.i64.wrap b2 * 256) + IntKind.i64.wrap b3) * 256) + IntKind.i64.wrap b4) * 256) + IntKind.i64.wrap b5) = (n : Int) by
    rw [show IntKind.i64.wrap b2 = b2 by rw [IntKind.wrap_i64]; omega, show IntKind.i64.wrap b3 = b3 by rw [IntKind.wrap_i64]; omega, show IntKind.i64.wrap b4 = b4 by rw [IntKind.wrap_i64]; omega, show IntKind.i64.wrap b5 = b5 by rw [IntKind.wrap_i64]; omega, t1, t2, t3, t4, t5, t6])
  clear t1 t2 t3 t4 t5 t6
  have HNB := Aside0.mk hnb
  have HN := Aside0.mk hn
  clear hb2 hb3 hb4 hb5 hn hnb
  have q5 : (5 : Int) < (l0.length : Int) := by omega
  have q4 : (4 : Int) < (l0.length : Int) := by omega
  have q3 : (3 : Int) < (l0.length : Int) := by omega
  have q2 : (2 : Int) < (l0.length : Int) := by omega
  have hgt : decide ((1048576 : Int) < (n : Int)) = false := decide_eq_false (by omega)
  have t10 : IntKind.i64.wrap ((n : Int) + 10) = (n : Int) + 10 := by rw [IntKind.wrap_i64]; omega
  have t6 : IntKind.i64.wrap ((n : Int) + 6) = (n : Int) + 6 := by rw [IntKind.wrap_i64]; omega
  have hlt : decide ((l0.length : Int) < (n : Int) + 10) = false := decide_eq_false (by omega)
  obtain ⟨i00, hi0, _, hsz, _⟩ := info_parts Clone.info5
  obtain ⟨ad0, e00, _⟩ := Kd.at_int hr0 0 p0 q0
  cases e00
  have hn6 : ((n : Int) + 6).toNat = n + 6 := by omega
  have hn10 : ((n : Int) + 10).toNat = n + 10 := by omega
  have cutT := cut_to (P := Try.prog) 24 5 .i64 Try.underlying24 hi0 (some ad0) l0.length c0 ((n : Int) + 6) (by omega) (by omega) hc0
  rw [hn6] at cutT
  have hCT := Kd.C_take (m := n + 6) hr0 (by omega)
  have hlT : n + 6 = (l0.take (n + 6)).length := by rw [List.length_take]; omega
  obtain ⟨AM, hAM⟩ : ∃ AM, AM = (if c0 = n + 6 then some ad0 else (some ad0).map (·.add ((n + 6) * 1))) := ⟨_, rfl⟩
  have hCM := Kd.C_mid (lo := n + 6) (hi := n + 10) hr0 (by omega) (by omega) hc0
  have cutM := cut_mid (P := Try.prog) 24 5 .i64 .i64 Try.underlying24 hi0 1 hsz (some ad0) l0.length c0 ((n : Int) + 6) ((n : Int) + 10) (by omega) (by omega) (by omega) hc0
  rw [hn6, hn10, ← hAM] at cutM
  rw [show (Kd.int .u8).sz = 1 from rfl, ← hAM] at hCM
  have hlM : n + 10 - (n + 6) = ((l0.take (n + 10)).drop (n + 6)).length := by rw [List.length_drop, List.length_take]; omega
  rw [hlM] at cutM
  have hbT : Crc.IsBytes (l0.take (n + 6)) := fun x hx => hby x (List.mem_of_mem_take hx)
  have hsum := Crc.sum_range _ hbT
  have hall : Sum.all [l0.take (n + 6)] = Crc.sum (l0.take (n + 6)) := by
    have h := Crc.all_eq [l0.take (n + 6)] (by simpa using hbT)
    simpa using h
  rw [hall] at hcmp
  have hstr := four_same l0 n (Crc.sum (l0.take (n + 6))) hby hsum.1 hsum.2 (by omega)
  obtain ⟨s, hsd⟩ : ∃ s, s = Crc.sum (l0.take (n + 6)) := ⟨_, rfl⟩
  rw [← hsd] at hcmp hsum hstr
  have hrs := ref_sum (10 * (l0.take (n + 6)).length + 1) (l0.take (n + 6)) hbT (by rw [List.length_take]; omega) (Nat.lt_succ_self _)
  rw [← hsd] at hrs
  have hct : (l0.take (n + 6)).length ≤ c0 := by rw [List.length_take]; omega
  obtain ⟨tT, htT⟩ : ∃ t, t = l0.take (n + 6) := ⟨_, rfl⟩
  rw [← htT] at hCT hlT hrs hct
  rw [hlT] at cutT
  have HRS := Aside0.mk hrs
  have HCT0 := Aside0.mk hct
  have HCT := Aside0.mk hCT
  obtain ⟨dM, hdM⟩ : ∃ t, t = (l0.take (n + 10)).drop (n + 6) := ⟨_, rfl⟩
  rw [← hdM] at hCM hstr cutM
  have HCM := Aside0.mk hCM
  obtain ⟨sM, hsM⟩ : ∃ t, t = strOfNums dM := ⟨_, rfl⟩
  obtain ⟨fl, hfl⟩ : ∃ t, t = Block.four s := ⟨_, rfl⟩
  have HFL := Aside0.mk (show cobwebref08_four.f s = some fl by rw [hfl]; exact four_ref s hsum.1 hsum.2)
  obtain ⟨sF, hsF⟩ : ∃ t, t = strOfNums fl := ⟨_, rfl⟩
  rw [← hfl, ← hsF, ← hsM] at hstr
  have HSF := Aside0.mk hsF
  have HSM := Aside0.mk hsM
  have heq : (sF.toList == sM.toList) = false := by rw [hstr]; first | exact decide_eq_true (of_not_bne hcmp) | exact decide_eq_false (of_bne hcmp)
  have hne : (sF.toList != sM.toList) = true := by rw [bne, heq]; rfl
  clear hw h6 hs hCT hCM hlT hlM hAM hbT hsum hall hcmp hstr hsd hrs hct htT hdM hsM hfl hsF hn6 hn10 hm hsz hi0
  have HR0 := Aside0.mk hr0
  clear hr0
  go_enter Try.func16, Try.ntmps16
  go_wp2_with (first | ((with_reducible refine gate_dst (N := 2) rfl ?_); refine box_event ?hg (N := 2) ?hd (cs := #[.int .u8 0, .slice none 0 0]) (t := 30) ?hr ?_; (case hd => rfl); (case hg => rfl); (case hr => first | (go_simp; done) | (go_simp; rfl)); intro g hg w1 hbox hb; have HB := Aside0.mk hb; have BK := Aside0.mk hbox; have GE := Aside0.mk (show w.heap.size ≤ g by rw [hg]; exact Nat.le_refl _); have HR1 := Aside0.mk (Kd.C_below HR0.out hb); clear hg hb hbox; have hcz0 : w1.cell? ⟨g, 0, none⟩ = some (.int .u8 0) := (blk_cell BK.out 0).trans rfl; have hcz1 : w1.cell? ⟨g, 1, none⟩ = some (.slice none 0 0) := (blk_cell BK.out 1).trans rfl; have hfz0 := blk_frozen BK.out 0; have hfz1 := blk_frozen BK.out 1; obtain ⟨ad0_, e0, hx0⟩ := Kd.at_int HR1.out 0 p0 q0; cases e0; rw [show ((0 : Int)).toNat = 0 from rfl, Addr.add_zero'] at hx0))
  have hy2 : ∀ W, Below w1.heap.size w1 W → W.cell? ⟨ad0.block, ad0.off + 2, none⟩ = some (.int .u8 b2) := fun W h => by
    obtain ⟨ad, e, hx⟩ := Kd.at_int (Kd.C_below HR1.out h) 2 (by omega) q2
    cases e
    simp only [show (2 : Int).toNat = 2 from rfl, Nat.reduceEqDiff, Go.Addr.add, ↓reduceIte] at hx
    rw [HB2.out]; exact hx
  have hy3 : ∀ W, Below w1.heap.size w1 W → W.cell? ⟨ad0.block, ad0.off + 3, none⟩ = some (.int .u8 b3) := fun W h => by
    obtain ⟨ad, e, hx⟩ := Kd.at_int (Kd.C_below HR1.out h) 3 (by omega) q3
    cases e
    simp only [show (3 : Int).toNat = 3 from rfl, Nat.reduceEqDiff, Go.Addr.add, ↓reduceIte] at hx
    rw [HB3.out]; exact hx
  have hy4 : ∀ W, Below w1.heap.size w1 W → W.cell? ⟨ad0.block, ad0.off + 4, none⟩ = some (.int .u8 b4) := fun W h => by
    obtain ⟨ad, e, hx⟩ := Kd.at_int (Kd.C_below HR1.out h) 4 (by omega) q4
    cases e
    simp only [show (4 : Int).toNat = 4 from rfl, Nat.reduceEqDiff, Go.Addr.add, ↓reduceIte] at hx
    rw [HB4.out]; exact hx
  have hy5 : ∀ W, Below w1.heap.size w1 W → W.cell? ⟨ad0.block, ad0.off + 5, none⟩ = some (.int .u8 b5) := fun W h => by
    obtain ⟨ad, e, hx⟩ := Kd.at_int (Kd.C_below HR1.out h) 5 (by omega) q5
    cases e
    simp only [show (5 : Int).toNat = 5 from rfl, Nat.reduceEqDiff, Go.Addr.add, ↓reduceIte] at hx
    rw [HB5.out]; exact hx
  refine RegH.startH (fun W => Below w1.heap.size w1 W) (by kernel_rfl) rfl (below_drew1 (Below.refl _ _)) (fun hS => ?_)
  (refine RegH.tkH (i := 0) (d := 19) (oi := ⟨_, _, _, _, _, _⟩) (v := ?_) rfl rfl (by kernel_rfl) (by kernel_rfl) (by kernel_rfl) (fun _ _ _ h => h) (Or.inl ⟨by rfl, ?_⟩) hS ?_; rotate_left; (intro w hSw; (try dsimp only at hSw); go_simp); try (with_reducible rfl))
  try simp only [Act.put, List.setIfInBounds_toArray, List.set_cons_zero, List.set_cons_succ]
  (refine RegH.tkH (i := 1) (d := 20) (oi := ⟨_, _, _, _, _, _⟩) (v := ?_) rfl rfl (by kernel_rfl) (by kernel_rfl) (by kernel_rfl) (fun _ _ _ h => h) (Or.inl ⟨by rfl, ?_⟩) hS ?_; rotate_left; (intro w hSw; (try dsimp only at hSw); go_simp); try (with_reducible rfl))
  try simp only [Act.put, List.setIfInBounds_toArray, List.set_cons_zero, List.set_cons_succ]
  (refine RegH.tkH (i := 2) (d := 21) (oi := ⟨_, _, _, _, _, _⟩) (v := ?_) rfl rfl (by kernel_rfl) (by kernel_rfl) (by kernel_rfl) (fun _ _ _ h => h) (Or.inl ⟨by rfl, ?_⟩) hS ?_; rotate_left; (intro w hSw; (try dsimp only at hSw); go_simp); try (with_reducible rfl))
  try simp only [Act.put, List.setIfInBounds_toArray, List.set_cons_zero, List.set_cons_succ]
  (refine RegH.tkH (i := 3) (d := 22) (oi := ⟨_, _, _, _, _, _⟩) (v := ?_) rfl rfl (by kernel_rfl) (by kernel_rfl) (by kernel_rfl) (fun _ _ _ h => h) (Or.inl ⟨by rfl, ?_⟩) hS ?_; rotate_left; (intro w hSw; (try dsimp only at hSw); go_simp); try (with_reducible rfl))
  try simp only [Act.put, List.setIfInBounds_toArray, List.set_cons_zero, List.set_cons_succ]
  (refine RegH.tkH (i := 4) (d := 23) (oi := ⟨_, _, _, _, _, _⟩) (v := ?_) rfl rfl (by kernel_rfl) (by kernel_rfl) (by kernel_rfl) (fun _ _ _ h => h) (Or.inl ⟨by rfl, ?_⟩) hS ?_; rotate_left; (intro w hSw; (try dsimp only at hSw); go_simp); try (with_reducible rfl))
  try simp only [Act.put, List.setIfInBounds_toArray, List.set_cons_zero, List.set_cons_succ]
  (refine RegH.tkH (i := 5) (d := 24) (oi := ⟨_, _, _, _, _, _⟩) (v := ?_) rfl rfl (by kernel_rfl) (by kernel_rfl) (by kernel_rfl) (fun _ _ _ h => h) (Or.inl ⟨by rfl, ?_⟩) hS ?_; rotate_left; (intro w hSw; (try dsimp only at hSw); go_simp); try (with_reducible rfl))
  try simp only [Act.put, List.setIfInBounds_toArray, List.set_cons_zero, List.set_cons_succ]
  (refine RegH.tkH (i := 6) (d := 25) (oi := ⟨_, _, _, _, _, _⟩) (v := ?_) rfl rfl (by kernel_rfl) (by kernel_rfl) (by kernel_rfl) (fun _ _ _ h => h) (Or.inl ⟨by rfl, ?_⟩) hS ?_; rotate_left; (intro w hSw; (try dsimp only at hSw); go_simp); try (with_reducible rfl))
  try simp only [Act.put, List.setIfInBounds_toArray, List.set_cons_zero, List.set_cons_succ]
  (refine RegH.tkH (i := 7) (d := 26) (oi := ⟨_, _, _, _, _, _⟩) (v := ?_) rfl rfl (by kernel_rfl) (by kernel_rfl) (by kernel_rfl) (fun _ _ _ h => h) (Or.inl ⟨by rfl, ?_⟩) hS ?_; rotate_left; (intro w hSw; (try dsimp only at hSw); go_simp); try (with_reducible rfl))
  try simp only [Act.put, List.setIfInBounds_toArray, List.set_cons_zero, List.set_cons_succ]
  (refine RegH.tkH (i := 8) (d := 27) (oi := ⟨_, _, _, _, _, _⟩) (v := ?_) rfl rfl (by kernel_rfl) (by kernel_rfl) (by kernel_rfl) (fun _ _ _ h => h) (Or.inl ⟨by rfl, ?_⟩) hS ?_; rotate_left; (intro w hSw; (try dsimp only at hSw); go_simp); try (with_reducible rfl))
  try simp only [Act.put, List.setIfInBounds_toArray, List.set_cons_zero, List.set_cons_succ]
  (refine RegH.tkH (i := 9) (d := 28) (oi := ⟨_, _, _, _, _, _⟩) (v := ?_) rfl rfl (by kernel_rfl) (by kernel_rfl) (by kernel_rfl) (fun _ _ _ h => h) (Or.inl ⟨by rfl, ?_⟩) hS ?_; rotate_left; (intro w hSw; (try dsimp only at hSw); go_simp); try (with_reducible rfl))
  try simp only [Act.put, List.setIfInBounds_toArray, List.set_cons_zero, List.set_cons_succ]
  (refine RegH.tkH (i := 10) (d := 29) (oi := ⟨_, _, _, _, _, _⟩) (v := ?_) rfl rfl (by kernel_rfl) (by kernel_rfl) (by kernel_rfl) (fun _ _ _ h => h) (Or.inl ⟨by rfl, ?_⟩) hS ?_; rotate_left; (intro w hSw; (try dsimp only at hSw); go_simp); try (with_reducible rfl))
  try simp only [Act.put, List.setIfInBounds_toArray, List.set_cons_zero, List.set_cons_succ]
  (refine RegH.tkH (i := 11) (d := 30) (oi := ⟨_, _, _, _, _, _⟩) (v := ?_) rfl rfl (by kernel_rfl) (by kernel_rfl) (by kernel_rfl) (fun _ _ _ h => h) (Or.inl ⟨by rfl, ?_⟩) hS ?_; rotate_left; (intro w hSw; (try dsimp only at hSw); go_simp); try (with_reducible rfl))
  try simp only [Act.put, List.setIfInBounds_toArray, List.set_cons_zero, List.set_cons_succ]
  (refine RegH.tkH (i := 12) (d := 31) (oi := ⟨_, _, _, _, _, _⟩) (v := ?_) rfl rfl (by kernel_rfl) (by kernel_rfl) (by kernel_rfl) (fun _ _ _ h => h) (Or.inl ⟨by rfl, ?_⟩) hS ?_; rotate_left; (intro w hSw; (try dsimp only at hSw); go_simp); try (with_reducible rfl))
  try simp only [Act.put, List.setIfInBounds_toArray, List.set_cons_zero, List.set_cons_succ]
  (refine RegH.tkH (i := 13) (d := 32) (oi := ⟨_, _, _, _, _, _⟩) (v := ?_) rfl rfl (by kernel_rfl) (by kernel_rfl) (by kernel_rfl) (fun _ _ _ h => h) (Or.inl ⟨by rfl, ?_⟩) hS ?_; rotate_left; (intro w hSw; (try dsimp only at hSw); go_simp); try (with_reducible rfl))
  try simp only [Act.put, List.setIfInBounds_toArray, List.set_cons_zero, List.set_cons_succ]
  (refine RegH.tkH (i := 14) (d := 33) (oi := ⟨_, _, _, _, _, _⟩) (v := ?_) rfl rfl (by kernel_rfl) (by kernel_rfl) (by kernel_rfl) (fun _ _ _ h => h) (Or.inl ⟨by rfl, ?_⟩) hS ?_; rotate_left; (intro w hSw; (try dsimp only at hSw); go_simp); try (with_reducible rfl))
  try simp only [Act.put, List.setIfInBounds_toArray, List.set_cons_zero, List.set_cons_succ]
  (refine RegH.tkH (i := 15) (d := 34) (oi := ⟨_, _, _, _, _, _⟩) (v := ?_) rfl rfl (by kernel_rfl) (by kernel_rfl) (by kernel_rfl) (fun _ _ _ h => h) (Or.inl ⟨by rfl, ?_⟩) hS ?_; rotate_left; (intro w hSw; (try dsimp only at hSw); go_simp); try (with_reducible rfl))
  try simp only [Act.put, List.setIfInBounds_toArray, List.set_cons_zero, List.set_cons_succ]
  (refine RegH.tkH (i := 16) (d := 35) (oi := ⟨_, _, _, _, _, _⟩) (v := ?_) rfl rfl (by kernel_rfl) (by kernel_rfl) (by kernel_rfl) (fun _ _ _ h => h) (Or.inl ⟨by rfl, ?_⟩) hS ?_; rotate_left; (intro w hSw; (try dsimp only at hSw); go_simp); try (with_reducible rfl))
  try simp only [Act.put, List.setIfInBounds_toArray, List.set_cons_zero, List.set_cons_succ]
  (refine RegH.tkH (i := 17) (d := 36) (oi := ⟨_, _, _, _, _, _⟩) (v := ?_) rfl rfl (by kernel_rfl) (by kernel_rfl) (by kernel_rfl) (fun _ _ _ h => h) (Or.inl ⟨by rfl, ?_⟩) hS ?_; rotate_left; (intro w hSw; (try dsimp only at hSw); go_simp); try (with_reducible rfl))
  try simp only [Act.put, List.setIfInBounds_toArray, List.set_cons_zero, List.set_cons_succ]
  (refine RegH.tkH (i := 18) (d := 37) (oi := ⟨_, _, _, _, _, _⟩) (v := ?_) rfl rfl (by kernel_rfl) (by kernel_rfl) (by kernel_rfl) (fun _ _ _ h => h) (Or.inl ⟨by rfl, ?_⟩) hS ?_; rotate_left; (intro w hSw; (try dsimp only at hSw); go_simp); try (with_reducible rfl))
  try simp only [Act.put, List.setIfInBounds_toArray, List.set_cons_zero, List.set_cons_succ]
  (refine RegH.tkH (i := 19) (d := 38) (oi := ⟨_, _, _, _, _, _⟩) (v := ?_) rfl rfl (by kernel_rfl) (by kernel_rfl) (by kernel_rfl) (fun _ _ _ h => h) (Or.inl ⟨by rfl, ?_⟩) hS ?_; rotate_left; (intro w hSw; (try dsimp only at hSw); go_simp); try (with_reducible rfl))
  try simp only [Act.put, List.setIfInBounds_toArray, List.set_cons_zero, List.set_cons_succ]
  (refine RegH.tkH (i := 20) (d := 39) (oi := ⟨_, _, _, _, _, _⟩) (v := ?_) rfl rfl (by kernel_rfl) (by kernel_rfl) (by kernel_rfl) (fun _ _ _ h => h) (Or.inl ⟨by rfl, ?_⟩) hS ?_; rotate_left; (intro w hSw; (try dsimp only at hSw); go_simp); try (with_reducible rfl))
  try simp only [Act.put, List.setIfInBounds_toArray, List.set_cons_zero, List.set_cons_succ]
  (refine RegH.tkH (i := 21) (d := 40) (oi := ⟨_, _, _, _, _, _⟩) (v := ?_) rfl rfl (by kernel_rfl) (by kernel_rfl) (by kernel_rfl) (fun _ _ _ h => h) (Or.inl ⟨by rfl, ?_⟩) hS ?_; rotate_left; (intro w hSw; (try dsimp only at hSw); go_simp); try (with_reducible rfl))
  try simp only [Act.put, List.setIfInBounds_toArray, List.set_cons_zero, List.set_cons_succ]
  refine RegH.oneH (i := 22) (o := ⟨_, _, _, _, _, _⟩) (by kernel_rfl) rfl (fun K hK => ?_)
  go_simp
  refine hK.out _ _ (hS) (fun hS => ?_)
  clear hK K
  try simp only [Act.put, List.setIfInBounds_toArray, List.set_cons_zero, List.set_cons_succ]
  refine wpAnyH_done (by kernel_rfl) ?_ _
  rw [HNEST.out]
  go_wp2_with fail
  obtain ⟨wv, hwv⟩ : ∃ wv : World, wv = w1.drew := ⟨_, rfl⟩
  have hbv : Below w1.heap.size w1 wv := by rw [hwv]; exact below_drew1 (Below.refl _ _)
  have HBV := Aside0.mk hbv
  rw [← hwv]
  have hcM : ∀ W, Below w1.heap.size w1 W → Sem.run Try.prog (convert 24 9 (.slice AM dM.length (c0 - (n + 6)))) W = .ok (.string sM) W := fun W h => by
    rw [HSM.out]; exact Kd.C_string Try.underlying24 Try.underlying5 Try.underlying9 (Kd.C_below HCM.out (below_step HB.out h))
  clear hwv hbv hx0 hy2 hy3 hy4 hy5
  refine RegH.startH (fun W => Below w1.heap.size w1 W) (by kernel_rfl) rfl (below_drew1 HBV.out) (fun hS => ?_)
  (refine RegH.tkH (i := 0) (d := 50) (oi := ⟨_, _, _, _, _, _⟩) (v := ?_) rfl rfl (by kernel_rfl) (by kernel_rfl) (by kernel_rfl) (fun _ _ _ h => h) (Or.inl ⟨by rfl, ?_⟩) hS ?_; rotate_left; (intro w hSw; (try dsimp only at hSw); go_simp); try (with_reducible rfl))
  try simp only [Act.put, List.setIfInBounds_toArray, List.set_cons_zero, List.set_cons_succ]
  (refine RegH.tkH (i := 1) (d := 51) (oi := ⟨_, _, _, _, _, _⟩) (v := ?_) rfl rfl (by kernel_rfl) (by kernel_rfl) (by kernel_rfl) (fun _ _ _ h => h) (Or.inl ⟨by rfl, ?_⟩) hS ?_; rotate_left; (intro w hSw; (try dsimp only at hSw); go_simp); try (with_reducible rfl))
  try simp only [Act.put, List.setIfInBounds_toArray, List.set_cons_zero, List.set_cons_succ]
  (refine RegH.tkH (i := 2) (d := 52) (oi := ⟨_, _, _, _, _, _⟩) (v := ?_) rfl rfl (by kernel_rfl) (by kernel_rfl) (by kernel_rfl) (fun _ _ _ h => h) (Or.inl ⟨by rfl, ?_⟩) hS ?_; rotate_left; (intro w hSw; (try dsimp only at hSw); go_simp); try (with_reducible rfl))
  try simp only [Act.put, List.setIfInBounds_toArray, List.set_cons_zero, List.set_cons_succ]
  (refine RegH.tkH (i := 3) (d := 53) (oi := ⟨_, _, _, _, _, _⟩) (v := ?_) rfl rfl (by kernel_rfl) (by kernel_rfl) (by kernel_rfl) (fun _ _ _ h => h) (Or.inl ⟨by rfl, ?_⟩) hS ?_; rotate_left; (intro w hSw; (try dsimp only at hSw); go_simp); try (with_reducible rfl))
  try simp only [Act.put, List.setIfInBounds_toArray, List.set_cons_zero, List.set_cons_succ]
  (refine RegH.tkH (i := 7) (d := 57) (oi := ⟨_, _, _, _, _, _⟩) (v := ?_) rfl rfl (by kernel_rfl) (by kernel_rfl) (by kernel_rfl) (fun _ _ _ h => h) (Or.inl ⟨by rfl, ?_⟩) hS ?_; rotate_left; (intro w hSw; (try dsimp only at hSw); go_simp); try (with_reducible rfl))
  try simp only [Act.put, List.setIfInBounds_toArray, List.set_cons_zero, List.set_cons_succ]
  (refine RegH.tkH (i := 8) (d := 58) (oi := ⟨_, _, _, _, _, _⟩) (v := ?_) rfl rfl (by kernel_rfl) (by kernel_rfl) (by kernel_rfl) (fun _ _ _ h => h) (Or.inl ⟨by rfl, ?_⟩) hS ?_; rotate_left; (intro w hSw; (try dsimp only at hSw); go_simp); try (with_reducible rfl))
  try simp only [Act.put, List.setIfInBounds_toArray, List.set_cons_zero, List.set_cons_succ]
  (refine RegH.tkH (i := 9) (d := 59) (oi := ⟨_, _, _, _, _, _⟩) (v := ?_) rfl rfl (by kernel_rfl) (by kernel_rfl) (by kernel_rfl) (fun _ _ _ h => h) (Or.inl ⟨by rfl, ?_⟩) hS ?_; rotate_left; (intro w hSw; (try dsimp only at hSw); go_simp); try (with_reducible rfl))
  try simp only [Act.put, List.setIfInBounds_toArray, List.set_cons_zero, List.set_cons_succ]
  (refine RegH.tkH (i := 10) (d := 60) (oi := ⟨_, _, _, _, _, _⟩) (v := ?_) rfl rfl (by kernel_rfl) (by kernel_rfl) (by kernel_rfl) (fun _ _ _ h => h) (Or.inl ⟨by rfl, ?_⟩) hS ?_; rotate_left; (intro w hSw; (try dsimp only at hSw); go_simp); try (with_reducible rfl))
  try simp only [Act.put, List.setIfInBounds_toArray, List.set_cons_zero, List.set_cons_succ]
  (refine RegH.tkH (i := 11) (d := 61) (oi := ⟨_, _, _, _, _, _⟩) (v := ?_) rfl rfl (by kernel_rfl) (by kernel_rfl) (by kernel_rfl) (fun _ _ _ h => h) (Or.inl ⟨by rfl, ?_⟩) hS ?_; rotate_left; (intro w hSw; (try dsimp only at hSw); go_simp); try (with_reducible rfl))
  try simp only [Act.put, List.setIfInBounds_toArray, List.set_cons_zero, List.set_cons_succ]
  (refine RegH.tkH (i := 12) (d := 62) (oi := ⟨_, _, _, _, _, _⟩) (v := ?_) rfl rfl (by kernel_rfl) (by kernel_rfl) (by kernel_rfl) (fun _ _ _ h => h) (Or.inl ⟨by rfl, ?_⟩) hS ?_; rotate_left; (intro w hSw; (try dsimp only at hSw); go_simp); try (with_reducible rfl))
  try simp only [Act.put, List.setIfInBounds_toArray, List.set_cons_zero, List.set_cons_succ]
  (refine RegH.tkH (i := 13) (d := 63) (oi := ⟨_, _, _, _, _, _⟩) (v := ?_) rfl rfl (by kernel_rfl) (by kernel_rfl) (by kernel_rfl) (fun _ _ _ h => h) (Or.inl ⟨by rfl, ?_⟩) hS ?_; rotate_left; (intro w hSw; (try dsimp only at hSw); go_simp); try (with_reducible rfl))
  try simp only [Act.put, List.setIfInBounds_toArray, List.set_cons_zero, List.set_cons_succ]
  refine RegH.oneH (i := 4) (o := ⟨_, _, _, _, _, _⟩) (by kernel_rfl) rfl (fun K hK => ?_)
  go_simp
  refine Calls.mono (cobwebref08_Sum.calls _ (some ad0) c0 tT s _ (Kd.C_below HCT.out (below_step HB.out hS)) HCT0.out HRS.out) ?_
  rintro e v ⟨rfl, hd⟩
  have hS := below_step hS hd.below
  go_wp2_with (fail)
  refine hK.out _ _ (hS) (fun hS => ?_)
  clear hK K
  try simp only [Act.put, List.setIfInBounds_toArray, List.set_cons_zero, List.set_cons_succ]
  refine RegH.oneH (i := 5) (o := ⟨_, _, _, _, _, _⟩) (by kernel_rfl) rfl (fun K hK => ?_)
  go_simp
  refine Calls.mono (cobwebref08_four.calls s fl _ HFL.out) ?_
  rintro e v2 ⟨vF, rfl, hRF, hb⟩
  have hS := below_step hS hb
  obtain ⟨AF, cF, rfl⟩ := Kd.R_slice hRF
  have hcF : Sem.run Try.prog (convert 24 9 (.slice AF fl.length cF)) v2 = .ok (.string sF) v2 := by
    rw [HSF.out]; exact Kd.C_string Try.underlying24 Try.underlying5 Try.underlying9 (Kd.R_reads' hRF).2.2
  clear hRF hb
  go_wp2_with (fail)
  refine hK.out _ _ (hS) (fun hS => ?_)
  clear hK K
  try simp only [Act.put, List.setIfInBounds_toArray, List.set_cons_zero, List.set_cons_succ]
  refine RegH.oneH (i := 6) (o := ⟨_, _, _, _, _, _⟩) (by kernel_rfl) rfl (fun K hK => ?_)
  go_simp
  refine hK.out _ _ (hS) (fun hS => ?_)
  clear hK K
  try simp only [Act.put, List.setIfInBounds_toArray, List.set_cons_zero, List.set_cons_succ]
  refine RegH.oneH (i := 14) (o := ⟨_, _, _, _, _, _⟩) (by kernel_rfl) rfl (fun K hK => ?_)
  go_simp
  refine hK.out _ _ (hS) (fun hS => ?_)
  clear hK K
  try simp only [Act.put, List.setIfInBounds_toArray, List.set_cons_zero, List.set_cons_succ]
  refine wpAnyH_done (by kernel_rfl) ?_ _
  clear hcM hcF
  have BK2 := Aside0.mk (blk_below BK.out hS)
  have HB2 := Aside0.mk (below_step HB.out hS)
  have hdz0 : v2.cell? ⟨g, 0, none⟩ = some (.int .u8 0) := (blk_cell BK2.out 0).trans rfl
  have hdz1 : v2.cell? ⟨g, 1, none⟩ = some (.slice none 0 0) := (blk_cell BK2.out 1).trans rfl
  have hgz0 := blk_frozen BK2.out 0
  have hgz1 := blk_frozen BK2.out 1
  go_wp2
  refine bodyPost_ret (results_ctt rfl _ _ g 30 #[.int .u8 0, .slice none 0 0] (0, 0) _ rfl (by (with_reducible repeat (first | refine blk_drewN ?_ _ | refine blk_drew ?_ | refine blk_alloc ?_ _)); refine blk_put (cs := #[.int .u8 0, .slice none 0 0]) ?_ 1 _ rfl; (with_reducible repeat (first | refine blk_drewN ?_ _ | refine blk_drew ?_ | refine blk_alloc ?_ _)); refine blk_put (cs := #[.int .u8 0, .slice none 0 0]) ?_ 0 _ rfl; (with_reducible repeat (first | refine blk_drewN ?_ _ | refine blk_drew ?_ | refine blk_alloc ?_ _)); exact BK2.out) Try.underlying30 rfl (by kernel_rfl)) rfl ?_
  exact ⟨rfl, (by repeat (first | (with_reducible first | exact HB2.out | apply below_alloc | apply pw_below_drewN | apply below_drew1 | refine below_set ?_ GE.out) | exact HB2.out))⟩

set_option maxHeartbeats 8000000 in
set_option maxRecDepth 100000 in
theorem r_good (A0 : Option Addr) (c0 : Nat) (l0 : List Int) (w : World) (hr0 : Kd.C (Kd.int .u8) w A0 l0.length l0) (hc0 : l0.length ≤ c0) (hk : rd l0 0 = 203) (h6 : 6 ≤ l0.length) (hby : Crc.IsBytes l0) (hm : l0.length ≤ 100000000) (hw : word4 (l0.drop 2) ≤ 1048576) (hs : word4 (l0.drop 2) + 10 ≤ (l0.length : Int)) (hcmp : (word4 (l0.drop ((word4 (l0.drop 2)).toNat + 6)) != Sum.all [l0.take ((word4 (l0.drop 2)).toNat + 6)]) = false) :
    Calls Try.prog 16 #[.slice A0 l0.length c0] w fun e w' => ∃ (A1 : Option Addr) (c1 : Nat), e = .returned (.tuple #[.agg #[.int .u8 (rd l0 1), .slice A1 ((l0.take ((word4 (l0.drop 2)).toNat + 6)).drop 6).length c1], .int .i64 (word4 (l0.drop 2) + 10), .int .i64 0]) ∧ ((l0.take ((word4 (l0.drop 2)).toNat + 6)).drop 6).length ≤ c1 ∧ (∀ W, Kd.C (Kd.int .u8) W A0 l0.length l0 → Kd.C (Kd.int .u8) W A1 ((l0.take ((word4 (l0.drop 2)).toNat + 6)).drop 6).length ((l0.take ((word4 (l0.drop 2)).toNat + 6)).drop 6)) ∧ Below w.heap.size w w' := by
  have p0 : 0 ≤ (0 : Int) := by omega
  have q0 : 0 < (l0.length : Int) := by omega
  have i0 : (0 < l0.length) = True := eq_true (by omega)
  have z0 : ((l0.length : Int) == 0) = false := beq_eq_false_iff_ne.2 (by omega)
  have z1 : ((l0.length : Int) != 0) = true := bne_iff_ne.2 (by omega)
  have z2 : ¬ l0 = [] := fun h => by rw [h] at q0; simp at q0
  have k0 : (rd l0 0 == 203) = true := beq_iff_eq.2 hk
  have k1 : (rd l0 0 != 203) = false := bne_eq_false_iff_eq.2 hk
  clear hk
  have s0 : decide ((l0.length : Int) < 6) = false := decide_eq_false (by omega)
  have s1 : decide (l0.length < 6) = false := decide_eq_false (by omega)
  have HBY := Aside0.mk hby
  have r2 := Word.rd_byte hby 2
  have r3 := Word.rd_byte hby 3
  have r4 := Word.rd_byte hby 4
  have r5 := Word.rd_byte hby 5
  obtain ⟨b2, hb2⟩ : ∃ b, b = rd l0 2 := ⟨_, rfl⟩
  obtain ⟨b3, hb3⟩ : ∃ b, b = rd l0 3 := ⟨_, rfl⟩
  obtain ⟨b4, hb4⟩ : ∃ b, b = rd l0 4 := ⟨_, rfl⟩
  obtain ⟨b5, hb5⟩ : ∃ b, b = rd l0 5 := ⟨_, rfl⟩
  rw [← hb2] at r2
  rw [← hb3] at r3
  rw [← hb4] at r4
  rw [← hb5] at r5
  obtain ⟨n, hn⟩ : ∃ n : Nat, word4 (l0.drop 2) = (n : Int) := ⟨_, (Int.toNat_of_nonneg (Word.word4_range (fun x hx => hby x (List.mem_of_mem_drop hx))).1).symm⟩
  rw [hn] at hw hs hcmp ⊢
  rw [Int.toNat_natCast] at hcmp ⊢
  have hnb : ((b2 * 256 + b3) * 256 + b4) * 256 + b5 = (n : Int) := by rw [← hn, word4_drop2, hb2, hb3, hb4, hb5]; omega
  have HB2 := Aside0.mk hb2
  have HB3 := Aside0.mk hb3
  have HB4 := Aside0.mk hb4
  have HB5 := Aside0.mk hb5
  have t1 : IntKind.i64.wrap (b2 * 256) = b2 * 256 := by rw [IntKind.wrap_i64]; omega
  have t2 : IntKind.i64.wrap (b2 * 256 + b3) = b2 * 256 + b3 := by rw [IntKind.wrap_i64]; omega
  have t3 : IntKind.i64.wrap ((b2 * 256 + b3) * 256) = (b2 * 256 + b3) * 256 := by rw [IntKind.wrap_i64]; omega
  have t4 : IntKind.i64.wrap ((b2 * 256 + b3) * 256 + b4) = (b2 * 256 + b3) * 256 + b4 := by rw [IntKind.wrap_i64]; omega
  have t5 : IntKind.i64.wrap (((b2 * 256 + b3) * 256 + b4) * 256) = ((b2 * 256 + b3) * 256 + b4) * 256 := by rw [IntKind.wrap_i64]; omega
  have t6 : IntKind.i64.wrap (((b2 * 256 + b3) * 256 + b4) * 256 + b5) = (n : Int) := by rw [IntKind.wrap_i64]; omega
  have HNEST := Aside0.mk (show IntKind.i64.wrap (IntKind.i64.wrap (IntKind.i64.wrap (IntKind.i64.wrap (IntKind.i64.wrap (IntKind.i64.wrap (IntKind.i64.wrap b2 * 256) + IntKind.i64.wrap b3) * 256) + IntKind.i64.wrap b4) * 256) + IntKind.i64.wrap b5) = (n : Int) by
    rw [show IntKind.i64.wrap b2 = b2 by rw [IntKind.wrap_i64]; omega, show IntKind.i64.wrap b3 = b3 by rw [IntKind.wrap_i64]; omega, show IntKind.i64.wrap b4 = b4 by rw [IntKind.wrap_i64]; omega, show IntKind.i64.wrap b5 = b5 by rw [IntKind.wrap_i64]; omega, t1, t2, t3, t4, t5, t6])
  clear t1 t2 t3 t4 t5 t6
  have HNB := Aside0.mk hnb
  have HN := Aside0.mk hn
  clear hb2 hb3 hb4 hb5 hn hnb
  have q5 : (5 : Int) < (l0.length : Int) := by omega
  have q4 : (4 : Int) < (l0.length : Int) := by omega
  have q3 : (3 : Int) < (l0.length : Int) := by omega
  have q2 : (2 : Int) < (l0.length : Int) := by omega
  have hgt : decide ((1048576 : Int) < (n : Int)) = false := decide_eq_false (by omega)
  have t10 : IntKind.i64.wrap ((n : Int) + 10) = (n : Int) + 10 := by rw [IntKind.wrap_i64]; omega
  have t6 : IntKind.i64.wrap ((n : Int) + 6) = (n : Int) + 6 := by rw [IntKind.wrap_i64]; omega
  have hlt : decide ((l0.length : Int) < (n : Int) + 10) = false := decide_eq_false (by omega)
  obtain ⟨i00, hi0, _, hsz, _⟩ := info_parts Clone.info5
  obtain ⟨ad0, e00, _⟩ := Kd.at_int hr0 0 p0 q0
  cases e00
  have hn6 : ((n : Int) + 6).toNat = n + 6 := by omega
  have hn10 : ((n : Int) + 10).toNat = n + 10 := by omega
  have cutT := cut_to (P := Try.prog) 24 5 .i64 Try.underlying24 hi0 (some ad0) l0.length c0 ((n : Int) + 6) (by omega) (by omega) hc0
  rw [hn6] at cutT
  have hCT := Kd.C_take (m := n + 6) hr0 (by omega)
  have hlT : n + 6 = (l0.take (n + 6)).length := by rw [List.length_take]; omega
  obtain ⟨AM, hAM⟩ : ∃ AM, AM = (if c0 = n + 6 then some ad0 else (some ad0).map (·.add ((n + 6) * 1))) := ⟨_, rfl⟩
  have hCM := Kd.C_mid (lo := n + 6) (hi := n + 10) hr0 (by omega) (by omega) hc0
  have cutM := cut_mid (P := Try.prog) 24 5 .i64 .i64 Try.underlying24 hi0 1 hsz (some ad0) l0.length c0 ((n : Int) + 6) ((n : Int) + 10) (by omega) (by omega) (by omega) hc0
  rw [hn6, hn10, ← hAM] at cutM
  rw [show (Kd.int .u8).sz = 1 from rfl, ← hAM] at hCM
  have hlM : n + 10 - (n + 6) = ((l0.take (n + 10)).drop (n + 6)).length := by rw [List.length_drop, List.length_take]; omega
  rw [hlM] at cutM
  have hbT : Crc.IsBytes (l0.take (n + 6)) := fun x hx => hby x (List.mem_of_mem_take hx)
  have hsum := Crc.sum_range _ hbT
  have hall : Sum.all [l0.take (n + 6)] = Crc.sum (l0.take (n + 6)) := by
    have h := Crc.all_eq [l0.take (n + 6)] (by simpa using hbT)
    simpa using h
  rw [hall] at hcmp
  have hstr := four_same l0 n (Crc.sum (l0.take (n + 6))) hby hsum.1 hsum.2 (by omega)
  obtain ⟨s, hsd⟩ : ∃ s, s = Crc.sum (l0.take (n + 6)) := ⟨_, rfl⟩
  rw [← hsd] at hcmp hsum hstr
  have hrs := ref_sum (10 * (l0.take (n + 6)).length + 1) (l0.take (n + 6)) hbT (by rw [List.length_take]; omega) (Nat.lt_succ_self _)
  rw [← hsd] at hrs
  have hct : (l0.take (n + 6)).length ≤ c0 := by rw [List.length_take]; omega
  obtain ⟨tT, htT⟩ : ∃ t, t = l0.take (n + 6) := ⟨_, rfl⟩
  rw [← htT] at hCT hlT hrs hct
  rw [hlT] at cutT
  have HRS := Aside0.mk hrs
  have HCT0 := Aside0.mk hct
  have HCT := Aside0.mk hCT
  obtain ⟨dM, hdM⟩ : ∃ t, t = (l0.take (n + 10)).drop (n + 6) := ⟨_, rfl⟩
  rw [← hdM] at hCM hstr cutM
  have HCM := Aside0.mk hCM
  obtain ⟨sM, hsM⟩ : ∃ t, t = strOfNums dM := ⟨_, rfl⟩
  obtain ⟨fl, hfl⟩ : ∃ t, t = Block.four s := ⟨_, rfl⟩
  have HFL := Aside0.mk (show cobwebref08_four.f s = some fl by rw [hfl]; exact four_ref s hsum.1 hsum.2)
  obtain ⟨sF, hsF⟩ : ∃ t, t = strOfNums fl := ⟨_, rfl⟩
  rw [← hfl, ← hsF, ← hsM] at hstr
  have HSF := Aside0.mk hsF
  have HSM := Aside0.mk hsM
  have heq : (sF.toList == sM.toList) = true := by rw [hstr]; first | exact decide_eq_true (of_not_bne hcmp) | exact decide_eq_false (of_bne hcmp)
  have hne : (sF.toList != sM.toList) = false := by rw [bne, heq]; rfl
  obtain ⟨AB, hAB⟩ : ∃ AB, AB = (if c0 = 6 then some ad0 else (some ad0).map (·.add (6 * 1))) := ⟨_, rfl⟩
  have hCB := fun (W : World) (h : Kd.C (Kd.int .u8) W (some ad0) l0.length l0) => Kd.C_mid (lo := 6) (hi := n + 6) h (by omega) (by omega) hc0
  have cutB := cut_mid (P := Try.prog) 24 5 .i64 .i64 Try.underlying24 hi0 1 hsz (some ad0) l0.length c0 6 ((n : Int) + 6) (by omega) (by omega) (by omega) hc0
  simp only [show ((6 : Int)).toNat = 6 from rfl] at cutB
  rw [hn6, ← hAB] at cutB
  rw [show (Kd.int .u8).sz = 1 from rfl, ← hAB] at hCB
  have hlB : n + 6 - 6 = ((l0.take (n + 6)).drop 6).length := by rw [List.length_drop, List.length_take]; omega
  rw [hlB] at cutB
  have hcB : ((l0.take (n + 6)).drop 6).length ≤ c0 - 6 := by rw [← hlB]; omega
  obtain ⟨bM, hbM⟩ : ∃ b, b = (l0.take (n + 6)).drop 6 := ⟨_, rfl⟩
  rw [← hbM] at cutB hCB hcB ⊢
  have HCB := Aside0.mk hCB
  have HCBL := Aside0.mk hcB
  have q1 : (1 : Int) < (l0.length : Int) := by omega
  obtain ⟨b1, hb1⟩ : ∃ b, b = rd l0 1 := ⟨_, rfl⟩
  have HB1 := Aside0.mk hb1
  rw [← hb1]
  clear hCB hcB hbM hlB hAB hb1
  clear hw h6 hs hCT hCM hlT hlM hAM hbT hsum hall hcmp hstr hsd hrs hct htT hdM hsM hfl hsF hn6 hn10 hm hsz hi0
  have HR0 := Aside0.mk hr0
  clear hr0
  go_enter Try.func16, Try.ntmps16
  go_wp2_with (first | ((with_reducible refine gate_dst (N := 2) rfl ?_); refine box_event ?hg (N := 2) ?hd (cs := #[.int .u8 0, .slice none 0 0]) (t := 30) ?hr ?_; (case hd => rfl); (case hg => rfl); (case hr => first | (go_simp; done) | (go_simp; rfl)); intro g hg w1 hbox hb; have HB := Aside0.mk hb; have BK := Aside0.mk hbox; have GE := Aside0.mk (show w.heap.size ≤ g by rw [hg]; exact Nat.le_refl _); have HR1 := Aside0.mk (Kd.C_below HR0.out hb); clear hg hb hbox; have hcz0 : w1.cell? ⟨g, 0, none⟩ = some (.int .u8 0) := (blk_cell BK.out 0).trans rfl; have hcz1 : w1.cell? ⟨g, 1, none⟩ = some (.slice none 0 0) := (blk_cell BK.out 1).trans rfl; have hfz0 := blk_frozen BK.out 0; have hfz1 := blk_frozen BK.out 1; obtain ⟨ad0_, e0, hx0⟩ := Kd.at_int HR1.out 0 p0 q0; cases e0; rw [show ((0 : Int)).toNat = 0 from rfl, Addr.add_zero'] at hx0))
  have hy2 : ∀ W, Below w1.heap.size w1 W → W.cell? ⟨ad0.block, ad0.off + 2, none⟩ = some (.int .u8 b2) := fun W h => by
    obtain ⟨ad, e, hx⟩ := Kd.at_int (Kd.C_below HR1.out h) 2 (by omega) q2
    cases e
    simp only [show (2 : Int).toNat = 2 from rfl, Nat.reduceEqDiff, Go.Addr.add, ↓reduceIte] at hx
    rw [HB2.out]; exact hx
  have hy3 : ∀ W, Below w1.heap.size w1 W → W.cell? ⟨ad0.block, ad0.off + 3, none⟩ = some (.int .u8 b3) := fun W h => by
    obtain ⟨ad, e, hx⟩ := Kd.at_int (Kd.C_below HR1.out h) 3 (by omega) q3
    cases e
    simp only [show (3 : Int).toNat = 3 from rfl, Nat.reduceEqDiff, Go.Addr.add, ↓reduceIte] at hx
    rw [HB3.out]; exact hx
  have hy4 : ∀ W, Below w1.heap.size w1 W → W.cell? ⟨ad0.block, ad0.off + 4, none⟩ = some (.int .u8 b4) := fun W h => by
    obtain ⟨ad, e, hx⟩ := Kd.at_int (Kd.C_below HR1.out h) 4 (by omega) q4
    cases e
    simp only [show (4 : Int).toNat = 4 from rfl, Nat.reduceEqDiff, Go.Addr.add, ↓reduceIte] at hx
    rw [HB4.out]; exact hx
  have hy5 : ∀ W, Below w1.heap.size w1 W → W.cell? ⟨ad0.block, ad0.off + 5, none⟩ = some (.int .u8 b5) := fun W h => by
    obtain ⟨ad, e, hx⟩ := Kd.at_int (Kd.C_below HR1.out h) 5 (by omega) q5
    cases e
    simp only [show (5 : Int).toNat = 5 from rfl, Nat.reduceEqDiff, Go.Addr.add, ↓reduceIte] at hx
    rw [HB5.out]; exact hx
  refine RegH.startH (fun W => Below w1.heap.size w1 W) (by kernel_rfl) rfl (below_drew1 (Below.refl _ _)) (fun hS => ?_)
  (refine RegH.tkH (i := 0) (d := 19) (oi := ⟨_, _, _, _, _, _⟩) (v := ?_) rfl rfl (by kernel_rfl) (by kernel_rfl) (by kernel_rfl) (fun _ _ _ h => h) (Or.inl ⟨by rfl, ?_⟩) hS ?_; rotate_left; (intro w hSw; (try dsimp only at hSw); go_simp); try (with_reducible rfl))
  try simp only [Act.put, List.setIfInBounds_toArray, List.set_cons_zero, List.set_cons_succ]
  (refine RegH.tkH (i := 1) (d := 20) (oi := ⟨_, _, _, _, _, _⟩) (v := ?_) rfl rfl (by kernel_rfl) (by kernel_rfl) (by kernel_rfl) (fun _ _ _ h => h) (Or.inl ⟨by rfl, ?_⟩) hS ?_; rotate_left; (intro w hSw; (try dsimp only at hSw); go_simp); try (with_reducible rfl))
  try simp only [Act.put, List.setIfInBounds_toArray, List.set_cons_zero, List.set_cons_succ]
  (refine RegH.tkH (i := 2) (d := 21) (oi := ⟨_, _, _, _, _, _⟩) (v := ?_) rfl rfl (by kernel_rfl) (by kernel_rfl) (by kernel_rfl) (fun _ _ _ h => h) (Or.inl ⟨by rfl, ?_⟩) hS ?_; rotate_left; (intro w hSw; (try dsimp only at hSw); go_simp); try (with_reducible rfl))
  try simp only [Act.put, List.setIfInBounds_toArray, List.set_cons_zero, List.set_cons_succ]
  (refine RegH.tkH (i := 3) (d := 22) (oi := ⟨_, _, _, _, _, _⟩) (v := ?_) rfl rfl (by kernel_rfl) (by kernel_rfl) (by kernel_rfl) (fun _ _ _ h => h) (Or.inl ⟨by rfl, ?_⟩) hS ?_; rotate_left; (intro w hSw; (try dsimp only at hSw); go_simp); try (with_reducible rfl))
  try simp only [Act.put, List.setIfInBounds_toArray, List.set_cons_zero, List.set_cons_succ]
  (refine RegH.tkH (i := 4) (d := 23) (oi := ⟨_, _, _, _, _, _⟩) (v := ?_) rfl rfl (by kernel_rfl) (by kernel_rfl) (by kernel_rfl) (fun _ _ _ h => h) (Or.inl ⟨by rfl, ?_⟩) hS ?_; rotate_left; (intro w hSw; (try dsimp only at hSw); go_simp); try (with_reducible rfl))
  try simp only [Act.put, List.setIfInBounds_toArray, List.set_cons_zero, List.set_cons_succ]
  (refine RegH.tkH (i := 5) (d := 24) (oi := ⟨_, _, _, _, _, _⟩) (v := ?_) rfl rfl (by kernel_rfl) (by kernel_rfl) (by kernel_rfl) (fun _ _ _ h => h) (Or.inl ⟨by rfl, ?_⟩) hS ?_; rotate_left; (intro w hSw; (try dsimp only at hSw); go_simp); try (with_reducible rfl))
  try simp only [Act.put, List.setIfInBounds_toArray, List.set_cons_zero, List.set_cons_succ]
  (refine RegH.tkH (i := 6) (d := 25) (oi := ⟨_, _, _, _, _, _⟩) (v := ?_) rfl rfl (by kernel_rfl) (by kernel_rfl) (by kernel_rfl) (fun _ _ _ h => h) (Or.inl ⟨by rfl, ?_⟩) hS ?_; rotate_left; (intro w hSw; (try dsimp only at hSw); go_simp); try (with_reducible rfl))
  try simp only [Act.put, List.setIfInBounds_toArray, List.set_cons_zero, List.set_cons_succ]
  (refine RegH.tkH (i := 7) (d := 26) (oi := ⟨_, _, _, _, _, _⟩) (v := ?_) rfl rfl (by kernel_rfl) (by kernel_rfl) (by kernel_rfl) (fun _ _ _ h => h) (Or.inl ⟨by rfl, ?_⟩) hS ?_; rotate_left; (intro w hSw; (try dsimp only at hSw); go_simp); try (with_reducible rfl))
  try simp only [Act.put, List.setIfInBounds_toArray, List.set_cons_zero, List.set_cons_succ]
  (refine RegH.tkH (i := 8) (d := 27) (oi := ⟨_, _, _, _, _, _⟩) (v := ?_) rfl rfl (by kernel_rfl) (by kernel_rfl) (by kernel_rfl) (fun _ _ _ h => h) (Or.inl ⟨by rfl, ?_⟩) hS ?_; rotate_left; (intro w hSw; (try dsimp only at hSw); go_simp); try (with_reducible rfl))
  try simp only [Act.put, List.setIfInBounds_toArray, List.set_cons_zero, List.set_cons_succ]
  (refine RegH.tkH (i := 9) (d := 28) (oi := ⟨_, _, _, _, _, _⟩) (v := ?_) rfl rfl (by kernel_rfl) (by kernel_rfl) (by kernel_rfl) (fun _ _ _ h => h) (Or.inl ⟨by rfl, ?_⟩) hS ?_; rotate_left; (intro w hSw; (try dsimp only at hSw); go_simp); try (with_reducible rfl))
  try simp only [Act.put, List.setIfInBounds_toArray, List.set_cons_zero, List.set_cons_succ]
  (refine RegH.tkH (i := 10) (d := 29) (oi := ⟨_, _, _, _, _, _⟩) (v := ?_) rfl rfl (by kernel_rfl) (by kernel_rfl) (by kernel_rfl) (fun _ _ _ h => h) (Or.inl ⟨by rfl, ?_⟩) hS ?_; rotate_left; (intro w hSw; (try dsimp only at hSw); go_simp); try (with_reducible rfl))
  try simp only [Act.put, List.setIfInBounds_toArray, List.set_cons_zero, List.set_cons_succ]
  (refine RegH.tkH (i := 11) (d := 30) (oi := ⟨_, _, _, _, _, _⟩) (v := ?_) rfl rfl (by kernel_rfl) (by kernel_rfl) (by kernel_rfl) (fun _ _ _ h => h) (Or.inl ⟨by rfl, ?_⟩) hS ?_; rotate_left; (intro w hSw; (try dsimp only at hSw); go_simp); try (with_reducible rfl))
  try simp only [Act.put, List.setIfInBounds_toArray, List.set_cons_zero, List.set_cons_succ]
  (refine RegH.tkH (i := 12) (d := 31) (oi := ⟨_, _, _, _, _, _⟩) (v := ?_) rfl rfl (by kernel_rfl) (by kernel_rfl) (by kernel_rfl) (fun _ _ _ h => h) (Or.inl ⟨by rfl, ?_⟩) hS ?_; rotate_left; (intro w hSw; (try dsimp only at hSw); go_simp); try (with_reducible rfl))
  try simp only [Act.put, List.setIfInBounds_toArray, List.set_cons_zero, List.set_cons_succ]
  (refine RegH.tkH (i := 13) (d := 32) (oi := ⟨_, _, _, _, _, _⟩) (v := ?_) rfl rfl (by kernel_rfl) (by kernel_rfl) (by kernel_rfl) (fun _ _ _ h => h) (Or.inl ⟨by rfl, ?_⟩) hS ?_; rotate_left; (intro w hSw; (try dsimp only at hSw); go_simp); try (with_reducible rfl))
  try simp only [Act.put, List.setIfInBounds_toArray, List.set_cons_zero, List.set_cons_succ]
  (refine RegH.tkH (i := 14) (d := 33) (oi := ⟨_, _, _, _, _, _⟩) (v := ?_) rfl rfl (by kernel_rfl) (by kernel_rfl) (by kernel_rfl) (fun _ _ _ h => h) (Or.inl ⟨by rfl, ?_⟩) hS ?_; rotate_left; (intro w hSw; (try dsimp only at hSw); go_simp); try (with_reducible rfl))
  try simp only [Act.put, List.setIfInBounds_toArray, List.set_cons_zero, List.set_cons_succ]
  (refine RegH.tkH (i := 15) (d := 34) (oi := ⟨_, _, _, _, _, _⟩) (v := ?_) rfl rfl (by kernel_rfl) (by kernel_rfl) (by kernel_rfl) (fun _ _ _ h => h) (Or.inl ⟨by rfl, ?_⟩) hS ?_; rotate_left; (intro w hSw; (try dsimp only at hSw); go_simp); try (with_reducible rfl))
  try simp only [Act.put, List.setIfInBounds_toArray, List.set_cons_zero, List.set_cons_succ]
  (refine RegH.tkH (i := 16) (d := 35) (oi := ⟨_, _, _, _, _, _⟩) (v := ?_) rfl rfl (by kernel_rfl) (by kernel_rfl) (by kernel_rfl) (fun _ _ _ h => h) (Or.inl ⟨by rfl, ?_⟩) hS ?_; rotate_left; (intro w hSw; (try dsimp only at hSw); go_simp); try (with_reducible rfl))
  try simp only [Act.put, List.setIfInBounds_toArray, List.set_cons_zero, List.set_cons_succ]
  (refine RegH.tkH (i := 17) (d := 36) (oi := ⟨_, _, _, _, _, _⟩) (v := ?_) rfl rfl (by kernel_rfl) (by kernel_rfl) (by kernel_rfl) (fun _ _ _ h => h) (Or.inl ⟨by rfl, ?_⟩) hS ?_; rotate_left; (intro w hSw; (try dsimp only at hSw); go_simp); try (with_reducible rfl))
  try simp only [Act.put, List.setIfInBounds_toArray, List.set_cons_zero, List.set_cons_succ]
  (refine RegH.tkH (i := 18) (d := 37) (oi := ⟨_, _, _, _, _, _⟩) (v := ?_) rfl rfl (by kernel_rfl) (by kernel_rfl) (by kernel_rfl) (fun _ _ _ h => h) (Or.inl ⟨by rfl, ?_⟩) hS ?_; rotate_left; (intro w hSw; (try dsimp only at hSw); go_simp); try (with_reducible rfl))
  try simp only [Act.put, List.setIfInBounds_toArray, List.set_cons_zero, List.set_cons_succ]
  (refine RegH.tkH (i := 19) (d := 38) (oi := ⟨_, _, _, _, _, _⟩) (v := ?_) rfl rfl (by kernel_rfl) (by kernel_rfl) (by kernel_rfl) (fun _ _ _ h => h) (Or.inl ⟨by rfl, ?_⟩) hS ?_; rotate_left; (intro w hSw; (try dsimp only at hSw); go_simp); try (with_reducible rfl))
  try simp only [Act.put, List.setIfInBounds_toArray, List.set_cons_zero, List.set_cons_succ]
  (refine RegH.tkH (i := 20) (d := 39) (oi := ⟨_, _, _, _, _, _⟩) (v := ?_) rfl rfl (by kernel_rfl) (by kernel_rfl) (by kernel_rfl) (fun _ _ _ h => h) (Or.inl ⟨by rfl, ?_⟩) hS ?_; rotate_left; (intro w hSw; (try dsimp only at hSw); go_simp); try (with_reducible rfl))
  try simp only [Act.put, List.setIfInBounds_toArray, List.set_cons_zero, List.set_cons_succ]
  (refine RegH.tkH (i := 21) (d := 40) (oi := ⟨_, _, _, _, _, _⟩) (v := ?_) rfl rfl (by kernel_rfl) (by kernel_rfl) (by kernel_rfl) (fun _ _ _ h => h) (Or.inl ⟨by rfl, ?_⟩) hS ?_; rotate_left; (intro w hSw; (try dsimp only at hSw); go_simp); try (with_reducible rfl))
  try simp only [Act.put, List.setIfInBounds_toArray, List.set_cons_zero, List.set_cons_succ]
  refine RegH.oneH (i := 22) (o := ⟨_, _, _, _, _, _⟩) (by kernel_rfl) rfl (fun K hK => ?_)
  go_simp
  refine hK.out _ _ (hS) (fun hS => ?_)
  clear hK K
  try simp only [Act.put, List.setIfInBounds_toArray, List.set_cons_zero, List.set_cons_succ]
  refine wpAnyH_done (by kernel_rfl) ?_ _
  rw [HNEST.out]
  go_wp2_with fail
  obtain ⟨wv, hwv⟩ : ∃ wv : World, wv = w1.drew := ⟨_, rfl⟩
  have hbv : Below w1.heap.size w1 wv := by rw [hwv]; exact below_drew1 (Below.refl _ _)
  have HBV := Aside0.mk hbv
  rw [← hwv]
  have hcM : ∀ W, Below w1.heap.size w1 W → Sem.run Try.prog (convert 24 9 (.slice AM dM.length (c0 - (n + 6)))) W = .ok (.string sM) W := fun W h => by
    rw [HSM.out]; exact Kd.C_string Try.underlying24 Try.underlying5 Try.underlying9 (Kd.C_below HCM.out (below_step HB.out h))
  clear hwv hbv hx0 hy2 hy3 hy4 hy5
  refine RegH.startH (fun W => Below w1.heap.size w1 W) (by kernel_rfl) rfl (below_drew1 HBV.out) (fun hS => ?_)
  (refine RegH.tkH (i := 0) (d := 50) (oi := ⟨_, _, _, _, _, _⟩) (v := ?_) rfl rfl (by kernel_rfl) (by kernel_rfl) (by kernel_rfl) (fun _ _ _ h => h) (Or.inl ⟨by rfl, ?_⟩) hS ?_; rotate_left; (intro w hSw; (try dsimp only at hSw); go_simp); try (with_reducible rfl))
  try simp only [Act.put, List.setIfInBounds_toArray, List.set_cons_zero, List.set_cons_succ]
  (refine RegH.tkH (i := 1) (d := 51) (oi := ⟨_, _, _, _, _, _⟩) (v := ?_) rfl rfl (by kernel_rfl) (by kernel_rfl) (by kernel_rfl) (fun _ _ _ h => h) (Or.inl ⟨by rfl, ?_⟩) hS ?_; rotate_left; (intro w hSw; (try dsimp only at hSw); go_simp); try (with_reducible rfl))
  try simp only [Act.put, List.setIfInBounds_toArray, List.set_cons_zero, List.set_cons_succ]
  (refine RegH.tkH (i := 2) (d := 52) (oi := ⟨_, _, _, _, _, _⟩) (v := ?_) rfl rfl (by kernel_rfl) (by kernel_rfl) (by kernel_rfl) (fun _ _ _ h => h) (Or.inl ⟨by rfl, ?_⟩) hS ?_; rotate_left; (intro w hSw; (try dsimp only at hSw); go_simp); try (with_reducible rfl))
  try simp only [Act.put, List.setIfInBounds_toArray, List.set_cons_zero, List.set_cons_succ]
  (refine RegH.tkH (i := 3) (d := 53) (oi := ⟨_, _, _, _, _, _⟩) (v := ?_) rfl rfl (by kernel_rfl) (by kernel_rfl) (by kernel_rfl) (fun _ _ _ h => h) (Or.inl ⟨by rfl, ?_⟩) hS ?_; rotate_left; (intro w hSw; (try dsimp only at hSw); go_simp); try (with_reducible rfl))
  try simp only [Act.put, List.setIfInBounds_toArray, List.set_cons_zero, List.set_cons_succ]
  (refine RegH.tkH (i := 7) (d := 57) (oi := ⟨_, _, _, _, _, _⟩) (v := ?_) rfl rfl (by kernel_rfl) (by kernel_rfl) (by kernel_rfl) (fun _ _ _ h => h) (Or.inl ⟨by rfl, ?_⟩) hS ?_; rotate_left; (intro w hSw; (try dsimp only at hSw); go_simp); try (with_reducible rfl))
  try simp only [Act.put, List.setIfInBounds_toArray, List.set_cons_zero, List.set_cons_succ]
  (refine RegH.tkH (i := 8) (d := 58) (oi := ⟨_, _, _, _, _, _⟩) (v := ?_) rfl rfl (by kernel_rfl) (by kernel_rfl) (by kernel_rfl) (fun _ _ _ h => h) (Or.inl ⟨by rfl, ?_⟩) hS ?_; rotate_left; (intro w hSw; (try dsimp only at hSw); go_simp); try (with_reducible rfl))
  try simp only [Act.put, List.setIfInBounds_toArray, List.set_cons_zero, List.set_cons_succ]
  (refine RegH.tkH (i := 9) (d := 59) (oi := ⟨_, _, _, _, _, _⟩) (v := ?_) rfl rfl (by kernel_rfl) (by kernel_rfl) (by kernel_rfl) (fun _ _ _ h => h) (Or.inl ⟨by rfl, ?_⟩) hS ?_; rotate_left; (intro w hSw; (try dsimp only at hSw); go_simp); try (with_reducible rfl))
  try simp only [Act.put, List.setIfInBounds_toArray, List.set_cons_zero, List.set_cons_succ]
  (refine RegH.tkH (i := 10) (d := 60) (oi := ⟨_, _, _, _, _, _⟩) (v := ?_) rfl rfl (by kernel_rfl) (by kernel_rfl) (by kernel_rfl) (fun _ _ _ h => h) (Or.inl ⟨by rfl, ?_⟩) hS ?_; rotate_left; (intro w hSw; (try dsimp only at hSw); go_simp); try (with_reducible rfl))
  try simp only [Act.put, List.setIfInBounds_toArray, List.set_cons_zero, List.set_cons_succ]
  (refine RegH.tkH (i := 11) (d := 61) (oi := ⟨_, _, _, _, _, _⟩) (v := ?_) rfl rfl (by kernel_rfl) (by kernel_rfl) (by kernel_rfl) (fun _ _ _ h => h) (Or.inl ⟨by rfl, ?_⟩) hS ?_; rotate_left; (intro w hSw; (try dsimp only at hSw); go_simp); try (with_reducible rfl))
  try simp only [Act.put, List.setIfInBounds_toArray, List.set_cons_zero, List.set_cons_succ]
  (refine RegH.tkH (i := 12) (d := 62) (oi := ⟨_, _, _, _, _, _⟩) (v := ?_) rfl rfl (by kernel_rfl) (by kernel_rfl) (by kernel_rfl) (fun _ _ _ h => h) (Or.inl ⟨by rfl, ?_⟩) hS ?_; rotate_left; (intro w hSw; (try dsimp only at hSw); go_simp); try (with_reducible rfl))
  try simp only [Act.put, List.setIfInBounds_toArray, List.set_cons_zero, List.set_cons_succ]
  (refine RegH.tkH (i := 13) (d := 63) (oi := ⟨_, _, _, _, _, _⟩) (v := ?_) rfl rfl (by kernel_rfl) (by kernel_rfl) (by kernel_rfl) (fun _ _ _ h => h) (Or.inl ⟨by rfl, ?_⟩) hS ?_; rotate_left; (intro w hSw; (try dsimp only at hSw); go_simp); try (with_reducible rfl))
  try simp only [Act.put, List.setIfInBounds_toArray, List.set_cons_zero, List.set_cons_succ]
  refine RegH.oneH (i := 4) (o := ⟨_, _, _, _, _, _⟩) (by kernel_rfl) rfl (fun K hK => ?_)
  go_simp
  refine Calls.mono (cobwebref08_Sum.calls _ (some ad0) c0 tT s _ (Kd.C_below HCT.out (below_step HB.out hS)) HCT0.out HRS.out) ?_
  rintro e v ⟨rfl, hd⟩
  have hS := below_step hS hd.below
  go_wp2_with (fail)
  refine hK.out _ _ (hS) (fun hS => ?_)
  clear hK K
  try simp only [Act.put, List.setIfInBounds_toArray, List.set_cons_zero, List.set_cons_succ]
  refine RegH.oneH (i := 5) (o := ⟨_, _, _, _, _, _⟩) (by kernel_rfl) rfl (fun K hK => ?_)
  go_simp
  refine Calls.mono (cobwebref08_four.calls s fl _ HFL.out) ?_
  rintro e v2 ⟨vF, rfl, hRF, hb⟩
  have hS := below_step hS hb
  obtain ⟨AF, cF, rfl⟩ := Kd.R_slice hRF
  have hcF : Sem.run Try.prog (convert 24 9 (.slice AF fl.length cF)) v2 = .ok (.string sF) v2 := by
    rw [HSF.out]; exact Kd.C_string Try.underlying24 Try.underlying5 Try.underlying9 (Kd.R_reads' hRF).2.2
  clear hRF hb
  go_wp2_with (fail)
  refine hK.out _ _ (hS) (fun hS => ?_)
  clear hK K
  try simp only [Act.put, List.setIfInBounds_toArray, List.set_cons_zero, List.set_cons_succ]
  refine RegH.oneH (i := 6) (o := ⟨_, _, _, _, _, _⟩) (by kernel_rfl) rfl (fun K hK => ?_)
  go_simp
  refine hK.out _ _ (hS) (fun hS => ?_)
  clear hK K
  try simp only [Act.put, List.setIfInBounds_toArray, List.set_cons_zero, List.set_cons_succ]
  refine RegH.oneH (i := 14) (o := ⟨_, _, _, _, _, _⟩) (by kernel_rfl) rfl (fun K hK => ?_)
  go_simp
  refine hK.out _ _ (hS) (fun hS => ?_)
  clear hK K
  try simp only [Act.put, List.setIfInBounds_toArray, List.set_cons_zero, List.set_cons_succ]
  refine wpAnyH_done (by kernel_rfl) ?_ _
  clear hcM hcF
  have BK2 := Aside0.mk (blk_below BK.out hS)
  have HB2 := Aside0.mk (below_step HB.out hS)
  have HS2 := Aside0.mk hS
  have hdz0 : v2.cell? ⟨g, 0, none⟩ = some (.int .u8 0) := (blk_cell BK2.out 0).trans rfl
  have hdz1 : v2.cell? ⟨g, 1, none⟩ = some (.slice none 0 0) := (blk_cell BK2.out 1).trans rfl
  have hgz0 := blk_frozen BK2.out 0
  have hgz1 := blk_frozen BK2.out 1
  have hq1 : v2.cell? ⟨ad0.block, ad0.off + 1, none⟩ = some (.int .u8 b1) := by
    obtain ⟨ad, e, hx⟩ := Kd.at_int (Kd.C_below HR1.out HS2.out) 1 (by omega) q1
    cases e
    simp only [show (1 : Int).toNat = 1 from rfl, Nat.reduceEqDiff, Go.Addr.add, ↓reduceIte] at hx
    rw [HB1.out]; exact hx
  have HGA := Aside0.mk (show ad0.block ≠ g from fun e => by
    obtain ⟨ad, e2, hx⟩ := Kd.at_int HR0.out 1 (by omega) q1
    cases e2
    have h1 := World.block_lt_of_cell? w _ hx
    simp only [show (1 : Int).toNat = 1 from rfl, Nat.reduceEqDiff, Go.Addr.add, ↓reduceIte] at h1
    have h2 := GE.out
    omega)
  have hq2 : ∀ v v', ((v2.setCell ⟨g, 0, none⟩ v).setCell ⟨g, 1, none⟩ v').cell? ⟨ad0.block, ad0.off + 1, none⟩ = some (.int .u8 b1) := fun v v' => by
    have h1 := Below.heap_setCell v2 ⟨g, 0, none⟩ v ad0.block HGA.out
    have h2 := Below.heap_setCell (v2.setCell ⟨g, 0, none⟩ v) ⟨g, 1, none⟩ v' ad0.block HGA.out
    have h3 := h2.trans h1
    simpa [World.cell?, h3] using hq1
  have HQ2 := Aside0.mk hq2
  clear hq2
  go_wp2_with fail
  refine RegH.startH (fun W => W.cell? ⟨ad0.block, ad0.off + 1, none⟩ = some (.int .u8 b1)) (by kernel_rfl) rfl (hq1) (fun hS => ?_)
  (refine RegH.tkH (i := 0) (d := 66) (oi := ⟨_, _, _, _, _, _⟩) (v := ?_) rfl rfl (by kernel_rfl) (by kernel_rfl) (by kernel_rfl) (fun _ _ _ h => h) (Or.inl ⟨by rfl, ?_⟩) hS ?_; rotate_left; (intro w hSw; (try dsimp only at hSw); go_simp); try (with_reducible rfl))
  try simp only [Act.put, List.setIfInBounds_toArray, List.set_cons_zero, List.set_cons_succ]
  (refine RegH.tkH (i := 1) (d := 67) (oi := ⟨_, _, _, _, _, _⟩) (v := ?_) rfl rfl (by kernel_rfl) (by kernel_rfl) (by kernel_rfl) (fun _ _ _ h => h) (Or.inl ⟨by rfl, ?_⟩) hS ?_; rotate_left; (intro w hSw; (try dsimp only at hSw); go_simp); try (with_reducible rfl))
  try simp only [Act.put, List.setIfInBounds_toArray, List.set_cons_zero, List.set_cons_succ]
  (refine RegH.tkH (i := 2) (d := 68) (oi := ⟨_, _, _, _, _, _⟩) (v := ?_) rfl rfl (by kernel_rfl) (by kernel_rfl) (by kernel_rfl) (fun _ _ _ h => h) (Or.inl ⟨by rfl, ?_⟩) hS ?_; rotate_left; (intro w hSw; (try dsimp only at hSw); go_simp); try (with_reducible rfl))
  try simp only [Act.put, List.setIfInBounds_toArray, List.set_cons_zero, List.set_cons_succ]
  (refine RegH.tkH (i := 3) (d := 69) (oi := ⟨_, _, _, _, _, _⟩) (v := ?_) rfl rfl (by kernel_rfl) (by kernel_rfl) (by kernel_rfl) (fun _ _ _ h => h) (Or.inl ⟨by rfl, ?_⟩) hS ?_; rotate_left; (intro w hSw; (try dsimp only at hSw); go_simp); try (with_reducible rfl))
  try simp only [Act.put, List.setIfInBounds_toArray, List.set_cons_zero, List.set_cons_succ]
  (refine RegH.tkH (i := 4) (d := 70) (oi := ⟨_, _, _, _, _, _⟩) (v := ?_) rfl rfl (by kernel_rfl) (by kernel_rfl) (by kernel_rfl) (fun _ _ _ h => h) (Or.inl ⟨by rfl, ?_⟩) hS ?_; rotate_left; (intro w hSw; (try dsimp only at hSw); go_simp); try (with_reducible rfl))
  try simp only [Act.put, List.setIfInBounds_toArray, List.set_cons_zero, List.set_cons_succ]
  (refine RegH.tkH (i := 5) (d := 71) (oi := ⟨_, _, _, _, _, _⟩) (v := ?_) rfl rfl (by kernel_rfl) (by kernel_rfl) (by kernel_rfl) (fun _ _ _ h => h) (Or.inl ⟨by rfl, ?_⟩) hS ?_; rotate_left; (intro w hSw; (try dsimp only at hSw); go_simp); try (with_reducible rfl))
  try simp only [Act.put, List.setIfInBounds_toArray, List.set_cons_zero, List.set_cons_succ]
  (refine RegH.tkH (i := 6) (d := 72) (oi := ⟨_, _, _, _, _, _⟩) (v := ?_) rfl rfl (by kernel_rfl) (by kernel_rfl) (by kernel_rfl) (fun _ _ _ h => h) (Or.inl ⟨by rfl, ?_⟩) hS ?_; rotate_left; (intro w hSw; (try dsimp only at hSw); go_simp); try (with_reducible rfl))
  try simp only [Act.put, List.setIfInBounds_toArray, List.set_cons_zero, List.set_cons_succ]
  (refine RegH.tkH (i := 7) (d := 73) (oi := ⟨_, _, _, _, _, _⟩) (v := ?_) rfl rfl (by kernel_rfl) (by kernel_rfl) (by kernel_rfl) (fun _ _ _ h => h) (Or.inl ⟨by rfl, ?_⟩) hS ?_; rotate_left; (intro w hSw; (try dsimp only at hSw); go_simp); try (with_reducible rfl))
  try simp only [Act.put, List.setIfInBounds_toArray, List.set_cons_zero, List.set_cons_succ]
  (refine RegH.tkH (i := 8) (d := 74) (oi := ⟨_, _, _, _, _, _⟩) (v := ?_) rfl rfl (by kernel_rfl) (by kernel_rfl) (by kernel_rfl) (fun _ _ _ h => h) (Or.inl ⟨by rfl, ?_⟩) hS ?_; rotate_left; (intro w hSw; (try dsimp only at hSw); go_simp); try (with_reducible rfl))
  try simp only [Act.put, List.setIfInBounds_toArray, List.set_cons_zero, List.set_cons_succ]
  (refine RegH.tkH (i := 9) (d := 75) (oi := ⟨_, _, _, _, _, _⟩) (v := ?_) rfl rfl (by kernel_rfl) (by kernel_rfl) (by kernel_rfl) (fun _ _ _ h => h) (Or.inl ⟨by rfl, ?_⟩) hS ?_; rotate_left; (intro w hSw; (try dsimp only at hSw); go_simp); try (with_reducible rfl))
  try simp only [Act.put, List.setIfInBounds_toArray, List.set_cons_zero, List.set_cons_succ]
  refine RegH.oneH (i := 10) (o := ⟨_, _, _, _, _, _⟩) (by kernel_rfl) rfl (fun K hK => ?_)
  go_simp
  refine hK.out _ _ (HQ2.out _ _) (fun hS => ?_)
  clear hK K
  try simp only [Act.put, List.setIfInBounds_toArray, List.set_cons_zero, List.set_cons_succ]
  refine RegH.oneH (i := 11) (o := ⟨_, _, _, _, _, _⟩) (by kernel_rfl) rfl (fun K hK => ?_)
  go_simp
  refine hK.out _ _ (hS) (fun hS => ?_)
  clear hK K
  try simp only [Act.put, List.setIfInBounds_toArray, List.set_cons_zero, List.set_cons_succ]
  refine RegH.oneH (i := 12) (o := ⟨_, _, _, _, _, _⟩) (by kernel_rfl) rfl (fun K hK => ?_)
  go_simp
  refine hK.out _ _ (hS) (fun hS => ?_)
  clear hK K
  try simp only [Act.put, List.setIfInBounds_toArray, List.set_cons_zero, List.set_cons_succ]
  refine wpAnyH_done (by kernel_rfl) ?_ _
  go_wp2
  refine bodyPost_ret (results_ctt rfl _ _ g 30 #[.int .u8 b1, .slice AB bM.length (c0 - 6)] (0, 0) _ rfl (by (with_reducible repeat (first | refine blk_drewN ?_ _ | refine blk_drew ?_ | refine blk_alloc ?_ _)); refine blk_put (cs := #[.int .u8 b1, .slice none 0 0]) ?_ 1 _ rfl; (with_reducible repeat (first | refine blk_drewN ?_ _ | refine blk_drew ?_ | refine blk_alloc ?_ _)); refine blk_put (cs := #[.int .u8 0, .slice none 0 0]) ?_ 0 _ rfl; (with_reducible repeat (first | refine blk_drewN ?_ _ | refine blk_drew ?_ | refine blk_alloc ?_ _)); exact BK2.out) Try.underlying30 rfl (by kernel_rfl)) rfl ?_
  exact ⟨AB, c0 - 6, rfl, HCBL.out, HCB.out, (by repeat (first | (with_reducible first | exact HB2.out | apply below_alloc | apply pw_below_drewN | apply below_drew1 | refine below_set ?_ GE.out) | exact HB2.out))⟩

theorem rtake (A0 : Option Addr) (c0 : Nat) (l0 : List Int) (w : World) (hr0 : Kd.C (Kd.int .u8) w A0 l0.length l0) (hc0 : l0.length ≤ c0) (hby : Crc.IsBytes l0) (hm : l0.length ≤ 100000000) (r1 : Int) (r2 : List Int) (r3 r4 : Int) (h : Take.tk l0 = (r1, r2, r3, r4)) :
    Calls Try.prog 16 #[.slice A0 l0.length c0] w fun e w' => ∃ (A1 : Option Addr) (c1 : Nat), e = .returned (.tuple #[.agg #[.int .u8 r1, .slice A1 r2.length c1], .int .i64 r3, .int .i64 r4]) ∧ r2.length ≤ c1 ∧ (∀ W, Kd.C (Kd.int .u8) W A0 l0.length l0 → Kd.C (Kd.int .u8) W A1 r2.length r2) ∧ Below w.heap.size w w' := by
  have none_ : ∀ (k : Int), Calls Try.prog 16 #[.slice A0 l0.length c0] w (fun e w' => e = .returned (.tuple #[.agg #[.int .u8 0, .slice none 0 0], .int .i64 0, .int .i64 k]) ∧ Below w.heap.size w w') → (0, [], 0, k) = (r1, r2, r3, r4) → Calls Try.prog 16 #[.slice A0 l0.length c0] w fun e w' => ∃ (A1 : Option Addr) (c1 : Nat), e = .returned (.tuple #[.agg #[.int .u8 r1, .slice A1 r2.length c1], .int .i64 r3, .int .i64 r4]) ∧ r2.length ≤ c1 ∧ (∀ W, Kd.C (Kd.int .u8) W A0 l0.length l0 → Kd.C (Kd.int .u8) W A1 r2.length r2) ∧ Below w.heap.size w w' := fun k hcall he => by
    simp only [Prod.mk.injEq] at he
    obtain ⟨rfl, rfl, rfl, rfl⟩ := he
    exact Calls.mono hcall (fun e w' hh => ⟨none, 0, hh.1, Nat.le_refl _, fun W _ => Kd.C_nil _ _, hh.2⟩)
  unfold Take.tk at h
  by_cases c1 : l0.length = 0
  · rw [if_pos c1] at h
    exact none_ 20 (r_empty A0 c0 l0 w hr0 hc0 c1) h
  rw [if_neg c1] at h
  by_cases c2 : rd l0 0 = 203
  · rw [if_neg (by simp [c2])] at h
    by_cases c3 : l0.length < 6
    · rw [if_pos c3] at h
      exact none_ 20 (r_short A0 c0 l0 w hr0 hc0 (by omega) c2 c3) h
    rw [if_neg c3] at h
    by_cases c4 : 1048576 < word4 (l0.drop 2)
    · rw [if_pos c4] at h
      exact none_ 82 (r_long A0 c0 l0 w hr0 hc0 c2 (by omega) hby c4) h
    rw [if_neg c4] at h
    by_cases c5 : (l0.length : Int) < word4 (l0.drop 2) + 10
    · rw [if_pos c5] at h
      exact none_ 20 (r_behind A0 c0 l0 w hr0 hc0 c2 (by omega) hby (by omega) c5) h
    rw [if_neg c5] at h
    by_cases c6 : (word4 (l0.drop ((word4 (l0.drop 2)).toNat + 6)) != Sum.all [l0.take ((word4 (l0.drop 2)).toNat + 6)]) = true
    · rw [if_pos c6] at h
      exact none_ 81 (r_sums A0 c0 l0 w hr0 hc0 c2 (by omega) hby hm (by omega) (by omega) c6) h
    · rw [if_neg c6] at h
      simp only [Prod.mk.injEq] at h
      obtain ⟨rfl, rfl, rfl, rfl⟩ := h
      exact r_good A0 c0 l0 w hr0 hc0 c2 (by omega) hby hm (by omega) (by omega) (by simpa using c6)
  · rw [if_pos c2] at h
    exact none_ 80 (r_magic A0 c0 l0 w hr0 hc0 (by omega) c2) h

end Go.Proofs.Ytgonodfggiablaa.RTake
