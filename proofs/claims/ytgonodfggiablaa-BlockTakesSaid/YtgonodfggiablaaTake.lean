/-
  block.Take's walk: of every slice of bytes the call answers what the Lean function tk says, in new memory; it writes nothing that was there. Conditions: the slice can be read, each byte is from 0 to 255.
-/
import Derived.Test.YtgonodfggiablaaWord
import Derived.Test.YtgonodfggiablaaClone
namespace Go.Proofs.Ytgonodfggiablaa.Take
open Go.RowKit Go.Proofs.YtgonodfggiablaaW.PrintWords Go.Proofs.YtgonodfggiablaaW.PrintLast Go.Proofs.YtgonodfggiablaaW.PrintMore
set_option linter.unusedVariables false
set_option linter.unusedSimpArgs false
open Word (word4)
set_option maxHeartbeats 8000000 in
set_option maxRecDepth 100000 in
theorem empty (A0 : Option Addr) (c0 : Nat) (l0 : List Int) (w : World) (hr0 : Kd.C (Kd.int .u8) w A0 l0.length l0) (hc0 : l0.length ≤ c0) (hl : l0.length = 0) :
    Calls Try.prog 15 #[.slice A0 l0.length c0] w fun e w' => ∃ v1_ : Value, e = .returned (.tuple #[.agg #[.int .u8 0, v1_], .int .i64 0, .int .i64 20]) ∧ Kd.R (Kd.int .u8) 5 w' w.heap.size (fun _ => True) v1_ [] ∧ Below w.heap.size w w' := by
  obtain rfl := List.length_eq_zero_iff.1 hl
  clear hl
  have HR0 := Aside0.mk hr0
  clear hr0
  go_enter Try.func15, Try.ntmps15
  go_wp2_with (first | ((with_reducible refine gate_dst (N := 2) rfl ?_); refine box_event ?hg (N := 2) ?hd (cs := #[.int .u8 0, .slice none 0 0]) (t := 30) ?hr ?_; (case hd => rfl); (case hg => rfl); (case hr => first | (go_simp; done) | (go_simp; rfl)); intro g hg w1 hbox hb; have HB := Aside0.mk hb; have BK := Aside0.mk hbox; have GE := Aside0.mk (show w.heap.size ≤ g by rw [hg]; exact Nat.le_refl _); have HR1 := Aside0.mk (Kd.C_below HR0.out hb); clear hg hb hbox; have hcz0 : w1.cell? ⟨g, 0, none⟩ = some (.int .u8 0) := (blk_cell BK.out 0).trans rfl; have hcz1 : w1.cell? ⟨g, 1, none⟩ = some (.slice none 0 0) := (blk_cell BK.out 1).trans rfl; have hfz0 := blk_frozen BK.out 0; have hfz1 := blk_frozen BK.out 1))
  refine bodyPost_ret (results_ctt rfl _ _ g 30 #[.int .u8 0, .slice none 0 0] (0, 0) _ rfl (by (with_reducible repeat (first | refine blk_drewN ?_ _ | refine blk_drew ?_ | refine blk_alloc ?_ _)); refine blk_put (cs := #[.int .u8 0, .slice none 0 0]) ?_ 1 _ rfl; (with_reducible repeat (first | refine blk_drewN ?_ _ | refine blk_drew ?_ | refine blk_alloc ?_ _)); refine blk_put (cs := #[.int .u8 0, .slice none 0 0]) ?_ 0 _ rfl; (with_reducible repeat (first | refine blk_drewN ?_ _ | refine blk_drew ?_ | refine blk_alloc ?_ _)); exact BK.out) Try.underlying30 rfl (by kernel_rfl)) rfl ?_
  exact ⟨_, rfl, Kd.R_nil _ _ _ _ _, (by repeat (first | (with_reducible first | exact HB.out | apply below_alloc | apply pw_below_drewN | apply below_drew1 | refine below_set ?_ GE.out) | exact HB.out))⟩

set_option maxHeartbeats 8000000 in
set_option maxRecDepth 100000 in
theorem magic (A0 : Option Addr) (c0 : Nat) (l0 : List Int) (w : World) (hr0 : Kd.C (Kd.int .u8) w A0 l0.length l0) (hc0 : l0.length ≤ c0) (hl : 0 < l0.length) (hk : ¬ rd l0 0 = 203) :
    Calls Try.prog 15 #[.slice A0 l0.length c0] w fun e w' => ∃ v1_ : Value, e = .returned (.tuple #[.agg #[.int .u8 0, v1_], .int .i64 0, .int .i64 80]) ∧ Kd.R (Kd.int .u8) 5 w' w.heap.size (fun _ => True) v1_ [] ∧ Below w.heap.size w w' := by
  have p0 : 0 ≤ (0 : Int) := by omega
  have q0 : 0 < (l0.length : Int) := by omega
  have i0 : (0 < l0.length) = True := eq_true (by omega)
  have z0 : ((l0.length : Int) == 0) = false := beq_eq_false_iff_ne.2 (by omega)
  have z1 : ((l0.length : Int) != 0) = true := bne_iff_ne.2 (by omega)
  have z2 : ¬ l0 = [] := fun h => by rw [h] at q0; simp at q0
  have k0 : (rd l0 0 == 203) = false := beq_eq_false_iff_ne.2 hk
  have k1 : (rd l0 0 != 203) = true := bne_iff_ne.2 hk
  clear hk hl
  have HR0 := Aside0.mk hr0
  clear hr0
  go_enter Try.func15, Try.ntmps15
  go_wp2_with (first | ((with_reducible refine gate_dst (N := 2) rfl ?_); refine box_event ?hg (N := 2) ?hd (cs := #[.int .u8 0, .slice none 0 0]) (t := 30) ?hr ?_; (case hd => rfl); (case hg => rfl); (case hr => first | (go_simp; done) | (go_simp; rfl)); intro g hg w1 hbox hb; have HB := Aside0.mk hb; have BK := Aside0.mk hbox; have GE := Aside0.mk (show w.heap.size ≤ g by rw [hg]; exact Nat.le_refl _); have HR1 := Aside0.mk (Kd.C_below HR0.out hb); clear hg hb hbox; have hcz0 : w1.cell? ⟨g, 0, none⟩ = some (.int .u8 0) := (blk_cell BK.out 0).trans rfl; have hcz1 : w1.cell? ⟨g, 1, none⟩ = some (.slice none 0 0) := (blk_cell BK.out 1).trans rfl; have hfz0 := blk_frozen BK.out 0; have hfz1 := blk_frozen BK.out 1; obtain ⟨ad0_, e0, hx0⟩ := Kd.at_int HR1.out 0 p0 q0; cases e0; rw [show ((0 : Int)).toNat = 0 from rfl, Addr.add_zero'] at hx0))
  refine bodyPost_ret (results_ctt rfl _ _ g 30 #[.int .u8 0, .slice none 0 0] (0, 0) _ rfl (by (with_reducible repeat (first | refine blk_drewN ?_ _ | refine blk_drew ?_ | refine blk_alloc ?_ _)); refine blk_put (cs := #[.int .u8 0, .slice none 0 0]) ?_ 1 _ rfl; (with_reducible repeat (first | refine blk_drewN ?_ _ | refine blk_drew ?_ | refine blk_alloc ?_ _)); refine blk_put (cs := #[.int .u8 0, .slice none 0 0]) ?_ 0 _ rfl; (with_reducible repeat (first | refine blk_drewN ?_ _ | refine blk_drew ?_ | refine blk_alloc ?_ _)); exact BK.out) Try.underlying30 rfl (by kernel_rfl)) rfl ?_
  exact ⟨_, rfl, Kd.R_nil _ _ _ _ _, (by repeat (first | (with_reducible first | exact HB.out | apply below_alloc | apply pw_below_drewN | apply below_drew1 | refine below_set ?_ GE.out) | exact HB.out))⟩

set_option maxHeartbeats 8000000 in
set_option maxRecDepth 100000 in
theorem short (A0 : Option Addr) (c0 : Nat) (l0 : List Int) (w : World) (hr0 : Kd.C (Kd.int .u8) w A0 l0.length l0) (hc0 : l0.length ≤ c0) (hl : 0 < l0.length) (hk : rd l0 0 = 203) (h6 : l0.length < 6) :
    Calls Try.prog 15 #[.slice A0 l0.length c0] w fun e w' => ∃ v1_ : Value, e = .returned (.tuple #[.agg #[.int .u8 0, v1_], .int .i64 0, .int .i64 20]) ∧ Kd.R (Kd.int .u8) 5 w' w.heap.size (fun _ => True) v1_ [] ∧ Below w.heap.size w w' := by
  have p0 : 0 ≤ (0 : Int) := by omega
  have q0 : 0 < (l0.length : Int) := by omega
  have i0 : (0 < l0.length) = True := eq_true (by omega)
  have z0 : ((l0.length : Int) == 0) = false := beq_eq_false_iff_ne.2 (by omega)
  have z1 : ((l0.length : Int) != 0) = true := bne_iff_ne.2 (by omega)
  have z2 : ¬ l0 = [] := fun h => by rw [h] at q0; simp at q0
  have k0 : (rd l0 0 == 203) = true := beq_iff_eq.2 hk
  have k1 : (rd l0 0 != 203) = false := bne_eq_false_iff_eq.2 hk
  clear hk
  have s0 : decide ((l0.length : Int) < 6) = true := decide_eq_true (by omega)
  have s1 : decide (l0.length < 6) = true := decide_eq_true h6
  clear hl h6
  have HR0 := Aside0.mk hr0
  clear hr0
  go_enter Try.func15, Try.ntmps15
  go_wp2_with (first | ((with_reducible refine gate_dst (N := 2) rfl ?_); refine box_event ?hg (N := 2) ?hd (cs := #[.int .u8 0, .slice none 0 0]) (t := 30) ?hr ?_; (case hd => rfl); (case hg => rfl); (case hr => first | (go_simp; done) | (go_simp; rfl)); intro g hg w1 hbox hb; have HB := Aside0.mk hb; have BK := Aside0.mk hbox; have GE := Aside0.mk (show w.heap.size ≤ g by rw [hg]; exact Nat.le_refl _); have HR1 := Aside0.mk (Kd.C_below HR0.out hb); clear hg hb hbox; have hcz0 : w1.cell? ⟨g, 0, none⟩ = some (.int .u8 0) := (blk_cell BK.out 0).trans rfl; have hcz1 : w1.cell? ⟨g, 1, none⟩ = some (.slice none 0 0) := (blk_cell BK.out 1).trans rfl; have hfz0 := blk_frozen BK.out 0; have hfz1 := blk_frozen BK.out 1; obtain ⟨ad0_, e0, hx0⟩ := Kd.at_int HR1.out 0 p0 q0; cases e0; rw [show ((0 : Int)).toNat = 0 from rfl, Addr.add_zero'] at hx0))
  refine bodyPost_ret (results_ctt rfl _ _ g 30 #[.int .u8 0, .slice none 0 0] (0, 0) _ rfl (by (with_reducible repeat (first | refine blk_drewN ?_ _ | refine blk_drew ?_ | refine blk_alloc ?_ _)); refine blk_put (cs := #[.int .u8 0, .slice none 0 0]) ?_ 1 _ rfl; (with_reducible repeat (first | refine blk_drewN ?_ _ | refine blk_drew ?_ | refine blk_alloc ?_ _)); refine blk_put (cs := #[.int .u8 0, .slice none 0 0]) ?_ 0 _ rfl; (with_reducible repeat (first | refine blk_drewN ?_ _ | refine blk_drew ?_ | refine blk_alloc ?_ _)); exact BK.out) Try.underlying30 rfl (by kernel_rfl)) rfl ?_
  exact ⟨_, rfl, Kd.R_nil _ _ _ _ _, (by repeat (first | (with_reducible first | exact HB.out | apply below_alloc | apply pw_below_drewN | apply below_drew1 | refine below_set ?_ GE.out) | exact HB.out))⟩

set_option maxHeartbeats 8000000 in
set_option maxRecDepth 100000 in
theorem long (A0 : Option Addr) (c0 : Nat) (l0 : List Int) (w : World) (hr0 : Kd.C (Kd.int .u8) w A0 l0.length l0) (hc0 : l0.length ≤ c0) (hk : rd l0 0 = 203) (h6 : 6 ≤ l0.length) (hby : Crc.IsBytes l0) (hw : 1048576 < word4 (l0.drop 2)) :
    Calls Try.prog 15 #[.slice A0 l0.length c0] w fun e w' => ∃ v1_ : Value, e = .returned (.tuple #[.agg #[.int .u8 0, v1_], .int .i64 0, .int .i64 82]) ∧ Kd.R (Kd.int .u8) 5 w' w.heap.size (fun _ => True) v1_ [] ∧ Below w.heap.size w w' := by
  have p0 : 0 ≤ (0 : Int) := by omega
  have q0 : 0 < (l0.length : Int) := by omega
  have i0 : (0 < l0.length) = True := eq_true (by omega)
  have z0 : ((l0.length : Int) == 0) = false := beq_eq_false_iff_ne.2 (by omega)
  have z1 : ((l0.length : Int) != 0) = true := bne_iff_ne.2 (by omega)
  have z2 : ¬ l0 = [] := fun h => by rw [h] at q0; simp at q0
  have k0 : (rd l0 0 == 203) = true := beq_iff_eq.2 hk
  have k1 : (rd l0 0 != 203) = false := bne_eq_false_iff_eq.2 hk
  clear hk
  have s0 : decide ((l0.length : Int) < 6) = false := decide_eq_false (by omega)
  have s1 : decide (l0.length < 6) = false := decide_eq_false (by omega)
  have HBY := Aside0.mk (show Crc.IsBytes (l0.drop 2) from fun x hx => hby x (List.mem_of_mem_drop hx))
  have HL4 := Aside0.mk (show 4 ≤ (l0.drop 2).length by rw [List.length_drop]; omega)
  obtain ⟨n, hn⟩ : ∃ n, n = word4 (l0.drop 2) := ⟨_, rfl⟩
  rw [← hn] at hw
  have hnr := Word.word4_range HBY.out
  rw [← hn] at hnr
  obtain ⟨hn0, hn1⟩ := hnr
  have HN := Aside0.mk hn
  clear hn
  obtain ⟨i00, hi0, _, hsz, _⟩ := info_parts Clone.info5
  obtain ⟨ad0, e00, _⟩ := Kd.at_int hr0 0 p0 q0
  cases e00
  obtain ⟨A2, hA2⟩ : ∃ A2, A2 = (if c0 = 2 then some ad0 else (some ad0).map (·.add (2 * 1))) := ⟨_, rfl⟩
  have hC2 := Kd.C_drop (m := 2) hr0 (by omega) hc0
  have cut2 := cut_from (P := Try.prog) 24 5 .i64 Try.underlying24 hi0 1 hsz (some ad0) l0.length c0 2 (by omega) (by omega)
  simp only [show ((2 : Int)).toNat = 2 from rfl] at cut2
  rw [← hA2] at cut2
  rw [show (Kd.int .u8).sz = 1 from rfl, ← hA2] at hC2
  have hl2 : l0.length - 2 = (l0.drop 2).length := by rw [List.length_drop]
  rw [hl2] at cut2
  obtain ⟨d2, hd2⟩ : ∃ d2, d2 = l0.drop 2 := ⟨_, rfl⟩
  rw [← hd2] at cut2 hC2 HBY HL4 HN
  have HC2 := Aside0.mk hC2
  clear hC2 hA2 hl2 hd2
  have HR0 := Aside0.mk hr0
  clear hr0 hby
  go_enter Try.func15, Try.ntmps15
  go_wp2_with (first | ((with_reducible refine gate_dst (N := 2) rfl ?_); refine box_event ?hg (N := 2) ?hd (cs := #[.int .u8 0, .slice none 0 0]) (t := 30) ?hr ?_; (case hd => rfl); (case hg => rfl); (case hr => first | (go_simp; done) | (go_simp; rfl)); intro g hg w1 hbox hb; have HB := Aside0.mk hb; have BK := Aside0.mk hbox; have GE := Aside0.mk (show w.heap.size ≤ g by rw [hg]; exact Nat.le_refl _); have HR1 := Aside0.mk (Kd.C_below HR0.out hb); clear hg hb hbox; have hcz0 : w1.cell? ⟨g, 0, none⟩ = some (.int .u8 0) := (blk_cell BK.out 0).trans rfl; have hcz1 : w1.cell? ⟨g, 1, none⟩ = some (.slice none 0 0) := (blk_cell BK.out 1).trans rfl; have hfz0 := blk_frozen BK.out 0; have hfz1 := blk_frozen BK.out 1; obtain ⟨ad0_, e0, hx0⟩ := Kd.at_int HR1.out 0 p0 q0; cases e0; rw [show ((0 : Int)).toNat = 0 from rfl, Addr.add_zero'] at hx0) | (go_at_call 21; refine (Word.calls _ _ d2 _ ?s0 HBY.out ?s4).mono ?_; (case s4 => exact HL4.out); (case s0 => exact Kd.C_below HC2.out (by exact HB.out)); rintro e w2 ⟨rfl, ⟨nd, rfl⟩⟩; rw [← HN.out]))
  refine bodyPost_ret (results_ctt rfl _ _ g 30 #[.int .u8 0, .slice none 0 0] (0, 0) _ rfl (by (with_reducible repeat (first | refine blk_drewN ?_ _ | refine blk_drew ?_ | refine blk_alloc ?_ _)); refine blk_put (cs := #[.int .u8 0, .slice none 0 0]) ?_ 1 _ rfl; (with_reducible repeat (first | refine blk_drewN ?_ _ | refine blk_drew ?_ | refine blk_alloc ?_ _)); refine blk_put (cs := #[.int .u8 0, .slice none 0 0]) ?_ 0 _ rfl; (with_reducible repeat (first | refine blk_drewN ?_ _ | refine blk_drew ?_ | refine blk_alloc ?_ _)); exact BK.out) Try.underlying30 rfl (by kernel_rfl)) rfl ?_
  exact ⟨_, rfl, Kd.R_nil _ _ _ _ _, (by repeat (first | (with_reducible first | exact HB.out | apply below_alloc | apply pw_below_drewN | apply below_drew1 | refine below_set ?_ GE.out) | exact HB.out))⟩

set_option maxHeartbeats 8000000 in
set_option maxRecDepth 100000 in
theorem behind (A0 : Option Addr) (c0 : Nat) (l0 : List Int) (w : World) (hr0 : Kd.C (Kd.int .u8) w A0 l0.length l0) (hc0 : l0.length ≤ c0) (hk : rd l0 0 = 203) (h6 : 6 ≤ l0.length) (hby : Crc.IsBytes l0) (hw : word4 (l0.drop 2) ≤ 1048576) (hs : (l0.length : Int) < word4 (l0.drop 2) + 10) :
    Calls Try.prog 15 #[.slice A0 l0.length c0] w fun e w' => ∃ v1_ : Value, e = .returned (.tuple #[.agg #[.int .u8 0, v1_], .int .i64 0, .int .i64 20]) ∧ Kd.R (Kd.int .u8) 5 w' w.heap.size (fun _ => True) v1_ [] ∧ Below w.heap.size w w' := by
  have p0 : 0 ≤ (0 : Int) := by omega
  have q0 : 0 < (l0.length : Int) := by omega
  have i0 : (0 < l0.length) = True := eq_true (by omega)
  have z0 : ((l0.length : Int) == 0) = false := beq_eq_false_iff_ne.2 (by omega)
  have z1 : ((l0.length : Int) != 0) = true := bne_iff_ne.2 (by omega)
  have z2 : ¬ l0 = [] := fun h => by rw [h] at q0; simp at q0
  have k0 : (rd l0 0 == 203) = true := beq_iff_eq.2 hk
  have k1 : (rd l0 0 != 203) = false := bne_eq_false_iff_eq.2 hk
  clear hk
  have s0 : decide ((l0.length : Int) < 6) = false := decide_eq_false (by omega)
  have s1 : decide (l0.length < 6) = false := decide_eq_false (by omega)
  have HBY := Aside0.mk (show Crc.IsBytes (l0.drop 2) from fun x hx => hby x (List.mem_of_mem_drop hx))
  have HL4 := Aside0.mk (show 4 ≤ (l0.drop 2).length by rw [List.length_drop]; omega)
  obtain ⟨n, hn⟩ : ∃ n, n = word4 (l0.drop 2) := ⟨_, rfl⟩
  rw [← hn] at hw hs
  have hnr := Word.word4_range HBY.out
  rw [← hn] at hnr
  obtain ⟨hn0, hn1⟩ := hnr
  have HN := Aside0.mk hn
  clear hn
  obtain ⟨i00, hi0, _, hsz, _⟩ := info_parts Clone.info5
  obtain ⟨ad0, e00, _⟩ := Kd.at_int hr0 0 p0 q0
  cases e00
  obtain ⟨A2, hA2⟩ : ∃ A2, A2 = (if c0 = 2 then some ad0 else (some ad0).map (·.add (2 * 1))) := ⟨_, rfl⟩
  have hC2 := Kd.C_drop (m := 2) hr0 (by omega) hc0
  have cut2 := cut_from (P := Try.prog) 24 5 .i64 Try.underlying24 hi0 1 hsz (some ad0) l0.length c0 2 (by omega) (by omega)
  simp only [show ((2 : Int)).toNat = 2 from rfl] at cut2
  rw [← hA2] at cut2
  rw [show (Kd.int .u8).sz = 1 from rfl, ← hA2] at hC2
  have hl2 : l0.length - 2 = (l0.drop 2).length := by rw [List.length_drop]
  rw [hl2] at cut2
  obtain ⟨d2, hd2⟩ : ∃ d2, d2 = l0.drop 2 := ⟨_, rfl⟩
  rw [← hd2] at cut2 hC2 HBY HL4 HN
  have HC2 := Aside0.mk hC2
  clear hC2 hA2 hl2 hd2
  have HR0 := Aside0.mk hr0
  clear hr0 hby
  go_enter Try.func15, Try.ntmps15
  go_wp2_with (first | ((with_reducible refine gate_dst (N := 2) rfl ?_); refine box_event ?hg (N := 2) ?hd (cs := #[.int .u8 0, .slice none 0 0]) (t := 30) ?hr ?_; (case hd => rfl); (case hg => rfl); (case hr => first | (go_simp; done) | (go_simp; rfl)); intro g hg w1 hbox hb; have HB := Aside0.mk hb; have BK := Aside0.mk hbox; have GE := Aside0.mk (show w.heap.size ≤ g by rw [hg]; exact Nat.le_refl _); have HR1 := Aside0.mk (Kd.C_below HR0.out hb); clear hg hb hbox; have hcz0 : w1.cell? ⟨g, 0, none⟩ = some (.int .u8 0) := (blk_cell BK.out 0).trans rfl; have hcz1 : w1.cell? ⟨g, 1, none⟩ = some (.slice none 0 0) := (blk_cell BK.out 1).trans rfl; have hfz0 := blk_frozen BK.out 0; have hfz1 := blk_frozen BK.out 1; obtain ⟨ad0_, e0, hx0⟩ := Kd.at_int HR1.out 0 p0 q0; cases e0; rw [show ((0 : Int)).toNat = 0 from rfl, Addr.add_zero'] at hx0) | (go_at_call 21; refine (Word.calls _ _ d2 _ ?s0 HBY.out ?s4).mono ?_; (case s4 => exact HL4.out); (case s0 => exact Kd.C_below HC2.out (by exact HB.out)); rintro e w2 ⟨rfl, ⟨nd, rfl⟩⟩; rw [← HN.out]))
  refine bodyPost_ret (results_ctt rfl _ _ g 30 #[.int .u8 0, .slice none 0 0] (0, 0) _ rfl (by (with_reducible repeat (first | refine blk_drewN ?_ _ | refine blk_drew ?_ | refine blk_alloc ?_ _)); refine blk_put (cs := #[.int .u8 0, .slice none 0 0]) ?_ 1 _ rfl; (with_reducible repeat (first | refine blk_drewN ?_ _ | refine blk_drew ?_ | refine blk_alloc ?_ _)); refine blk_put (cs := #[.int .u8 0, .slice none 0 0]) ?_ 0 _ rfl; (with_reducible repeat (first | refine blk_drewN ?_ _ | refine blk_drew ?_ | refine blk_alloc ?_ _)); exact BK.out) Try.underlying30 rfl (by kernel_rfl)) rfl ?_
  exact ⟨_, rfl, Kd.R_nil _ _ _ _ _, (by repeat (first | (with_reducible first | exact HB.out | apply below_alloc | apply pw_below_drewN | apply below_drew1 | refine below_set ?_ GE.out) | exact HB.out))⟩

set_option maxHeartbeats 2000000 in
set_option maxRecDepth 100000 in
theorem sums (A0 : Option Addr) (c0 : Nat) (l0 : List Int) (w : World) (hr0 : Kd.C (Kd.int .u8) w A0 l0.length l0) (hc0 : l0.length ≤ c0) (hk : rd l0 0 = 203) (h6 : 6 ≤ l0.length) (hby : Crc.IsBytes l0) (hm : l0.length ≤ 140737488355328) (hw : word4 (l0.drop 2) ≤ 1048576) (hs : word4 (l0.drop 2) + 10 ≤ (l0.length : Int)) (hcmp : (word4 (l0.drop ((word4 (l0.drop 2)).toNat + 6)) != Sum.all [l0.take ((word4 (l0.drop 2)).toNat + 6)]) = true) :
    Calls Try.prog 15 #[.slice A0 l0.length c0] w fun e w' => ∃ v1_ : Value, e = .returned (.tuple #[.agg #[.int .u8 0, v1_], .int .i64 0, .int .i64 81]) ∧ Kd.R (Kd.int .u8) 5 w' w.heap.size (fun _ => True) v1_ [] ∧ Below w.heap.size w w' := by
  have p0 : 0 ≤ (0 : Int) := by omega
  have q0 : 0 < (l0.length : Int) := by omega
  have i0 : (0 < l0.length) = True := eq_true (by omega)
  have z0 : ((l0.length : Int) == 0) = false := beq_eq_false_iff_ne.2 (by omega)
  have z1 : ((l0.length : Int) != 0) = true := bne_iff_ne.2 (by omega)
  have z2 : ¬ l0 = [] := fun h => by rw [h] at q0; simp at q0
  have k0 : (rd l0 0 == 203) = true := beq_iff_eq.2 hk
  have k1 : (rd l0 0 != 203) = false := bne_eq_false_iff_eq.2 hk
  clear hk
  have s0 : decide ((l0.length : Int) < 6) = false := decide_eq_false (by omega)
  have s1 : decide (l0.length < 6) = false := decide_eq_false (by omega)
  have HBY := Aside0.mk (show Crc.IsBytes (l0.drop 2) from fun x hx => hby x (List.mem_of_mem_drop hx))
  have HL4 := Aside0.mk (show 4 ≤ (l0.drop 2).length by rw [List.length_drop]; omega)
  obtain ⟨n, hn⟩ : ∃ n, n = word4 (l0.drop 2) := ⟨_, rfl⟩
  rw [← hn] at hw hs hcmp
  have hnr := Word.word4_range HBY.out
  rw [← hn] at hnr
  obtain ⟨hn0, hn1⟩ := hnr
  have HN := Aside0.mk hn
  clear hn
  obtain ⟨i00, hi0, _, hsz, _⟩ := info_parts Clone.info5
  obtain ⟨ad0, e00, _⟩ := Kd.at_int hr0 0 p0 q0
  cases e00
  obtain ⟨A2, hA2⟩ : ∃ A2, A2 = (if c0 = 2 then some ad0 else (some ad0).map (·.add (2 * 1))) := ⟨_, rfl⟩
  have hC2 := Kd.C_drop (m := 2) hr0 (by omega) hc0
  have cut2 := cut_from (P := Try.prog) 24 5 .i64 Try.underlying24 hi0 1 hsz (some ad0) l0.length c0 2 (by omega) (by omega)
  simp only [show ((2 : Int)).toNat = 2 from rfl] at cut2
  rw [← hA2] at cut2
  rw [show (Kd.int .u8).sz = 1 from rfl, ← hA2] at hC2
  have hl2 : l0.length - 2 = (l0.drop 2).length := by rw [List.length_drop]
  rw [hl2] at cut2
  obtain ⟨d2, hd2⟩ : ∃ d2, d2 = l0.drop 2 := ⟨_, rfl⟩
  rw [← hd2] at cut2 hC2 HBY HL4 HN
  have HC2 := Aside0.mk hC2
  clear hC2 hA2 hl2 hd2
  obtain ⟨mm, rfl⟩ : ∃ mm : Nat, n = (mm : Int) := ⟨n.toNat, by omega⟩
  rw [Int.toNat_natCast] at hcmp
  have hm6 : ((mm : Int) + 6).toNat = mm + 6 := by omega
  have hwr : IntKind.i64.wrap ((mm : Int) + 10 - 4) = (mm : Int) + 6 := by rw [IntKind.wrap_i64]; omega
  obtain ⟨AD, hAD⟩ : ∃ AD, AD = (if c0 = mm + 6 then some ad0 else (some ad0).map (·.add ((mm + 6) * 1))) := ⟨_, rfl⟩
  have hCD := Kd.C_drop (m := mm + 6) hr0 (by omega) hc0
  have cutD := cut_from (P := Try.prog) 24 5 .i64 Try.underlying24 hi0 1 hsz (some ad0) l0.length c0 ((mm : Int) + 6) (by omega) (by omega)
  rw [hm6, ← hAD] at cutD
  rw [show (Kd.int .u8).sz = 1 from rfl, ← hAD] at hCD
  have cutT := cut_to (P := Try.prog) 24 5 .i64 Try.underlying24 hi0 (some ad0) l0.length c0 ((mm : Int) + 6) (by omega) (by omega) hc0
  rw [hm6] at cutT
  have hCT := Kd.C_take (m := mm + 6) hr0 (by omega)
  have hlD : l0.length - (mm + 6) = (l0.drop (mm + 6)).length := by rw [List.length_drop]
  have hlT : mm + 6 = (l0.take (mm + 6)).length := by rw [List.length_take]; omega
  rw [hlD] at cutD
  have hlT2 : (l0.take (mm + 6)).length ≤ c0 := by rw [List.length_take]; omega
  have hbD : Crc.IsBytes (l0.drop (mm + 6)) := fun x hx => hby x (List.mem_of_mem_drop hx)
  have h4D : 4 ≤ (l0.drop (mm + 6)).length := by rw [List.length_drop]; omega
  have hlT3 : (l0.take (mm + 6)).length ≤ 4611686018427387904 := by rw [List.length_take]; omega
  obtain ⟨dD, hdD⟩ : ∃ d, d = l0.drop (mm + 6) := ⟨_, rfl⟩
  obtain ⟨tT, htT⟩ : ∃ d, d = l0.take (mm + 6) := ⟨_, rfl⟩
  rw [← hdD] at cutD hCD hbD h4D hcmp
  rw [← htT] at hCT hlT2 hlT hlT3 hcmp
  rw [hlT] at cutT
  have HCD := Aside0.mk hCD
  have HCT := Aside0.mk hCT
  have HLT := Aside0.mk hlT
  have HLT2 := Aside0.mk hlT2
  have HLT3 := Aside0.mk hlT3
  have HBD := Aside0.mk hbD
  have H4D := Aside0.mk h4D
  have HTT := Aside0.mk htT
  clear hCD hCT hlT hlT2 hlT3 hbD h4D hdD htT hlD hAD hm6
  obtain ⟨vD, hvD⟩ : ∃ v, v = word4 dD := ⟨_, rfl⟩
  obtain ⟨vT, hvT⟩ : ∃ v, v = Sum.all [tT] := ⟨_, rfl⟩
  rw [← hvD, ← hvT] at hcmp
  have HONE := Aside0.mk (show [tT].length ≤ 4611686018427387904 by rw [List.length_singleton]; omega)
  have HVD := Aside0.mk hvD
  have HVT := Aside0.mk hvT
  clear hvD hvT
  have HR0 := Aside0.mk hr0
  clear hr0 hby hm
  go_enter Try.func15, Try.ntmps15
  go_upto_region 13 with (first | ((with_reducible refine gate_dst (N := 2) rfl ?_); refine box_event ?hg (N := 2) ?hd (cs := #[.int .u8 0, .slice none 0 0]) (t := 30) ?hr ?_; (case hd => rfl); (case hg => rfl); (case hr => first | (go_simp; done) | (go_simp; rfl)); intro g hg w1 hbox hb; have HB := Aside0.mk hb; have BK := Aside0.mk hbox; have GE := Aside0.mk (show w.heap.size ≤ g by rw [hg]; exact Nat.le_refl _); have HR1 := Aside0.mk (Kd.C_below HR0.out hb); clear hg hb hbox; have hcz0 : w1.cell? ⟨g, 0, none⟩ = some (.int .u8 0) := (blk_cell BK.out 0).trans rfl; have hcz1 : w1.cell? ⟨g, 1, none⟩ = some (.slice none 0 0) := (blk_cell BK.out 1).trans rfl; have hfz0 := blk_frozen BK.out 0; have hfz1 := blk_frozen BK.out 1; obtain ⟨ad0_, e0, hx0⟩ := Kd.at_int HR1.out 0 p0 q0; cases e0; rw [show ((0 : Int)).toNat = 0 from rfl, Addr.add_zero'] at hx0) | (go_at_call 21; refine (Word.calls _ _ d2 _ ?s0 HBY.out ?s4).mono ?_; (case s4 => exact HL4.out); (case s0 => exact Kd.C_below HC2.out (by exact HB.out)); rintro e w2 ⟨rfl, ⟨nd, rfl⟩⟩; rw [← HN.out]))
  go_cut [39] (fun v39 wc => v39 = .bool true ∧ Aside0 (Below w1.heap.size w1 wc))
  case first =>
    go_region_with (first | (go_at_call 21; refine (Word.calls _ _ dD _ (by (repeat (first | exact HCD.out | (with_reducible refine Kd.C_alloc ?_ _) | (with_reducible refine Kd.C_drewN ?_ _) | (with_reducible refine Kd.C_drew ?_) | (refine Kd.C_below ?_ (by first | exact HB.out | assumption))))) HBD.out H4D.out).mono ?_; rintro e w3 ⟨rfl, ⟨nd3, rfl⟩⟩; rw [← HVD.out]) | (go_at_call 9; (refine Calls.mono (Sum.calls _ _ [tT] _ (Mem.piece_C (by first | exact World.cell?_alloc_at _ _ _ _ (by simp) | (go_simp; done) | (simp; done)) HLT2.out (by (repeat (first | exact HCT.out | (with_reducible refine Kd.C_alloc ?_ _) | (with_reducible refine Kd.C_drewN ?_ _) | (with_reducible refine Kd.C_drew ?_) | (refine Kd.C_below ?_ (by first | exact HB.out | assumption)))))) (Nat.le_refl _) HONE.out (fun b hb => by rw [List.mem_singleton.1 hb]; exact HLT3.out)) ?_); rintro e w4 ⟨rfl, hb4⟩; rw [← HVT.out]))
    all_goals
      go_wp2
      go_meet
      case rel => exact ⟨by first | rfl | (simp; done) | (simp [hcmp]; done), ⟨by repeat (first | exact Below.refl _ _ | apply below_alloc | apply pw_below_drewN | apply below_drew1 | (refine below_step ?_ (by assumption)))⟩⟩
  case rest =>
    obtain ⟨rfl, HB2⟩ := hcut
    have BKc := Aside0.mk (blk_below BK.out HB2.out)
    have HBc := Aside0.mk (below_step HB.out HB2.out)
    have HR1c := Aside0.mk (Kd.C_below HR1.out HB2.out)
    clear BK HB HR1 HB2 hcz0 hcz1 hfz0 hfz1 hx0
    have BK := BKc
    have HB := HBc
    have HR1 := HR1c
    clear BKc HBc HR1c
    have hcz0 : wc.cell? ⟨g, 0, none⟩ = some (.int .u8 0) := (blk_cell BK.out 0).trans rfl
    have hcz1 : wc.cell? ⟨g, 1, none⟩ = some (.slice none 0 0) := (blk_cell BK.out 1).trans rfl
    have hfz0 := blk_frozen BK.out 0
    have hfz1 := blk_frozen BK.out 1
    go_wp2
    refine bodyPost_ret (results_ctt rfl _ _ g 30 #[.int .u8 0, .slice none 0 0] (0, 0) _ rfl (by (with_reducible repeat (first | refine blk_drewN ?_ _ | refine blk_drew ?_ | refine blk_alloc ?_ _)); refine blk_put (cs := #[.int .u8 0, .slice none 0 0]) ?_ 1 _ rfl; (with_reducible repeat (first | refine blk_drewN ?_ _ | refine blk_drew ?_ | refine blk_alloc ?_ _)); refine blk_put (cs := #[.int .u8 0, .slice none 0 0]) ?_ 0 _ rfl; (with_reducible repeat (first | refine blk_drewN ?_ _ | refine blk_drew ?_ | refine blk_alloc ?_ _)); exact BK.out) Try.underlying30 rfl (by kernel_rfl)) rfl ?_
    exact ⟨_, rfl, Kd.R_nil _ _ _ _ _, (by repeat (first | (with_reducible first | exact HB.out | apply below_alloc | apply pw_below_drewN | apply below_drew1 | refine below_set ?_ GE.out) | exact HB.out))⟩

set_option maxHeartbeats 2000000 in
set_option maxRecDepth 100000 in
theorem good (A0 : Option Addr) (c0 : Nat) (l0 : List Int) (w : World) (hr0 : Kd.C (Kd.int .u8) w A0 l0.length l0) (hc0 : l0.length ≤ c0) (hk : rd l0 0 = 203) (h6 : 6 ≤ l0.length) (hby : Crc.IsBytes l0) (hm : l0.length ≤ 140737488355328) (hw : word4 (l0.drop 2) ≤ 1048576) (hs : word4 (l0.drop 2) + 10 ≤ (l0.length : Int)) (hcmp : (word4 (l0.drop ((word4 (l0.drop 2)).toNat + 6)) != Sum.all [l0.take ((word4 (l0.drop 2)).toNat + 6)]) = false) :
    Calls Try.prog 15 #[.slice A0 l0.length c0] w fun e w' => ∃ v1_ : Value, e = .returned (.tuple #[.agg #[.int .u8 (rd l0 1), v1_], .int .i64 (word4 (l0.drop 2) + 10), .int .i64 0]) ∧ Kd.R (Kd.int .u8) 5 w' w.heap.size (fun _ => True) v1_ ((l0.take ((word4 (l0.drop 2)).toNat + 6)).drop 6) ∧ Below w.heap.size w w' := by
  have p0 : 0 ≤ (0 : Int) := by omega
  have q0 : 0 < (l0.length : Int) := by omega
  have i0 : (0 < l0.length) = True := eq_true (by omega)
  have z0 : ((l0.length : Int) == 0) = false := beq_eq_false_iff_ne.2 (by omega)
  have z1 : ((l0.length : Int) != 0) = true := bne_iff_ne.2 (by omega)
  have z2 : ¬ l0 = [] := fun h => by rw [h] at q0; simp at q0
  have k0 : (rd l0 0 == 203) = true := beq_iff_eq.2 hk
  have k1 : (rd l0 0 != 203) = false := bne_eq_false_iff_eq.2 hk
  clear hk
  have s0 : decide ((l0.length : Int) < 6) = false := decide_eq_false (by omega)
  have s1 : decide (l0.length < 6) = false := decide_eq_false (by omega)
  have HBY := Aside0.mk (show Crc.IsBytes (l0.drop 2) from fun x hx => hby x (List.mem_of_mem_drop hx))
  have HL4 := Aside0.mk (show 4 ≤ (l0.drop 2).length by rw [List.length_drop]; omega)
  obtain ⟨n, hn⟩ : ∃ n, n = word4 (l0.drop 2) := ⟨_, rfl⟩
  rw [← hn] at hw hs hcmp ⊢
  have hnr := Word.word4_range HBY.out
  rw [← hn] at hnr
  obtain ⟨hn0, hn1⟩ := hnr
  have HN := Aside0.mk hn
  clear hn
  obtain ⟨i00, hi0, _, hsz, _⟩ := info_parts Clone.info5
  obtain ⟨ad0, e00, _⟩ := Kd.at_int hr0 0 p0 q0
  cases e00
  obtain ⟨A2, hA2⟩ : ∃ A2, A2 = (if c0 = 2 then some ad0 else (some ad0).map (·.add (2 * 1))) := ⟨_, rfl⟩
  have hC2 := Kd.C_drop (m := 2) hr0 (by omega) hc0
  have cut2 := cut_from (P := Try.prog) 24 5 .i64 Try.underlying24 hi0 1 hsz (some ad0) l0.length c0 2 (by omega) (by omega)
  simp only [show ((2 : Int)).toNat = 2 from rfl] at cut2
  rw [← hA2] at cut2
  rw [show (Kd.int .u8).sz = 1 from rfl, ← hA2] at hC2
  have hl2 : l0.length - 2 = (l0.drop 2).length := by rw [List.length_drop]
  rw [hl2] at cut2
  obtain ⟨d2, hd2⟩ : ∃ d2, d2 = l0.drop 2 := ⟨_, rfl⟩
  rw [← hd2] at cut2 hC2 HBY HL4 HN
  have HC2 := Aside0.mk hC2
  clear hC2 hA2 hl2 hd2
  obtain ⟨mm, rfl⟩ : ∃ mm : Nat, n = (mm : Int) := ⟨n.toNat, by omega⟩
  rw [Int.toNat_natCast] at hcmp ⊢
  have hm6 : ((mm : Int) + 6).toNat = mm + 6 := by omega
  have hwr : IntKind.i64.wrap ((mm : Int) + 10 - 4) = (mm : Int) + 6 := by rw [IntKind.wrap_i64]; omega
  obtain ⟨AD, hAD⟩ : ∃ AD, AD = (if c0 = mm + 6 then some ad0 else (some ad0).map (·.add ((mm + 6) * 1))) := ⟨_, rfl⟩
  have hCD := Kd.C_drop (m := mm + 6) hr0 (by omega) hc0
  have cutD := cut_from (P := Try.prog) 24 5 .i64 Try.underlying24 hi0 1 hsz (some ad0) l0.length c0 ((mm : Int) + 6) (by omega) (by omega)
  rw [hm6, ← hAD] at cutD
  rw [show (Kd.int .u8).sz = 1 from rfl, ← hAD] at hCD
  have cutT := cut_to (P := Try.prog) 24 5 .i64 Try.underlying24 hi0 (some ad0) l0.length c0 ((mm : Int) + 6) (by omega) (by omega) hc0
  rw [hm6] at cutT
  have hCT := Kd.C_take (m := mm + 6) hr0 (by omega)
  have hlD : l0.length - (mm + 6) = (l0.drop (mm + 6)).length := by rw [List.length_drop]
  have hlT : mm + 6 = (l0.take (mm + 6)).length := by rw [List.length_take]; omega
  rw [hlD] at cutD
  have hlT2 : (l0.take (mm + 6)).length ≤ c0 := by rw [List.length_take]; omega
  have hbD : Crc.IsBytes (l0.drop (mm + 6)) := fun x hx => hby x (List.mem_of_mem_drop hx)
  have h4D : 4 ≤ (l0.drop (mm + 6)).length := by rw [List.length_drop]; omega
  have hlT3 : (l0.take (mm + 6)).length ≤ 4611686018427387904 := by rw [List.length_take]; omega
  obtain ⟨dD, hdD⟩ : ∃ d, d = l0.drop (mm + 6) := ⟨_, rfl⟩
  obtain ⟨tT, htT⟩ : ∃ d, d = l0.take (mm + 6) := ⟨_, rfl⟩
  rw [← hdD] at cutD hCD hbD h4D hcmp
  rw [← htT] at hCT hlT2 hlT hlT3 hcmp
  rw [hlT] at cutT
  have HCD := Aside0.mk hCD
  have HCT := Aside0.mk hCT
  have HLT := Aside0.mk hlT
  have HLT2 := Aside0.mk hlT2
  have HLT3 := Aside0.mk hlT3
  have HBD := Aside0.mk hbD
  have H4D := Aside0.mk h4D
  have HTT := Aside0.mk htT
  clear hCD hCT hlT hlT2 hlT3 hbD h4D hdD htT hlD hAD hm6
  obtain ⟨vD, hvD⟩ : ∃ v, v = word4 dD := ⟨_, rfl⟩
  obtain ⟨vT, hvT⟩ : ∃ v, v = Sum.all [tT] := ⟨_, rfl⟩
  rw [← hvD, ← hvT] at hcmp
  have HONE := Aside0.mk (show [tT].length ≤ 4611686018427387904 by rw [List.length_singleton]; omega)
  have HVD := Aside0.mk hvD
  have HVT := Aside0.mk hvT
  clear hvD hvT
  obtain ⟨AM, hAM⟩ : ∃ AM, AM = (if c0 = 6 then some ad0 else (some ad0).map (·.add (6 * 1))) := ⟨_, rfl⟩
  have hCM := Kd.C_mid (lo := 6) (hi := mm + 6) hr0 (by omega) (by omega) hc0
  have cutM := cut_mid (P := Try.prog) 24 5 .i64 .i64 Try.underlying24 hi0 1 hsz (some ad0) l0.length c0 6 ((mm : Int) + 6) (by omega) (by omega) (by omega) hc0
  simp only [show ((6 : Int)).toNat = 6 from rfl] at cutM
  rw [show ((mm : Int) + 6).toNat = mm + 6 from by omega, ← hAM] at cutM
  rw [show (Kd.int .u8).sz = 1 from rfl, ← hAM] at hCM
  have hlM : mm + 6 - 6 = ((l0.take (mm + 6)).drop 6).length := by rw [List.length_drop, List.length_take]; omega
  rw [hlM] at cutM
  have hcM : ((l0.take (mm + 6)).drop 6).length ≤ c0 - 6 := by rw [← hlM]; omega
  have hmM : ((l0.take (mm + 6)).drop 6).length ≤ 140737488355328 := by rw [← hlM]; omega
  obtain ⟨bM, hbM⟩ : ∃ b, b = (l0.take (mm + 6)).drop 6 := ⟨_, rfl⟩
  rw [← hbM] at cutM hCM hcM hmM ⊢
  have HCM := Aside0.mk hCM
  have HCM2 := Aside0.mk hcM
  have HMM := Aside0.mk hmM
  clear hCM hcM hmM hbM hlM hAM
  have p1 : 0 ≤ (1 : Int) := by omega
  have q1 : 1 < (l0.length : Int) := by omega
  have i1 : (1 < l0.length) = True := eq_true (by omega)
  have HR0 := Aside0.mk hr0
  clear hr0 hby hm
  go_enter Try.func15, Try.ntmps15
  go_upto_region 13 with (first | ((with_reducible refine gate_dst (N := 2) rfl ?_); refine box_event ?hg (N := 2) ?hd (cs := #[.int .u8 0, .slice none 0 0]) (t := 30) ?hr ?_; (case hd => rfl); (case hg => rfl); (case hr => first | (go_simp; done) | (go_simp; rfl)); intro g hg w1 hbox hb; have HB := Aside0.mk hb; have BK := Aside0.mk hbox; have GE := Aside0.mk (show w.heap.size ≤ g by rw [hg]; exact Nat.le_refl _); have HR1 := Aside0.mk (Kd.C_below HR0.out hb); clear hg hb hbox; have hcz0 : w1.cell? ⟨g, 0, none⟩ = some (.int .u8 0) := (blk_cell BK.out 0).trans rfl; have hcz1 : w1.cell? ⟨g, 1, none⟩ = some (.slice none 0 0) := (blk_cell BK.out 1).trans rfl; have hfz0 := blk_frozen BK.out 0; have hfz1 := blk_frozen BK.out 1; obtain ⟨ad0_, e0, hx0⟩ := Kd.at_int HR1.out 0 p0 q0; cases e0; rw [show ((0 : Int)).toNat = 0 from rfl, Addr.add_zero'] at hx0) | (go_at_call 21; refine (Word.calls _ _ d2 _ ?s0 HBY.out ?s4).mono ?_; (case s4 => exact HL4.out); (case s0 => exact Kd.C_below HC2.out (by exact HB.out)); rintro e w2 ⟨rfl, ⟨nd, rfl⟩⟩; rw [← HN.out]))
  go_cut [39] (fun v39 wc => v39 = .bool false ∧ Aside0 (Below w1.heap.size w1 wc))
  case first =>
    go_region_with (first | (go_at_call 21; refine (Word.calls _ _ dD _ (by (repeat (first | exact HCD.out | (with_reducible refine Kd.C_alloc ?_ _) | (with_reducible refine Kd.C_drewN ?_ _) | (with_reducible refine Kd.C_drew ?_) | (refine Kd.C_below ?_ (by first | exact HB.out | assumption))))) HBD.out H4D.out).mono ?_; rintro e w3 ⟨rfl, ⟨nd3, rfl⟩⟩; rw [← HVD.out]) | (go_at_call 9; (refine Calls.mono (Sum.calls _ _ [tT] _ (Mem.piece_C (by first | exact World.cell?_alloc_at _ _ _ _ (by simp) | (go_simp; done) | (simp; done)) HLT2.out (by (repeat (first | exact HCT.out | (with_reducible refine Kd.C_alloc ?_ _) | (with_reducible refine Kd.C_drewN ?_ _) | (with_reducible refine Kd.C_drew ?_) | (refine Kd.C_below ?_ (by first | exact HB.out | assumption)))))) (Nat.le_refl _) HONE.out (fun b hb => by rw [List.mem_singleton.1 hb]; exact HLT3.out)) ?_); rintro e w4 ⟨rfl, hb4⟩; rw [← HVT.out]))
    all_goals
      go_wp2
      go_meet
      case rel => exact ⟨by first | rfl | (simp; done) | (simp [hcmp]; done), ⟨by repeat (first | exact Below.refl _ _ | apply below_alloc | apply pw_below_drewN | apply below_drew1 | (refine below_step ?_ (by assumption)))⟩⟩
  case rest =>
    obtain ⟨rfl, HB2⟩ := hcut
    have BKc := Aside0.mk (blk_below BK.out HB2.out)
    have HBc := Aside0.mk (below_step HB.out HB2.out)
    have HR1c := Aside0.mk (Kd.C_below HR1.out HB2.out)
    clear BK HB HR1 HB2 hcz0 hcz1 hfz0 hfz1 hx0
    have BK := BKc
    have HB := HBc
    have HR1 := HR1c
    clear BKc HBc HR1c
    have hcz0 : wc.cell? ⟨g, 0, none⟩ = some (.int .u8 0) := (blk_cell BK.out 0).trans rfl
    have hcz1 : wc.cell? ⟨g, 1, none⟩ = some (.slice none 0 0) := (blk_cell BK.out 1).trans rfl
    have hfz0 := blk_frozen BK.out 0
    have hfz1 := blk_frozen BK.out 1
    obtain ⟨ad1, e1, hx1⟩ := Kd.at_int HR1.out 1 p1 q1
    obtain rfl : ad0 = ad1 := by injection e1
    simp only [show (1 : Int).toNat = 1 from rfl, Nat.reduceEqDiff, Go.Addr.add, ↓reduceIte] at hx1
    clear cutD cutT cut2 HCD HCT HC2 hcmp
    go_wp2
    go_region_with (first | (go_at_call 22; (refine Calls.mono (Clone.calls _ _ bM _ (by (repeat (first | exact HCM.out | (with_reducible refine Kd.C_alloc ?_ _) | (with_reducible refine Kd.C_drewN ?_ _) | (with_reducible refine Kd.C_drew ?_) | (refine Kd.C_below ?_ (by first | exact HB.out | assumption))))) HCM2.out HMM.out) ?_); rintro e w5 ⟨v5, rfl, hR5, hb5⟩; obtain ⟨Av, cv, rfl⟩ := Kd.R_slice hR5; have hbW : Below wc.heap.size wc w5 := (by first | exact hb5 | exact below_step (pw_below_drewN (Below.refl _ _) _) hb5); have BK5 := Aside0.mk (blk_below BK.out hbW); have HB5 := Aside0.mk (below_step HB.out hbW); have HR5 := Aside0.mk (Kd.R_lower hR5 (show w.heap.size ≤ _ from HB.out.size)); have hx5 := (hbW.cell (World.block_lt_of_cell? wc _ hx1)).trans hx1; have hcy0 : w5.cell? ⟨g, 0, none⟩ = some (.int .u8 0) := (blk_cell BK5.out 0).trans rfl; have hcy1 : w5.cell? ⟨g, 1, none⟩ = some (.slice none 0 0) := (blk_cell BK5.out 1).trans rfl; have hfy0 := blk_frozen BK5.out 0; have hfy1 := blk_frozen BK5.out 1; clear hR5 hb5 hbW))
    all_goals
      go_wp2
      refine bodyPost_ret (results_ctt rfl _ _ g 30 #[.int .u8 (rd l0 1), .slice Av bM.length cv] (0, 0) _ rfl (by (with_reducible repeat (first | refine blk_drewN ?_ _ | refine blk_drew ?_ | refine blk_alloc ?_ _)); refine blk_put (cs := #[.int .u8 (rd l0 1), .slice none 0 0]) ?_ 1 _ rfl; (with_reducible repeat (first | refine blk_drewN ?_ _ | refine blk_drew ?_ | refine blk_alloc ?_ _)); refine blk_put (cs := #[.int .u8 0, .slice none 0 0]) ?_ 0 _ rfl; (with_reducible repeat (first | refine blk_drewN ?_ _ | refine blk_drew ?_ | refine blk_alloc ?_ _)); exact BK5.out) Try.underlying30 rfl (by kernel_rfl)) rfl ?_
      exact ⟨_, by first | rfl | (simp; done), by (with_reducible repeat (first | apply Kd.R_alloc | apply Kd.R_drewN | apply Kd.R_drew)); exact Kd.R_mono (Kd.R_far (p := ⟨g, 1, none⟩) (Kd.R_far (p := ⟨g, 0, none⟩) (Kd.R_types HR5.out BK5.out (by decide)) (fun _ hk => hk.2) (.int .u8 (rd l0 1))) (fun _ hk => hk.2) (.slice Av bM.length cv)) (fun _ hk => trivial), by repeat (first | (with_reducible first | exact HB5.out | apply below_alloc | apply pw_below_drewN | apply below_drew1 | refine below_set ?_ GE.out) | exact HB5.out)⟩

/-- The block with which bytes begin: kind, body, how many bytes, the error. -/
def tk (l : List Int) : Int × List Int × Int × Int :=
  if l.length = 0 then (0, [], 0, 20) else if ¬ rd l 0 = 203 then (0, [], 0, 80) else if l.length < 6 then (0, [], 0, 20) else if 1048576 < word4 (l.drop 2) then (0, [], 0, 82) else
  if (l.length : Int) < word4 (l.drop 2) + 10 then (0, [], 0, 20) else
  if (word4 (l.drop ((word4 (l.drop 2)).toNat + 6)) != Sum.all [l.take ((word4 (l.drop 2)).toNat + 6)]) = true then (0, [], 0, 81) else
  (rd l 1, (l.take ((word4 (l.drop 2)).toNat + 6)).drop 6, word4 (l.drop 2) + 10, 0)

theorem calls (A0 : Option Addr) (c0 : Nat) (l0 : List Int) (r1 : Int) (r2 : List Int) (r3 r4 : Int) (w : World) (hr0 : Kd.C (Kd.int .u8) w A0 l0.length l0) (hc0 : l0.length ≤ c0) (hby : Crc.IsBytes l0) (hm : l0.length ≤ 140737488355328) (h : tk l0 = (r1, r2, r3, r4)) :
    Calls Try.prog 15 #[.slice A0 l0.length c0] w fun e w' => ∃ v1_ : Value, e = .returned (.tuple #[.agg #[.int .u8 r1, v1_], .int .i64 r3, .int .i64 r4]) ∧ Kd.R (Kd.int .u8) 5 w' w.heap.size (fun _ => True) v1_ r2 ∧ Below w.heap.size w w' := by
  unfold tk at h
  by_cases c1 : l0.length = 0
  · rw [if_pos c1] at h
    obtain ⟨rfl, rfl, rfl, rfl⟩ : 0 = r1 ∧ [] = r2 ∧ 0 = r3 ∧ 20 = r4 := by simpa using h
    exact empty A0 c0 l0 w hr0 hc0 c1
  rw [if_neg c1] at h
  by_cases c2 : rd l0 0 = 203
  · rw [if_neg (by simp [c2])] at h
    by_cases c3 : l0.length < 6
    · rw [if_pos c3] at h
      obtain ⟨rfl, rfl, rfl, rfl⟩ : 0 = r1 ∧ [] = r2 ∧ 0 = r3 ∧ 20 = r4 := by simpa using h
      exact short A0 c0 l0 w hr0 hc0 (by omega) c2 c3
    rw [if_neg c3] at h
    by_cases c4 : 1048576 < word4 (l0.drop 2)
    · rw [if_pos c4] at h
      obtain ⟨rfl, rfl, rfl, rfl⟩ : 0 = r1 ∧ [] = r2 ∧ 0 = r3 ∧ 82 = r4 := by simpa using h
      exact long A0 c0 l0 w hr0 hc0 c2 (by omega) hby c4
    rw [if_neg c4] at h
    by_cases c5 : (l0.length : Int) < word4 (l0.drop 2) + 10
    · rw [if_pos c5] at h
      obtain ⟨rfl, rfl, rfl, rfl⟩ : 0 = r1 ∧ [] = r2 ∧ 0 = r3 ∧ 20 = r4 := by simpa using h
      exact behind A0 c0 l0 w hr0 hc0 c2 (by omega) hby (by omega) c5
    rw [if_neg c5] at h
    by_cases c6 : (word4 (l0.drop ((word4 (l0.drop 2)).toNat + 6)) != Sum.all [l0.take ((word4 (l0.drop 2)).toNat + 6)]) = true
    · rw [if_pos c6] at h
      obtain ⟨rfl, rfl, rfl, rfl⟩ : 0 = r1 ∧ [] = r2 ∧ 0 = r3 ∧ 81 = r4 := by simpa using h
      exact sums A0 c0 l0 w hr0 hc0 c2 (by omega) hby hm (by omega) (by omega) c6
    · rw [if_neg c6] at h
      simp only [Prod.mk.injEq] at h
      obtain ⟨rfl, rfl, rfl, rfl⟩ := h
      exact good A0 c0 l0 w hr0 hc0 c2 (by omega) hby hm (by omega) (by omega) (by simpa using c6)
  · rw [if_pos c2] at h
    obtain ⟨rfl, rfl, rfl, rfl⟩ : 0 = r1 ∧ [] = r2 ∧ 0 = r3 ∧ 80 = r4 := by simpa using h
    exact magic A0 c0 l0 w hr0 hc0 (by omega) c2
end Go.Proofs.Ytgonodfggiablaa.Take
