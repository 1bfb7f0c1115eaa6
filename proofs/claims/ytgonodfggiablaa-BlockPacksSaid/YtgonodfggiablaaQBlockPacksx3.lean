/- Walks of the functions that a law reaches, written by a program of this session: each function's call comes to what the Lean function of its name answers; the conditions stand in each theorem. -/
import Derived.Test.YtgonodfggiablaaQBlockPacksx0
import Derived.Test.YtgonodfggiablaaQBlockPacksx1
import Derived.Test.YtgonodfggiablaaQBlockPacksx2
namespace Go.Proofs.Ytgonodfggiablaa.QBlockPacks
open Go.RowKit Go.Proofs.YtgonodfggiablaaW.PrintWords Go.Proofs.YtgonodfggiablaaW.PrintLast Go.Proofs.YtgonodfggiablaaW.PrintMore
attribute [local go_sem] max2_int min2_int max_two min_two max_three min_three max_four min_four   -- for this text's walks alone
set_option linter.unusedVariables false
set_option linter.unusedSimpArgs false

/-! ### cobweblaw08_awake: function 8 -/
theorem awake_pack : block_Pack.f 3 [⟨7, [97]⟩] = some ([203, 7, 0, 0, 0, 1, 97, 109, 221, 68, 56], 0) := by decide +kernel
theorem awake_sum : block_Sum.f [[49, 50, 51, 52], [53, 54, 55, 56, 57]] = some 3421780262 := by decide +kernel
theorem awake_text : (strOfNums [203, 7, 0, 0, 0, 1, 97]).toList = [203, 7, 0, 0, 0, 1, 97] := by decide +kernel
set_option maxHeartbeats 1000000 in
set_option maxRecDepth 100000 in
theorem awake_any (w : World) : Calls Try.prog 8 #[] w fun e w' => e = .returned (.bool true) ∧ Below w.heap.size w w' := by
  have kc := fun (w : World) (C : Array Value) (n c : Nat) => Lib.run_convert_bytes_const (P := Try.prog) w 24 5 C n c Try.underlying24 Try.underlying5
  have hc0 : ∀ o, ((w.alloc (.cells #[.int .u8 97] 5 (1, 2))).alloc o).cell? ⟨w.heap.size, 0, none⟩ = some (.int .u8 97) := fun o => by
    rw [World.cell?_alloc_past _ _ _ (by simp), World.cell?_alloc_mark]; rfl
  go_enter Try.func8, Try.ntmps8
  go_wp2_with fail
  refine (block_Pack.calls 3 _ _ [⟨7, [97]⟩] _ _ _ (Mem.row_at (by simp) ?c1) (Nat.le_refl _) awake_pack).mono ?_
  case c1 =>
    intro j p hj
    match j, hj with
    | 0, hj =>
      obtain rfl := Option.some.inj hj
      refine ⟨_, k30_mk _ _ (A1 := some ⟨w.heap.size, 0, none⟩) (c1 := 1) (Nat.le_refl _) (Mem.ints_at (by simp) ?_), ?_⟩
      · intro j x hj
        match j, hj with
        | 0, hj =>
          obtain rfl := Option.some.inj hj
          exact hc0 _
      · intro i u hi
        match i, hi with
        | 0, hi =>
          obtain rfl := Option.some.inj hi
          simp
        | 1, hi =>
          obtain rfl := Option.some.inj hi
          simp
  rintro e w1 ⟨v0, rfl, hR, hb⟩
  obtain ⟨Ab, cb, rfl⟩ := Kd.R_slice hR
  obtain ⟨_, hcap, hC⟩ := Kd.R_reads' hR
  have HC := Aside0.mk hC
  have HB := Aside0.mk (below_step (below_alloc (below_alloc (Below.refl w.heap.size w) _) _) hb)
  clear hC hR hb
  have kc2 := Joins.run_convert_bytes_const_at (P := Try.prog) (w1.alloc (.cells #[.int .u8 49, .int .u8 50, .int .u8 51, .int .u8 52] 5 (4, 5))) 24 5 #[.int .u8 53, .int .u8 54, .int .u8 55, .int .u8 56, .int .u8 57] 5 5 (w1.heap.size + 1) (by simp) Try.underlying24 Try.underlying5
  simp only [List.size_toArray, List.length_cons, List.length_nil, Nat.zero_add, Nat.reduceAdd] at kc2
  go_wp2_with fail
  refine (block_Sum.calls _ _ [[49, 50, 51, 52], [53, 54, 55, 56, 57]] _ _ (Mem.row_at (by simp) ?c2) (Nat.le_refl _) awake_sum).mono ?_
  case c2 =>
    intro j p hj
    match j, hj with
    | 0, hj =>
      obtain rfl := Option.some.inj hj
      refine ⟨_, ⟨some ⟨w1.heap.size, 0, none⟩, 4, rfl, Nat.le_refl _, Mem.ints_at (by simp) (fun j x hx => ?_)⟩, fun i u hi => ?_⟩
      · rw [World.cell?_alloc_past _ _ _ (by simp; omega), World.cell?_alloc_past _ _ _ (by simp), World.cell?_alloc_mark]
        match j, hx with
        | 0, hx | 1, hx | 2, hx | 3, hx => obtain rfl := Option.some.inj hx; rfl
      · match i, hi with
        | 0, hi => obtain rfl := Option.some.inj hi; rw [World.cell?_alloc_at _ _ _ _ (by simp)]; rfl
    | 1, hj =>
      obtain rfl := Option.some.inj hj
      refine ⟨_, ⟨some ⟨w1.heap.size + 1, 0, none⟩, 5, rfl, Nat.le_refl _, Mem.ints_at (by simp) (fun j x hx => ?_)⟩, fun i u hi => ?_⟩
      · rw [World.cell?_alloc_past _ _ _ (by simp), Joins.cell_alloc_mark_at _ _ _ _ _ _ (by simp)]
        match j, hx with
        | 0, hx | 1, hx | 2, hx | 3, hx | 4, hx => obtain rfl := Option.some.inj hx; rfl
      · match i, hi with
        | 0, hi => obtain rfl := Option.some.inj hi; rw [World.cell?_alloc_at _ _ _ _ (by simp)]; rfl
  rintro e w2 ⟨rfl, hb2⟩
  have HB2 := Aside0.mk (below_step (below_alloc (below_alloc (below_alloc HB.out _) _) _) hb2)
  have hC2 := Kd.C_below (Kd.C_alloc (Kd.C_alloc (Kd.C_alloc HC.out (.cells #[.int .u8 49, .int .u8 50, .int .u8 51, .int .u8 52] 5 (4, 5))) (.cells #[.int .u8 53, .int .u8 54, .int .u8 55, .int .u8 56, .int .u8 57] 5 (5, 6))) (.cells #[.slice (some ⟨w1.heap.size, 0, none⟩) 4 4, .slice (some ⟨w1.heap.size + 1, 0, none⟩) 5 5] 24)) hb2
  obtain ⟨i0, hi0, _, hsz, _⟩ := info_parts info5
  have hcut := cut_to (P := Try.prog) 24 5 .i64 Try.underlying24 hi0 Ab 11 cb 7 (by omega) (by omega) hcap
  have hcv := Kd.C_string (P := Try.prog) (c := cb) Try.underlying24 Try.underlying5 Try.underlying9 (Kd.C_take (m := 7) hC2 (by simp))
  simp only [List.take_succ_cons, List.take_zero, List.length_cons, List.length_nil, Nat.zero_add, Nat.reduceAdd] at hcv
  obtain ⟨tx, htx⟩ : ∃ tx, tx = strOfNums [203, 7, 0, 0, 0, 1, 97] := ⟨_, rfl⟩
  rw [← htx] at hcv
  have hte : tx.toList = [203, 7, 0, 0, 0, 1, 97] := by rw [htx]; exact awake_text
  clear htx hC2 hi0 hsz hb2 HB HC kc kc2 hc0
  go_wp2
  go_ret
  exact ⟨rfl, HB2.out⟩
def cobweblaw08_awake.f : Option (Bool) := some true
theorem cobweblaw08_awake.calls (r : Bool) (w : World) (h : cobweblaw08_awake.f = some r) : Calls Try.prog 8 #[] w fun e w' => e = .returned (.bool r) ∧ Below w.heap.size w w' := by
  obtain rfl := Option.some.inj h
  exact awake_any w

end Go.Proofs.Ytgonodfggiablaa.QBlockPacks
