/- Walks of the functions that a law reaches, written by a program of this session: each function's call comes to what the Lean function of its name answers; the conditions stand in each theorem. -/
import Derived.Test.YtgonodfggiablaaQBlockTakesx0
namespace Go.Proofs.Ytgonodfggiablaa.QBlockTakes
open Go.RowKit Go.Proofs.YtgonodfggiablaaW.PrintWords Go.Proofs.YtgonodfggiablaaW.PrintLast Go.Proofs.YtgonodfggiablaaW.PrintMore
attribute [local go_sem] max2_int min2_int max_two min_two max_three min_three max_four min_four   -- for this text's walks alone
set_option linter.unusedVariables false
set_option linter.unusedSimpArgs false

/-! ### block_Sum: function 9 -/
def block_Sum.f (l0 : List (List Int)) : Option (Int) := if l0.length ≤ 4611686018427387904 then (if l0.all (fun b => decide (b.length ≤ 4611686018427387904)) = true then (some (Sum.all l0)) else (none)) else (none)
theorem block_Sum.calls (A0 : Option Addr) (c0 : Nat) (l0 : List (List Int)) (r : Int) (w : World) (hr0 : Kd.C (Kd.slice 5 (Kd.int .u8)) w A0 l0.length l0) (hc0 : l0.length ≤ c0) (h : block_Sum.f l0 = some r) :
    Calls Try.prog 9 #[.slice A0 l0.length c0] w fun e w' => e = .returned (.int .u32 r) ∧ Below w.heap.size w w' := by
  unfold block_Sum.f at h
  split at h
  · rename_i h1
    split at h
    · rename_i h2
      obtain rfl := Option.some.inj h
      exact Sum.calls A0 c0 l0 w hr0 hc0 h1 (fun b hb => of_decide_eq_true (List.all_eq_true.1 h2 b hb))
    · cases h
  · cases h

/-! ### block_four: function 20 -/
def block_four.f (l0 : List Int) (a1 : Int) : Option (List Int) := (some (([(a1 / 16777216) % 256, (a1 / 65536) % 256, (a1 / 256) % 256, (a1) % 256] : List Int) : List Int)).bind fun y101 => (if l0.length + y101.length < 140737488355328 then (some (l0 ++ y101)) else (none))
set_option maxHeartbeats 8000000 in
set_option maxRecDepth 100000 in
theorem block_four.calls (P0_ : Nat → Prop) (u9000_ : Value) (l0 : List Int) (a1 : Int) (r : List Int) (w0 w : World) (hB : Below w0.heap.size w0 w) (ho0 : Kd.R (Kd.int .u8) 5 w w0.heap.size P0_ u9000_ l0) (h : block_four.f l0 a1 = some r) :
    Calls Try.prog 20 #[u9000_, .int .u32 a1] w fun e w' => ∃ v0_ : Value, e = .returned (v0_) ∧ Kd.R (Kd.int .u8) 5 w' w0.heap.size (fun k_ => (P0_ k_ ∨ w.heap.size ≤ k_)) v0_ r ∧ Below w0.heap.size w0 w' ∧ Kept w w' (fun k_ => P0_ k_) := by
  have HO0 := Aside0.mk (show Kd.R (Kd.int .u8) 5 w w0.heap.size (fun k_ => (P0_ k_ ∨ w.heap.size ≤ k_)) u9000_ l0 from Kd.R_mono ho0 (fun k_ hk => (.inl hk)))
  have HK := Aside0.mk (Kept.refl w (fun k_ => P0_ k_))
  have HW0 := Aside0.mk hB.size
  have HB := Aside0.mk hB
  clear hB
  have H : ((some (([(a1 / 16777216) % 256, (a1 / 65536) % 256, (a1 / 256) % 256, (a1) % 256] : List Int) : List Int)).bind fun y101 => (if l0.length + y101.length < 140737488355328 then (some (l0 ++ y101)) else (none))) = some r := h
  clear h
  obtain ⟨y101, hy101⟩ : ∃ y_ : List Int, y_ = (([(a1 / 16777216) % 256, (a1 / 65536) % 256, (a1 / 256) % 256, (a1) % 256] : List Int)) := ⟨_, rfl⟩
  replace H : (if l0.length + y101.length < 140737488355328 then (some (l0 ++ y101)) else (none)) = some r := by first | (rw [hy101]; with_reducible exact H) | (have H2_ := (Option.bind_some _ _).symm.trans H; rw [hy101]; with_reducible exact H2_) | (have H2_ := (Option.bind_some _ _).symm.trans H; with_reducible exact H2_) | with_reducible exact H | (rw [hy101]; exact H) | exact H
  have Ny101 := Aside0.mk hy101
  clear hy101
  by_cases c3 : l0.length + y101.length < 140737488355328
  · rw [if_pos c3] at H
    have LMc3 := Aside0.mk c3
    clear c3
    obtain ⟨y104, hy104⟩ : ∃ y_ : List Int, y_ = (l0 ++ y101) := ⟨_, rfl⟩
    replace H : (some y104) = some r := by first | (rw [hy104]; with_reducible exact H) | (have H2_ := (Option.bind_some _ _).symm.trans H; rw [hy104]; with_reducible exact H2_) | (have H2_ := (Option.bind_some _ _).symm.trans H; with_reducible exact H2_) | with_reducible exact H | (rw [hy104]; exact H) | exact H
    have Ny104 := Aside0.mk hy104
    clear hy104
    obtain rfl := Option.some.inj H
    go_enter Try.func20, Try.ntmps20
    go_wp2_with (first | ((with_reducible refine gate_dst (N := 17) rfl ?_); refine Kd.R_lit (Kd.int .u8) _ 5 ?hg (N := 17) ?hd (xs := ([(a1 / 16777216) % 256, (a1 / 65536) % 256, (a1 / 256) % 256, (a1) % 256] : List Int)) (inner := [.int .u8 ((a1 / 16777216) % 256), .int .u8 ((a1 / 65536) % 256), .int .u8 ((a1 / 256) % 256), .int .u8 ((a1) % 256)]) (ok := fun _ => True) (okp := fun _ => True) ?hr ?hp (fun _ hk => hk) trivial (Below.refl _ _) (Nat.le_refl _) (by simp) ?_; (case hd => rfl); (case hg => rfl); (case hr => first | (go_simp; done) | (go_simp; rfl)); (case hp => exact (Reps.one (show Kd.M (Kd.int .u8) _ _ _ ((a1 / 16777216) % 256) [.int .u8 ((a1 / 16777216) % 256)] from rfl) (Reps.one (show Kd.M (Kd.int .u8) _ _ _ ((a1 / 65536) % 256) [.int .u8 ((a1 / 65536) % 256)] from rfl) (Reps.one (show Kd.M (Kd.int .u8) _ _ _ ((a1 / 256) % 256) [.int .u8 ((a1 / 256) % 256)] from rfl) (Reps.one (show Kd.M (Kd.int .u8) _ _ _ ((a1) % 256) [.int .u8 ((a1) % 256)] from rfl) (Reps.none _ _)))))); intro v102 w4 ho5 hb hg_ hnew_; clear hg_ hnew_; (first | rw [← Ny101.out] at ho5 | (simp only [Int.reduceToNat] at ho5; rw [← Ny101.out] at ho5)); have n0_ := Aside0.mk (Kd.R_elder' (by (with_reducible repeat (first | apply Kd.R_alloc | apply Kd.R_drewN | apply Kd.R_drew)); exact HO0.out) (Kd.R_base ho5) hb); have n1_ := Aside0.mk (Kd.R_lower (Kd.R_new' (Kd.R_newM (M := fun k_ => (P0_ k_ ∨ w.heap.size ≤ k_)) ho5 (by first | exact HK.out.1 | exact (show Kept w _ (fun k_ => P0_ k_) from by repeat (first | (with_reducible first | exact HK.out | apply Kept.alloc | apply Kept.drewN | apply Kept.drew) | exact HK.out)).1) (fun k_ h_ => .inr h_)) (Kd.R_lt (by (with_reducible repeat (first | apply Kd.R_alloc | apply Kd.R_drewN | apply Kd.R_drew)); exact HO0.out))) (below_size (by repeat (first | (with_reducible first | exact HB.out | apply below_alloc | apply pw_below_drewN | apply below_drew1) | exact HB.out)))); have n2_ := Aside0.mk (Kept.below (S := (fun k_ => P0_ k_)) (by repeat (first | (with_reducible first | exact HK.out | apply Kept.alloc | apply Kept.drewN | apply Kept.drew) | exact HK.out)) hb); have n3_ := Aside0.mk (below_step (by repeat (first | (with_reducible first | exact HB.out | apply below_alloc | apply pw_below_drewN | apply below_drew1) | exact HB.out)) hb); clear HO0; clear HK; clear HB; have HO0 := n0_; have HO103 := n1_; have HK := n2_; have HB := n3_; clear n0_ n1_ n2_ n3_; clear hb ho5; obtain ⟨Ao7, co7, eo7⟩ := Kd.R_slice HO103.out; subst eo7) | ((with_reducible refine gate_builtin (b := .append) (xs := #[.tmp 5, .tmp 17]) rfl ?_); at_builtin; refine Kd.R_append_rows (Kd.int .u8) (w0 := w0) w0.heap.size rfl (.tmp 5) (.tmp 17) 24 5 (.int .u8 0) 1 rfl Try.underlying24 info5 rfl (by decide) (by omega) u9000_ l0 y101 _ _ _ (fun k_ => (P0_ k_ ∨ w.heap.size ≤ k_) ∧ some k_ ≠ (.slice Ao7 y101.length co7 : Value).ownBlock) (fun _ => False) rfl rfl ?aO ?aR (fun _ _ h => h) (fun _ h => h.elim) ?aF ?aB ?aS ?aL ?_; (case aR => repeat (first | exact (Kd.R_reads' HO103.out).2.2 | (with_reducible refine Kd.C_alloc ?_ _) | (with_reducible refine Kd.C_drewN ?_ _) | (with_reducible refine Kd.C_drew ?_))); (case aB => exact (by repeat (first | (with_reducible first | exact HB.out | apply below_alloc | apply pw_below_drewN | apply below_drew1) | exact HB.out))); (case aF => exact (fun k_ hk => ⟨(.inr (Nat.le_trans (by first | exact HK.out.1 | exact (show Kept w _ (fun k_ => P0_ k_) from by repeat (first | (with_reducible first | exact HK.out | apply Kept.alloc | apply Kept.drewN | apply Kept.drew) | exact HK.out)).1) hk)), Kd.fresh' (Kd.R_lt (by (with_reducible repeat (first | apply Kd.R_alloc | apply Kd.R_drewN | apply Kd.R_drew)); exact HO103.out)) k_ hk⟩)); (case aO => exact (by (with_reducible repeat (first | apply Kd.R_alloc | apply Kd.R_drewN | apply Kd.R_drew)); exact HO0.out)); (case aS => exact (below_size (by repeat (first | (with_reducible first | exact HB.out | apply below_alloc | apply pw_below_drewN | apply below_drew1) | exact HB.out)))); (case aL => have := LMc3.out; omega); intro v105 w6 ho hb hg hat; rw [← Ny104.out] at ho; have n0_ := Aside0.mk (Kd.R_after (ok := (fun k_ => (P0_ k_ ∨ w.heap.size ≤ k_))) (by (with_reducible repeat (first | apply Kd.R_alloc | apply Kd.R_drewN | apply Kd.R_drew)); exact Kd.R_mono HO103.out (fun _ hk => ⟨hk.1.1, hk.2⟩)) hg hat); have n1_ := Aside0.mk (hb); have n2_ := Aside0.mk (Kept.of_grown (S := (fun k_ => P0_ k_)) hg (by repeat (first | (with_reducible first | exact HK.out | apply Kept.alloc | apply Kept.drewN | apply Kept.drew) | exact HK.out)) (fun k_ e_ => (HO0.out.1 k_ e_).1)); have n3_ := Aside0.mk (ho); clear HO103; clear HB; clear HK; clear HO0; have HO103 := n0_; have HB := n1_; have HK := n2_; have HO106 := n3_; clear n0_ n1_ n2_ n3_; clear ho hb hg hat))
    go_ret
    exact ⟨_, by first | rfl | (simp [errW_none, errW_some] <;> rfl) | (simp [*, errW_none, errW_some] <;> rfl), by (with_reducible repeat (first | apply Kd.R_alloc | apply Kd.R_drewN | apply Kd.R_drew)); exact Kd.R_mono HO106.out (fun _ hk => hk.1), by repeat (first | (with_reducible first | exact HB.out | apply below_alloc | apply pw_below_drewN | apply below_drew1) | exact HB.out), by repeat (first | (with_reducible first | exact HK.out | apply Kept.alloc | apply Kept.drewN | apply Kept.drew) | exact HK.out)⟩
  · rw [if_neg c3] at H
    exact absurd H (by simp)

/-! ### block_Pack: function 12 -/
def block_Pack.l0 : Nat → List Int → List (S30) → Int → Int → Option (List Int × Int)
  | 0, _, _, _, _ => none
  | k + 1, x4, x8, x9, x10 => if x10 < x9 then (if 0 ≤ x10 then (if x10 < (x8.length : Int) then (if (((rd_T30 x8 x10).f1).length : Int) > 1048576 then (some (([] : List Int), 82)) else ((some (([203, (rd_T30 x8 x10).f0] : List Int) : List Int)).bind fun y109 => (if x4.length + y109.length < 140737488355328 then ((block_four.f (x4 ++ y109) (((((rd_T30 x8 x10).f1).length : Int)) % 4294967296)).bind fun t115 => (if t115.length + ((rd_T30 x8 x10).f1).length < 140737488355328 then ((some (t115 ++ ((rd_T30 x8 x10).f1) : List Int)).bind fun y118 => (if 0 ≤ (x4.length : Int) then (if (x4.length : Int) ≤ (y118.length : Int) then ((block_Sum.f (([(y118.drop ((x4.length : Int) : Int).toNat)] : List (List Int)))).bind fun t129 => ((block_four.f y118 t129).bind fun t130 => (block_Pack.l0 k t130 x8 x9 (wrap64 (x10 + 1))))) else (none)) else (none))) else (none))) else (none)))) else (none)) else (none)) else (some (x4, 0))
def block_Pack.f (k : Nat) (l0 : List (S30)) : Option (List Int × Int) := block_Pack.l0 k ([] : List Int) l0 (l0.length : Int) 0
theorem block_Pack.mono_l : ∀ k, (∀ y0 y1 y2 y3, LeO (block_Pack.l0 k y0 y1 y2 y3) (block_Pack.l0 (k + 1) y0 y1 y2 y3))
  | 0 => fun _ _ _ _ r h => by simp [block_Pack.l0] at h
  | k + 1 => by
    have ih0 := block_Pack.mono_l k
    · intro y0 y1 y2 y3
      unfold block_Pack.l0
      repeat' first
      | (with_reducible exact ih0 _ _ _ _)
      | (with_reducible exact LeO.refl _)
      | (with_reducible exact LeO.none _)
      | (with_reducible refine LeO.ite ?_ ?_)
      | (with_reducible refine LeO.bind ?_ (fun _ => ?_))
      | exact ih0 _ _ _ _
      | exact LeO.none _
      | refine LeO.ite ?_ ?_
      | refine LeO.bind ?_ (fun _ => ?_)
theorem block_Pack.mono : ∀ a0 k, LeO (block_Pack.f k a0) (block_Pack.f (k + 1) a0) := by
  intro a0 k
  have ih0 := block_Pack.mono_l k
  unfold block_Pack.f
  repeat' first
      | (with_reducible exact ih0 _ _ _ _)
      | (with_reducible exact LeO.refl _)
      | (with_reducible exact LeO.none _)
      | (with_reducible refine LeO.ite ?_ ?_)
      | (with_reducible refine LeO.bind ?_ (fun _ => ?_))
      | exact ih0 _ _ _ _
      | exact LeO.none _
      | refine LeO.ite ?_ ?_
      | refine LeO.bind ?_ (fun _ => ?_)
def block_Pack.T8 : Bool × List (List Nat × List Nat) := (true, [([], []), ([], []), ([1], [1]), ([2], [2]), ([0, 3], [0, 3]), ([], []), ([5], [5]), ([6], [6]), ([7], [7]), ([4, 8, 4], [4, 8]), ([], []), ([10], [10]), ([9, 11, 9], [9, 11]), ([12, 12, 0, 1, 2, 3, 4, 5, 6, 7, 8, 9, 10, 11, 12], [0, 12])])
def block_Pack.B8 : List Nat := [0, 0, 2, 6, 15, 0, 32, 96, 224, 511, 0, 1024, 4095, 8191]
theorem block_Pack.tab8 : rtab .any (opsOf Try.f12 8) = block_Pack.T8 := by kernel_rfl
theorem block_Pack.bits8 : waitsOk block_Pack.T8.2 block_Pack.B8 = true := by kernel_rfl
set_option maxHeartbeats 8000000 in
set_option maxRecDepth 100000 in
theorem block_Pack.calls (k : Nat) (A0 : Option Addr) (c0 : Nat) (l0 : List (S30)) (r1 : List Int) (r2 : Int) (w : World) (hr0 : Kd.C k30 w A0 l0.length l0) (hc0 : l0.length ≤ c0) (h : block_Pack.f k l0 = some (r1, r2)) :
    Calls Try.prog 12 #[.slice A0 l0.length c0] w fun e w' => ∃ v0_ : Value, e = .returned (.tuple #[v0_, .int .i64 r2]) ∧ Kd.R (Kd.int .u8) 5 w' w.heap.size (fun _ => True) v0_ r1 ∧ Below w.heap.size w w' := by
  have hu30 := Try.underlying30
  have HR0 := Aside0.mk hr0
  have HC0 := Aside0.mk hc0
  clear hr0 hc0
  have HB := Aside0.mk (Below.refl w.heap.size w)
  have H : (block_Pack.l0 k ([] : List Int) l0 (l0.length : Int) 0) = some (r1, r2) := h
  clear h
  have H' := Aside0.mk H
  clear H
  go_enter Try.func12, Try.ntmps12
  go_wp2
  go_loopg [4, 10] k (fun kq v4 v10 w' => ∃ (x4_1 : List Int) (x10_1 : Int), v10 = .int .i64 x10_1 ∧ Aside0 (block_Pack.l0 kq x4_1 l0 (l0.length : Int) x10_1 = some (r1, r2)) ∧ Aside0 (kq ≤ k) ∧ Aside0 (Kd.R (Kd.int .u8) 5 w' w.heap.size (fun _ => True) v4 x4_1) ∧ Aside0 (Below w.heap.size w w'))
  case atStart => exact ⟨(([] : List Int)), (0), (by first | rfl | (simp; done) | (simp [*]; done)), H', ⟨Nat.le_refl _⟩, ⟨by first | exact Kd.R_nil _ _ _ _ _ | exact Kd.N_nil _ _ _ _ _ | exact Kd.V_nil _ _ _ _ _ | exact Kd.Q_nil _ _ _ _ _ | exact Kd.S_nil _ _ _ _ _⟩, ⟨by repeat (first | (with_reducible first | exact HB.out | apply below_alloc | apply pw_below_drewN | apply below_drew1) | exact HB.out)⟩⟩
  case round =>
    clear H'
    try clear c1
    obtain ⟨x4_1, x10_1, rfl, HA, HK1, HO_4, HB⟩ := hrel
    cases gk with
    | zero => exact absurd HA.out (by simp [block_Pack.l0])
    | succ k1 =>
      have H := HA.out
      clear HA
      simp only [block_Pack.l0] at H
      by_cases c2 : x10_1 < (l0.length : Int)
      · rw [if_pos c2] at H
        have c2b0 : decide (x10_1 < (l0.length : Int)) = true := decide_eq_true c2
        clear c2
        by_cases c3 : 0 ≤ x10_1
        · rw [if_pos c3] at H
          have c3b0 : decide (0 ≤ x10_1) = true := decide_eq_true c3
          clear c3
          by_cases c4 : x10_1 < (l0.length : Int)
          · rw [if_pos c4] at H
            have c4b0 : decide (x10_1 < (l0.length : Int)) = true := decide_eq_true c4
            clear c4
            by_cases c5 : (((rd_T30 l0 x10_1).f1).length : Int) > 1048576
            · rw [if_pos c5] at H
              have c5b0 : decide (1048576 < (((rd_T30 l0 x10_1).f1).length : Int)) = true := decide_eq_true c5
              have c5b1 : decide (1048576 < ((rd_T30 l0 x10_1).f1).length) = true := decide_eq_true (by omega)
              clear c5
              simp only [Option.some.injEq, Prod.mk.injEq] at H
              obtain ⟨rfl, rfl⟩ := H
              have p107 : 0 ≤ (x10_1 : Int) := of_decide_eq_true (by first | (with_reducible assumption) | assumption)
              have q107 : x10_1 < (l0.length : Int) := of_decide_eq_true (by first | (with_reducible assumption) | assumption)
              obtain ⟨ad107, A107_1, c107_1, e107, hx107_0, hx107_1, hl107_1, hi107_1⟩ := at_T30 HR0.out x10_1 p107 q107
              cases e107
              replace hx107_0 := (HB.out.cell (World.block_lt_of_cell? w _ hx107_0)).trans hx107_0
              replace hx107_1 := (HB.out.cell (World.block_lt_of_cell? w _ hx107_1)).trans hx107_1
              have HR107_1 := Aside0.mk hi107_1
              have HC107_1 := Aside0.mk hl107_1
              clear hi107_1 hl107_1
              replace p107 := eq_true p107
              replace q107 := eq_true q107
              go_wp2_with (first | ((with_reducible refine gate_dst (N := 6) rfl ?_); refine box_event ?hg (N := 6) ?hd (cs := #[.int .u8 0, .slice none 0 0]) (t := 30) ?hr ?_; (case hd => rfl); (case hg => rfl); (case hr => first | (go_simp; done) | (go_simp; rfl)); intro gb108 hg w6 hbox hb; have n0_ := Aside0.mk (Kd.R_below (by (with_reducible repeat (first | apply Kd.R_alloc | apply Kd.R_drewN | apply Kd.R_drew)); exact HO_4.out) hb); have n1_ := Aside0.mk (below_step (by repeat (first | (with_reducible first | exact HB.out | apply below_alloc | apply pw_below_drewN | apply below_drew1) | exact HB.out)) hb); have n2_ := Aside0.mk (hbox); have n3_ := Aside0.mk ((by rw [hg]; exact (below_size (by repeat (first | (with_reducible first | exact HB.out | apply below_alloc | apply pw_below_drewN | apply below_drew1) | exact HB.out))) : w.heap.size ≤ gb108)); have n4_ := Aside0.mk ((by rw [hg]; exact (below_size (by repeat (first | (with_reducible first | exact HB.out | apply below_alloc | apply pw_below_drewN | apply below_drew1) | exact HB.out))) : w.heap.size ≤ gb108)); clear HO_4; clear HB; have HO_4 := n0_; have HB := n1_; have BK108 := n2_; have GW108 := n3_; have GE108 := n4_; clear n0_ n1_ n2_ n3_ n4_; clear hb hbox hg; have hcz7_0 : w6.cell? ⟨gb108, 0, none⟩ = some (.int .u8 0) := (blk_cell BK108.out 0).trans rfl; have hcz7_1 : w6.cell? ⟨gb108, 1, none⟩ = some (.slice none 0 0) := (blk_cell BK108.out 1).trans rfl; have hfz7_0 := blk_frozen BK108.out 0; have hfz7_1 := blk_frozen BK108.out 1))
              go_ret2
              exact ⟨_, by first | rfl | (simp [errW_none, errW_some] <;> rfl) | (simp [*, errW_none, errW_some] <;> rfl), by first | exact Kd.R_nil _ _ _ _ _ | exact Kd.N_nil _ _ _ _ _ | exact Kd.V_nil _ _ _ _ _ | exact Kd.Q_nil _ _ _ _ _ | exact Kd.S_nil _ _ _ _ _, by repeat (first | (with_reducible first | exact HB.out | apply below_alloc | apply pw_below_drewN | apply below_drew1 | refine below_set ?_ GE108.out) | exact HB.out)⟩
            · rw [if_neg c5] at H
              have c5b0 : decide (1048576 < (((rd_T30 l0 x10_1).f1).length : Int)) = false := decide_eq_false c5
              have c5b1 : decide (1048576 < ((rd_T30 l0 x10_1).f1).length) = false := decide_eq_false (by omega)
              clear c5
              obtain ⟨y109, hy109⟩ : ∃ y_ : List Int, y_ = (([203, (rd_T30 l0 x10_1).f0] : List Int)) := ⟨_, rfl⟩
              replace H : (if x4_1.length + y109.length < 140737488355328 then ((block_four.f (x4_1 ++ y109) (((((rd_T30 l0 x10_1).f1).length : Int)) % 4294967296)).bind fun t115 => (if t115.length + ((rd_T30 l0 x10_1).f1).length < 140737488355328 then ((some (t115 ++ ((rd_T30 l0 x10_1).f1) : List Int)).bind fun y118 => (if 0 ≤ (x4_1.length : Int) then (if (x4_1.length : Int) ≤ (y118.length : Int) then ((block_Sum.f (([(y118.drop ((x4_1.length : Int) : Int).toNat)] : List (List Int)))).bind fun t129 => ((block_four.f y118 t129).bind fun t130 => (block_Pack.l0 k1 t130 l0 (l0.length : Int) (wrap64 (x10_1 + 1))))) else (none)) else (none))) else (none))) else (none)) = some (r1, r2) := by first | (rw [hy109]; with_reducible exact H) | (have H2_ := (Option.bind_some _ _).symm.trans H; rw [hy109]; with_reducible exact H2_) | (have H2_ := (Option.bind_some _ _).symm.trans H; with_reducible exact H2_) | with_reducible exact H | (rw [hy109]; exact H) | exact H
              have Ny109 := Aside0.mk hy109
              clear hy109
              by_cases c8 : x4_1.length + y109.length < 140737488355328
              · rw [if_pos c8] at H
                have LMc8 := Aside0.mk c8
                clear c8
                obtain ⟨y112, hy112⟩ : ∃ y_ : List Int, y_ = (x4_1 ++ y109) := ⟨_, rfl⟩
                replace H : ((block_four.f y112 (((((rd_T30 l0 x10_1).f1).length : Int)) % 4294967296)).bind fun t115 => (if t115.length + ((rd_T30 l0 x10_1).f1).length < 140737488355328 then ((some (t115 ++ ((rd_T30 l0 x10_1).f1) : List Int)).bind fun y118 => (if 0 ≤ (x4_1.length : Int) then (if (x4_1.length : Int) ≤ (y118.length : Int) then ((block_Sum.f (([(y118.drop ((x4_1.length : Int) : Int).toNat)] : List (List Int)))).bind fun t129 => ((block_four.f y118 t129).bind fun t130 => (block_Pack.l0 k1 t130 l0 (l0.length : Int) (wrap64 (x10_1 + 1))))) else (none)) else (none))) else (none))) = some (r1, r2) := by first | (rw [hy112]; with_reducible exact H) | (have H2_ := (Option.bind_some _ _).symm.trans H; rw [hy112]; with_reducible exact H2_) | (have H2_ := (Option.bind_some _ _).symm.trans H; with_reducible exact H2_) | with_reducible exact H | (rw [hy112]; exact H) | exact H
                have Ny112 := Aside0.mk hy112
                clear hy112
                replace H := Option.bind_eq_some_iff.mp H
                obtain ⟨t115, A90, H⟩ := H
                replace H : (if t115.length + ((rd_T30 l0 x10_1).f1).length < 140737488355328 then ((some (t115 ++ ((rd_T30 l0 x10_1).f1) : List Int)).bind fun y118 => (if 0 ≤ (x4_1.length : Int) then (if (x4_1.length : Int) ≤ (y118.length : Int) then ((block_Sum.f (([(y118.drop ((x4_1.length : Int) : Int).toNat)] : List (List Int)))).bind fun t129 => ((block_four.f y118 t129).bind fun t130 => (block_Pack.l0 k1 t130 l0 (l0.length : Int) (wrap64 (x10_1 + 1))))) else (none)) else (none))) else (none)) = some (r1, r2) := H
                have A9 := Aside0.mk A90
                clear A90
                by_cases c10 : t115.length + ((rd_T30 l0 x10_1).f1).length < 140737488355328
                · rw [if_pos c10] at H
                  have LMc10 := Aside0.mk c10
                  clear c10
                  obtain ⟨y118, hy118⟩ : ∃ y_ : List Int, y_ = (t115 ++ ((rd_T30 l0 x10_1).f1)) := ⟨_, rfl⟩
                  replace H : (if 0 ≤ (x4_1.length : Int) then (if (x4_1.length : Int) ≤ (y118.length : Int) then ((block_Sum.f (([(y118.drop ((x4_1.length : Int) : Int).toNat)] : List (List Int)))).bind fun t129 => ((block_four.f y118 t129).bind fun t130 => (block_Pack.l0 k1 t130 l0 (l0.length : Int) (wrap64 (x10_1 + 1))))) else (none)) else (none)) = some (r1, r2) := by first | (rw [hy118]; with_reducible exact H) | (have H2_ := (Option.bind_some _ _).symm.trans H; rw [hy118]; with_reducible exact H2_) | (have H2_ := (Option.bind_some _ _).symm.trans H; with_reducible exact H2_) | with_reducible exact H | (rw [hy118]; exact H) | exact H
                  have Ny118 := Aside0.mk hy118
                  clear hy118
                  by_cases c11 : 0 ≤ (x4_1.length : Int)
                  · rw [if_pos c11] at H
                    have c11b0 := eq_true c11
                    have c11b1 : decide (0 ≤ (x4_1.length : Int)) = true := decide_eq_true c11
                    clear c11
                    by_cases c12 : (x4_1.length : Int) ≤ (y118.length : Int)
                    · rw [if_pos c12] at H
                      have c12b0 := eq_true c12
                      have c12b1 : decide ((x4_1.length : Int) ≤ (y118.length : Int)) = true := decide_eq_true c12
                      clear c12
                      obtain ⟨y121, hy121⟩ : ∃ y_ : List Int, y_ = (y118.drop ((x4_1.length : Int) : Int).toNat) := ⟨_, rfl⟩
                      replace H : ((block_Sum.f (([y121] : List (List Int)))).bind fun t129 => ((block_four.f y118 t129).bind fun t130 => (block_Pack.l0 k1 t130 l0 (l0.length : Int) (wrap64 (x10_1 + 1))))) = some (r1, r2) := by first | (rw [hy121]; with_reducible exact H) | (have H2_ := (Option.bind_some _ _).symm.trans H; rw [hy121]; with_reducible exact H2_) | (have H2_ := (Option.bind_some _ _).symm.trans H; with_reducible exact H2_) | with_reducible exact H | (rw [hy121]; exact H) | exact H
                      have Ny121 := Aside0.mk hy121
                      clear hy121
                      obtain ⟨y126, hy126⟩ : ∃ y_ : List (List Int), y_ = (([y121] : List (List Int))) := ⟨_, rfl⟩
                      replace H : ((block_Sum.f y126).bind fun t129 => ((block_four.f y118 t129).bind fun t130 => (block_Pack.l0 k1 t130 l0 (l0.length : Int) (wrap64 (x10_1 + 1))))) = some (r1, r2) := by first | (rw [hy126]; with_reducible exact H) | (have H2_ := (Option.bind_some _ _).symm.trans H; rw [hy126]; with_reducible exact H2_) | (have H2_ := (Option.bind_some _ _).symm.trans H; with_reducible exact H2_) | with_reducible exact H | (rw [hy126]; exact H) | exact H
                      have Ny126 := Aside0.mk hy126
                      clear hy126
                      replace H := Option.bind_eq_some_iff.mp H
                      obtain ⟨t129, A130, H⟩ := H
                      replace H : ((block_four.f y118 t129).bind fun t130 => (block_Pack.l0 k1 t130 l0 (l0.length : Int) (wrap64 (x10_1 + 1)))) = some (r1, r2) := H
                      have A13 := Aside0.mk A130
                      clear A130
                      replace H := Option.bind_eq_some_iff.mp H
                      obtain ⟨t130, A140, H⟩ := H
                      replace H : (block_Pack.l0 k1 t130 l0 (l0.length : Int) (wrap64 (x10_1 + 1))) = some (r1, r2) := H
                      have A14 := Aside0.mk A140
                      clear A140
                      have H' := Aside0.mk H
                      clear H
                      have p107 : 0 ≤ (x10_1 : Int) := of_decide_eq_true (by first | (with_reducible assumption) | assumption)
                      have q107 : x10_1 < (l0.length : Int) := of_decide_eq_true (by first | (with_reducible assumption) | assumption)
                      obtain ⟨ad107, A107_1, c107_1, e107, hx107_0, hx107_1, hl107_1, hi107_1⟩ := at_T30 HR0.out x10_1 p107 q107
                      cases e107
                      replace hx107_0 := (HB.out.cell (World.block_lt_of_cell? w _ hx107_0)).trans hx107_0
                      replace hx107_1 := (HB.out.cell (World.block_lt_of_cell? w _ hx107_1)).trans hx107_1
                      have HR107_1 := Aside0.mk hi107_1
                      have HC107_1 := Aside0.mk hl107_1
                      clear hi107_1 hl107_1
                      replace p107 := eq_true p107
                      replace q107 := eq_true q107
                      try go_wp2_with (first | ((with_reducible refine gate_dst (N := 6) rfl ?_); refine box_event ?hg (N := 6) ?hd (cs := #[.int .u8 0, .slice none 0 0]) (t := 30) ?hr ?_; (case hd => rfl); (case hg => rfl); (case hr => first | (go_simp; done) | (go_simp; rfl)); intro gb108 hg w15 hbox hb; have n0_ := Aside0.mk (Kd.R_below (by (with_reducible repeat (first | apply Kd.R_alloc | apply Kd.R_drewN | apply Kd.R_drew)); exact HO_4.out) hb); have n1_ := Aside0.mk (below_step (by repeat (first | (with_reducible first | exact HB.out | apply below_alloc | apply pw_below_drewN | apply below_drew1) | exact HB.out)) hb); have n2_ := Aside0.mk (hbox); have n3_ := Aside0.mk ((by rw [hg]; exact (below_size (by repeat (first | (with_reducible first | exact HB.out | apply below_alloc | apply pw_below_drewN | apply below_drew1) | exact HB.out))) : w.heap.size ≤ gb108)); have n4_ := Aside0.mk ((by rw [hg]; exact (below_size (by repeat (first | (with_reducible first | exact HB.out | apply below_alloc | apply pw_below_drewN | apply below_drew1) | exact HB.out))) : w.heap.size ≤ gb108)); clear HO_4; clear HB; have HO_4 := n0_; have HB := n1_; have BK108 := n2_; have GW108 := n3_; have GE108 := n4_; clear n0_ n1_ n2_ n3_ n4_; clear hb hbox hg; have hcz16_0 : w15.cell? ⟨gb108, 0, none⟩ = some (.int .u8 0) := (blk_cell BK108.out 0).trans rfl; have hcz16_1 : w15.cell? ⟨gb108, 1, none⟩ = some (.slice none 0 0) := (blk_cell BK108.out 1).trans rfl; have hfz16_0 := blk_frozen BK108.out 0; have hfz16_1 := blk_frozen BK108.out 1; obtain ⟨Ao17, co17, eo17⟩ := Kd.R_slice HO_4.out; subst eo17))
                      have n0_ : Aside0 (Kd.R (Kd.int .u8) 5 ((w15.setCell ⟨gb108, 0, none⟩ (.int .u8 ((rd_T30 l0 x10_1).f0))).setCell ⟨gb108, 1, none⟩ (.slice A107_1 ((rd_T30 l0 x10_1).f1).length c107_1)) w.heap.size (fun _ => True) (.slice Ao17 x4_1.length co17) x4_1) := ⟨by (with_reducible repeat (first | apply Kd.R_alloc | apply Kd.R_drewN | apply Kd.R_drew)); exact Kd.R_mono (Kd.R_far (p := ⟨gb108, 1, none⟩) (Kd.R_far (p := ⟨gb108, 0, none⟩) (Kd.R_types HO_4.out BK108.out (by decide)) (fun _ hk => hk.2) (.int .u8 ((rd_T30 l0 x10_1).f0))) (fun _ hk => hk.2) (.slice A107_1 ((rd_T30 l0 x10_1).f1).length c107_1)) (fun _ hk => trivial)⟩
                      have n1_ : Aside0 (((w15.setCell ⟨gb108, 0, none⟩ (.int .u8 ((rd_T30 l0 x10_1).f0))).setCell ⟨gb108, 1, none⟩ (.slice A107_1 ((rd_T30 l0 x10_1).f1).length c107_1)).heap[gb108]? = some (.cells #[.int .u8 ((rd_T30 l0 x10_1).f0), .slice A107_1 ((rd_T30 l0 x10_1).f1).length c107_1] 30 (0, 0))) := ⟨by (with_reducible repeat (first | refine blk_drewN ?_ _ | refine blk_drew ?_ | refine blk_alloc ?_ _)); refine blk_put (cs := #[.int .u8 ((rd_T30 l0 x10_1).f0), .slice none 0 0]) ?_ 1 _ rfl; (with_reducible repeat (first | refine blk_drewN ?_ _ | refine blk_drew ?_ | refine blk_alloc ?_ _)); refine blk_put (cs := #[.int .u8 0, .slice none 0 0]) ?_ 0 _ rfl; (with_reducible repeat (first | refine blk_drewN ?_ _ | refine blk_drew ?_ | refine blk_alloc ?_ _)); exact BK108.out⟩
                      have n2_ : Aside0 (Below w.heap.size w ((w15.setCell ⟨gb108, 0, none⟩ (.int .u8 ((rd_T30 l0 x10_1).f0))).setCell ⟨gb108, 1, none⟩ (.slice A107_1 ((rd_T30 l0 x10_1).f1).length c107_1))) := ⟨by repeat (first | (with_reducible first | exact HB.out | apply below_alloc | apply pw_below_drewN | apply below_drew1 | refine below_set ?_ GE108.out) | exact HB.out)⟩
                      (try clear HO_4)
                      (try clear BK108)
                      (try clear HB)
                      generalize ((w15.setCell ⟨gb108, 0, none⟩ (.int .u8 ((rd_T30 l0 x10_1).f0))).setCell ⟨gb108, 1, none⟩ (.slice A107_1 ((rd_T30 l0 x10_1).f1).length c107_1)) = w18 at n0_ n1_ n2_ ⊢
                      have HO_4 := n0_
                      have BK108 := n1_
                      have HB := n2_
                      clear n0_ n1_ n2_
                      have n0_ := Aside0.mk (Kd.R_drew HO_4.out)
                      have n1_ := Aside0.mk (blk_drew BK108.out)
                      have n2_ := Aside0.mk (below_drew1 HB.out)
                      clear HO_4
                      clear BK108
                      clear HB
                      have HO_4 := n0_
                      have BK108 := n1_
                      have HB := n2_
                      clear n0_ n1_ n2_
                      refine start_ (n := 14) (S := fun w' => w'.cell? ⟨gb108, 0, none⟩ = some (.int .u8 ((rd_T30 l0 x10_1).f0)) ∧ w'.cell? ⟨gb108, 1, none⟩ = some (.slice A107_1 ((rd_T30 l0 x10_1).f1).length c107_1)) (ds := []) #[false, false, false, false, false, false, false, false, false, false, false, false, false, false] (by kernel_rfl) rfl rfl ⟨(blk_cell BK108.out 0).trans rfl, (blk_cell BK108.out 1).trans rfl⟩ (fun hHeld => ?_); refine with_tabW block_Pack.tab8 block_Pack.bits8 (fun HT_ HW_ => ?_)
                      generalize w18.drew = w19 at HO_4 BK108 HB hHeld ⊢
                      refine pure_ (i := 0) (N := some 20) (v := ?_) (a' := ?_) #[true, false, false, false, false, false, false, false, false, false, false, false, false, false] rfl rfl (any_of HT_.out (by kernel_rfl)) (fun _ _ _ h => h) (Or.inl ⟨by rfl, ?_⟩) ?_ ?_
                      rotate_left
                      · intro w'
                        go_simp
                        with_reducible rfl
                      rotate_left
                      · simp only [Act.put, List.setIfInBounds_toArray, List.set_cons_zero, List.set_cons_succ, i64_w, i32_w]
                        rfl
                      refine pure_ (i := 1) (N := some 21) (v := ?_) (a' := ?_) #[true, true, false, false, false, false, false, false, false, false, false, false, false, false] rfl rfl (any_of HT_.out (by kernel_rfl)) (fun _ _ _ h => h) (Or.inl ⟨by rfl, ?_⟩) ?_ ?_
                      rotate_left
                      · intro w'
                        go_simp
                        with_reducible rfl
                      rotate_left
                      · simp only [Act.put, List.setIfInBounds_toArray, List.set_cons_zero, List.set_cons_succ, i64_w, i32_w]
                        rfl
                      refine pure_ (i := 5) (N := some 25) (v := ?_) (a' := ?_) #[true, true, false, false, false, true, false, false, false, false, false, false, false, false] rfl rfl (any_of HT_.out (by kernel_rfl)) (fun _ _ _ h => h) (Or.inl ⟨by rfl, ?_⟩) ?_ ?_
                      rotate_left
                      · intro w'
                        go_simp
                        with_reducible rfl
                      rotate_left
                      · simp only [Act.put, List.setIfInBounds_toArray, List.set_cons_zero, List.set_cons_succ, i64_w, i32_w]
                        rfl
                      refine pure_ (i := 10) (N := some 30) (v := ?_) (a' := ?_) #[true, true, false, false, false, true, false, false, false, false, true, false, false, false] rfl rfl (any_of HT_.out (by kernel_rfl)) (fun _ _ _ h => h) (Or.inl ⟨by rfl, ?_⟩) ?_ ?_
                      rotate_left
                      · intro w'
                        go_simp
                        with_reducible rfl
                      rotate_left
                      · simp only [Act.put, List.setIfInBounds_toArray, List.set_cons_zero, List.set_cons_succ, i64_w, i32_w]
                        rfl
                      refine take_ (i := 2) (N := some 22) (v := ?_) (a' := ?_) #[true, true, true, false, false, true, false, false, false, false, true, false, false, false] rfl rfl (take_ofW HT_.out HW_.out (by kernel_rfl)) (fun _ _ _ h => h) (Or.inl ⟨by rfl, ?_⟩) hHeld ?_ ?_
                      rotate_left
                      · rintro w' ⟨s0, s1⟩
                        go_simp
                        with_reducible rfl
                      rotate_left
                      · simp only [Act.put, List.setIfInBounds_toArray, List.set_cons_zero, List.set_cons_succ, i64_w, i32_w]
                        rfl
                      refine take_ (i := 6) (N := some 26) (v := ?_) (a' := ?_) #[true, true, true, false, false, true, true, false, false, false, true, false, false, false] rfl rfl (take_ofW HT_.out HW_.out (by kernel_rfl)) (fun _ _ _ h => h) (Or.inl ⟨by rfl, ?_⟩) hHeld ?_ ?_
                      rotate_left
                      · rintro w' ⟨s0, s1⟩
                        go_simp
                        with_reducible rfl
                      rotate_left
                      · simp only [Act.put, List.setIfInBounds_toArray, List.set_cons_zero, List.set_cons_succ, i64_w, i32_w]
                        rfl
                      refine pure_ (i := 7) (N := some 27) (v := ?_) (a' := ?_) #[true, true, true, false, false, true, true, true, false, false, true, false, false, false] rfl rfl (any_of HT_.out (by kernel_rfl)) (fun _ _ _ h => h) (Or.inl ⟨by rfl, ?_⟩) ?_ ?_
                      rotate_left
                      · intro w'
                        go_simp
                        with_reducible rfl
                      rotate_left
                      · simp only [Act.put, List.setIfInBounds_toArray, List.set_cons_zero, List.set_cons_succ, i64_w, i32_w]
                        rfl
                      refine pure_ (i := 8) (N := some 28) (v := ?_) (a' := ?_) #[true, true, true, false, false, true, true, true, true, false, true, false, false, false] rfl rfl (any_of HT_.out (by kernel_rfl)) (fun _ _ _ h => h) (Or.inl ⟨by rfl, ?_⟩) ?_ ?_
                      rotate_left
                      · intro w'
                        go_simp
                        with_reducible rfl
                      rotate_left
                      · simp only [Act.put, List.setIfInBounds_toArray, List.set_cons_zero, List.set_cons_succ, i64_w, i32_w]
                        rfl
                      refine take_ (i := 11) (N := some 31) (v := ?_) (a' := ?_) #[true, true, true, false, false, true, true, true, true, false, true, true, false, false] rfl rfl (take_ofW HT_.out HW_.out (by kernel_rfl)) (fun _ _ _ h => h) (Or.inl ⟨by rfl, ?_⟩) hHeld ?_ ?_
                      rotate_left
                      · rintro w' ⟨s0, s1⟩
                        go_simp
                        with_reducible rfl
                      rotate_left
                      · simp only [Act.put, List.setIfInBounds_toArray, List.set_cons_zero, List.set_cons_succ, i64_w, i32_w]
                        rfl
                      refine one_ (i := 3) (N := some 23) #[true, true, true, true, false, true, true, true, true, false, true, true, false, false] rfl rfl (one_of HT_.out (by kernel_rfl)) (by decide) (fun K hK => ?_)
                      refine Kd.R_lit_step (Kd.int .u8) _ 5 ?hg (N := 23) ?hd (xs := ([203, (rd_T30 l0 x10_1).f0] : List Int)) (inner := [.int .u8 203, .int .u8 ((rd_T30 l0 x10_1).f0)]) (ok := fun _ => True) (okp := fun _ => True) ?hr ?hp (fun _ hk => hk) trivial (Below.refl _ _) (Nat.le_refl _) (by simp) ?_; (case hd => rfl); (case hg => rfl); (case hr => first | (go_simp; done) | (go_simp; rfl)); (case hp => exact (Reps.one (show Kd.M (Kd.int .u8) _ _ _ 203 [.int .u8 203] from rfl) (Reps.one (show Kd.M (Kd.int .u8) _ _ _ ((rd_T30 l0 x10_1).f0) [.int .u8 ((rd_T30 l0 x10_1).f0)] from rfl) (Reps.none _ _))))
                      intro v110 w20 ho21 hb hg_ hnew_
                      clear hg_ hnew_
                      (first | rw [← Ny109.out] at ho21 | (simp only [Int.reduceToNat] at ho21; rw [← Ny109.out] at ho21))
                      have n0_ := Aside0.mk (Kd.R_elder' (by (with_reducible repeat (first | apply Kd.R_alloc | apply Kd.R_drewN | apply Kd.R_drew)); exact HO_4.out) (Kd.R_base ho21) hb)
                      have n1_ := Aside0.mk (Kd.R_lower (Kd.R_new' ho21 (Kd.R_lt (by (with_reducible repeat (first | apply Kd.R_alloc | apply Kd.R_drewN | apply Kd.R_drew)); exact HO_4.out))) (below_size (by repeat (first | (with_reducible first | exact HB.out | apply below_alloc | apply pw_below_drewN | apply below_drew1 | refine below_set ?_ GE108.out) | exact HB.out))))
                      have n2_ := Aside0.mk (blk_below (g := gb108) (o := .cells #[.int .u8 ((rd_T30 l0 x10_1).f0), .slice A107_1 ((rd_T30 l0 x10_1).f1).length c107_1] 30 (0, 0)) (by (with_reducible repeat (first | refine blk_drewN ?_ _ | refine blk_drew ?_ | refine blk_alloc ?_ _)); exact BK108.out) hb)
                      have n3_ := Aside0.mk (below_step (by repeat (first | (with_reducible first | exact HB.out | apply below_alloc | apply pw_below_drewN | apply below_drew1 | refine below_set ?_ GE108.out) | exact HB.out)) hb)
                      clear HO_4
                      clear BK108
                      clear HB
                      have HO_4 := n0_
                      have HO111 := n1_
                      have BK108 := n2_
                      have HB := n3_
                      clear n0_ n1_ n2_ n3_
                      clear hb ho21
                      obtain ⟨Ao23, co23, eo23⟩ := Kd.R_slice HO111.out
                      (first | subst eo23 | (injection eo23 with f1_ f2_ f3_; have f4_ := f1_.symm; have f5_ := f3_.symm; clear f1_ f2_ f3_; subst f4_; subst f5_))
                      refine hK.out _ _ ⟨(blk_cell BK108.out 0).trans rfl, (blk_cell BK108.out 1).trans rfl⟩ (fun hHeld => ?_)
                      clear hK K
                      refine norm_ (a' := ?_) ?_ ?_
                      rotate_left
                      · show Act.put _ (some 23) _ = _
                        simp only [Act.put, List.setIfInBounds_toArray, List.set_cons_zero, List.set_cons_succ, i64_w, i32_w]
                        rfl
                      refine one_ (i := 4) (N := some 24) #[true, true, true, true, true, true, true, true, true, false, true, true, false, false] rfl rfl (one_of HT_.out (by kernel_rfl)) (by decide) (fun K hK => ?_)
                      refine Kd.R_append_rows_step (Kd.int .u8) (w0 := w) w.heap.size (by rfl) (.tmp 20) (.tmp 23) 24 5 (.int .u8 0) 1 rfl Try.underlying24 info5 rfl (by decide) (by omega) (.slice Ao17 x4_1.length co17) x4_1 y109 _ _ _ (fun k_ => some k_ ≠ (.slice Ao23 y109.length co23 : Value).ownBlock) (fun _ => False) rfl rfl ?aO ?aR (fun _ _ h => h) (fun _ h => h.elim) ?aF ?aB ?aS ?aL ?_
                      (case aR => repeat (first | exact (Kd.R_reads' HO111.out).2.2 | (with_reducible refine Kd.C_alloc ?_ _) | (with_reducible refine Kd.C_drewN ?_ _) | (with_reducible refine Kd.C_drew ?_)))
                      (case aB => exact (by repeat (first | (with_reducible first | exact HB.out | apply below_alloc | apply pw_below_drewN | apply below_drew1 | refine below_set ?_ GE108.out) | exact HB.out)))
                      (case aF => exact (fun k_ hk => Kd.fresh' (Kd.R_lt (by (with_reducible repeat (first | apply Kd.R_alloc | apply Kd.R_drewN | apply Kd.R_drew)); exact HO111.out)) k_ hk))
                      (case aO => exact (by (with_reducible repeat (first | apply Kd.R_alloc | apply Kd.R_drewN | apply Kd.R_drew)); exact Kd.R_mono HO_4.out (fun _ hk => hk.2)))
                      (case aS => exact (below_size (by repeat (first | (with_reducible first | exact HB.out | apply below_alloc | apply pw_below_drewN | apply below_drew1 | refine below_set ?_ GE108.out) | exact HB.out))))
                      (case aL => have := LMc8.out; omega)
                      intro v113 w22 ho hb hg hat
                      rw [← Ny112.out] at ho
                      have n0_ := Aside0.mk (blk_grown (g := gb108) (o := .cells #[.int .u8 ((rd_T30 l0 x10_1).f0), .slice A107_1 ((rd_T30 l0 x10_1).f1).length c107_1] 30 (0, 0)) (by (with_reducible repeat (first | refine blk_drewN ?_ _ | refine blk_drew ?_ | refine blk_alloc ?_ _)); exact BK108.out) hg (Kd.R_ne HO_4.out BK108.out (by decide)))
                      have n1_ := Aside0.mk (Kd.R_after (ok := (fun _ => True)) (by (with_reducible repeat (first | apply Kd.R_alloc | apply Kd.R_drewN | apply Kd.R_drew)); exact HO111.out) hg hat)
                      have n2_ := Aside0.mk (hb)
                      have n3_ := Aside0.mk (ho)
                      clear BK108
                      clear HO111
                      clear HB
                      clear HO_4
                      have BK108 := n0_
                      have HO111 := n1_
                      have HB := n2_
                      have HO114 := n3_
                      clear n0_ n1_ n2_ n3_
                      clear ho hb hg hat
                      obtain ⟨Ao24, co24, eo24⟩ := Kd.R_slice HO114.out
                      (first | subst eo24 | (injection eo24 with f1_ f2_ f3_; have f4_ := f1_.symm; have f5_ := f3_.symm; clear f1_ f2_ f3_; subst f4_; subst f5_))
                      refine hK.out _ _ ⟨(blk_cell BK108.out 0).trans rfl, (blk_cell BK108.out 1).trans rfl⟩ (fun hHeld => ?_)
                      clear hK K
                      refine norm_ (a' := ?_) ?_ ?_
                      rotate_left
                      · show Act.put _ (some 24) _ = _
                        simp only [Act.put, List.setIfInBounds_toArray, List.set_cons_zero, List.set_cons_succ, i64_w, i32_w]
                        rfl
                      refine one_ (i := 9) (N := some 29) #[true, true, true, true, true, true, true, true, true, true, true, true, false, false] rfl rfl (one_of HT_.out (by kernel_rfl)) (by decide) (fun K hK => ?_)
                      refine goes_ Try.func20 (by kernel_rfl) rfl #[.slice Ao24 y112.length co24, .int .u32 (((((rd_T30 l0 x10_1).f1).length : Int)) % 4294967296)] (by rfl) rfl rfl (by (try simp only [List.map_toArray, List.map_cons, List.map_nil]); first | done | rfl | (simp only [List.length_drop, List.length_take]; rfl)) ?_
                      with_reducible refine (block_four.calls (fun k_ => some k_ = (.slice Ao24 y112.length co24 : Value).ownBlock) (.slice Ao24 y112.length co24) y112 (((((rd_T30 l0 x10_1).f1).length : Int)) % 4294967296) t115 w _ ?side1 ?side2 A9.out).mono ?_
                      (case side1 => repeat (first | (with_reducible first | exact HB.out | apply below_alloc | apply pw_below_drewN | apply below_drew1 | refine below_set ?_ GE108.out) | exact HB.out))
                      (case side2 => exact Kd.R_tight rfl HO114.out)
                      rintro e w25 ⟨v116, rfl, ho0, hb, hkp⟩
                      refine ⟨_, rfl, ?_⟩
                      have n0_ := Aside0.mk (blk_kept (by (with_reducible repeat (first | refine blk_drewN ?_ _ | refine blk_drew ?_ | refine blk_alloc ?_ _)); exact BK108.out) hkp (fun hs_ => (fun e_ => (Kd.R_ne HO114.out BK108.out (by decide)) e_) hs_))
                      have n1_ := Aside0.mk (Kd.R_mono (ok' := fun k_ => some k_ ≠ (v116 : Value).ownBlock) (Kd.R_keptB (HO111.out) hkp (fun k_ hk_ hs_ => (hk_.2) hs_)) (fun k_ hk_ => fun e_ => Or.elim (ho0.1 k_ e_.symm) (fun hs_ => hk_.2.1 hs_) (fun hn_ => Nat.not_le.2 hk_.2.2 hn_)))
                      have n2_ := Aside0.mk (Kd.R_mono (ok' := fun k_ => some k_ ≠ (.slice Ao23 y109.length co23 : Value).ownBlock) ho0 (fun k_ hk_ => Or.elim hk_ (fun hs_ => fun e_ => (((HO111.out).1 k_ e_.symm).2) hs_) (fun hn_ => (Kd.fresh' (Kd.R_lt (by (with_reducible repeat (first | apply Kd.R_alloc | apply Kd.R_drewN | apply Kd.R_drew)); exact HO111.out)) k_ hn_))))
                      have n3_ := Aside0.mk (hb)
                      clear BK108
                      clear HO111
                      clear HB
                      clear HO114
                      have BK108 := n0_
                      have HO111 := n1_
                      have HO117 := n2_
                      have HB := n3_
                      clear n0_ n1_ n2_ n3_
                      (try clear hb)
                      (try clear hkp)
                      (try clear ho0)
                      refine hK.out _ _ ⟨(blk_cell BK108.out 0).trans rfl, (blk_cell BK108.out 1).trans rfl⟩ (fun hHeld => ?_)
                      clear hK K
                      refine norm_ (a' := ?_) ?_ ?_
                      rotate_left
                      · show Act.put _ (some 29) _ = _
                        simp only [Act.put, List.setIfInBounds_toArray, List.set_cons_zero, List.set_cons_succ, i64_w, i32_w]
                        rfl
                      refine one_ (i := 12) (N := some 32) #[true, true, true, true, true, true, true, true, true, true, true, true, true, false] rfl rfl (one_of HT_.out (by kernel_rfl)) (by decide) (fun K hK => ?_)
                      refine Kd.R_append_rows_step (Kd.int .u8) (w0 := w) w.heap.size (by rfl) (.tmp 29) (.tmp 31) 24 5 (.int .u8 0) 1 rfl Try.underlying24 info5 rfl (by decide) (by omega) v116 t115 ((rd_T30 l0 x10_1).f1) _ _ _ (fun k_ => some k_ ≠ (.slice Ao23 y109.length co23 : Value).ownBlock) (fun _ => False) rfl rfl ?aO ?aR (fun _ _ h => h) (fun _ h => h.elim) ?aF ?aB ?aS ?aL ?_
                      (case aR => repeat (first | exact (Kd.C_below HR107_1.out HB.out) | (with_reducible refine Kd.C_alloc ?_ _) | (with_reducible refine Kd.C_drewN ?_ _) | (with_reducible refine Kd.C_drew ?_)))
                      (case aB => exact (by repeat (first | (with_reducible first | exact HB.out | apply below_alloc | apply pw_below_drewN | apply below_drew1 | refine below_set ?_ GE108.out) | exact HB.out)))
                      (case aF => exact (fun k_ hk => Kd.fresh' (Kd.R_lt (by (with_reducible repeat (first | apply Kd.R_alloc | apply Kd.R_drewN | apply Kd.R_drew)); exact HO111.out)) k_ hk))
                      (case aO => exact (by (with_reducible repeat (first | apply Kd.R_alloc | apply Kd.R_drewN | apply Kd.R_drew)); exact HO117.out))
                      (case aS => exact (below_size (by repeat (first | (with_reducible first | exact HB.out | apply below_alloc | apply pw_below_drewN | apply below_drew1 | refine below_set ?_ GE108.out) | exact HB.out))))
                      (case aL => have := LMc10.out; omega)
                      intro v119 w26 ho hb hg hat
                      rw [← Ny118.out] at ho
                      have n0_ := Aside0.mk (blk_grown (g := gb108) (o := .cells #[.int .u8 ((rd_T30 l0 x10_1).f0), .slice A107_1 ((rd_T30 l0 x10_1).f1).length c107_1] 30 (0, 0)) (by (with_reducible repeat (first | refine blk_drewN ?_ _ | refine blk_drew ?_ | refine blk_alloc ?_ _)); exact BK108.out) hg (Kd.R_ne HO117.out BK108.out (by decide)))
                      have n1_ := Aside0.mk (Kd.R_after (ok := (fun _ => True)) (by (with_reducible repeat (first | apply Kd.R_alloc | apply Kd.R_drewN | apply Kd.R_drew)); exact Kd.R_mono HO111.out (fun _ hk => ⟨trivial, hk⟩)) hg hat)
                      have n2_ := Aside0.mk (hb)
                      have n3_ := Aside0.mk (ho)
                      clear BK108
                      clear HO111
                      clear HB
                      clear HO117
                      have BK108 := n0_
                      have HO111 := n1_
                      have HB := n2_
                      have HO120 := n3_
                      clear n0_ n1_ n2_ n3_
                      clear ho hb hg hat
                      refine hK.out _ _ ⟨(blk_cell BK108.out 0).trans rfl, (blk_cell BK108.out 1).trans rfl⟩ (fun hHeld => ?_)
                      clear hK K
                      refine norm_ (a' := ?_) ?_ ?_
                      rotate_left
                      · show Act.put _ (some 32) _ = _
                        simp only [Act.put, List.setIfInBounds_toArray, List.set_cons_zero, List.set_cons_succ, i64_w, i32_w]
                        rfl
                      refine pure_ (i := 13) (N := some 4) (v := ?_) (a' := ?_) #[true, true, true, true, true, true, true, true, true, true, true, true, true, true] rfl rfl (any_of HT_.out (by kernel_rfl)) (fun _ _ _ h => h) (Or.inl ⟨by rfl, ?_⟩) ?_ ?_
                      rotate_left
                      · intro w'
                        go_simp
                        with_reducible rfl
                      rotate_left
                      · simp only [Act.put, List.setIfInBounds_toArray, List.set_cons_zero, List.set_cons_succ, i64_w, i32_w]
                        rfl
                      refine done_ (done_of HT_.out (by kernel_rfl)) ?_
                      obtain ⟨Ao28, co28, eo28⟩ := Kd.R_slice HO120.out
                      subst eo28
                      have q27 : ((x4_1.length : Int) : Int) ≤ ((y118.length : Int) : Int) := of_decide_eq_true (by first | (with_reducible assumption) | assumption)
                      obtain ⟨i027, hi027, _, hsz27, _⟩ := info_parts info5
                      have hroom27 : y118.length ≤ co28 := (Kd.R_reads' HO120.out).2.1
                      have hC27 : Kd.F (Kd.int .u8) _ _ Ao28 y118.length y118 := (Kd.V_at (base := w.heap.size) (Kd.R_V (Kd.R_types (HO120.out) BK108.out (by decide)))).2.2
                      have q027 : (0 : Int) ≤ ((x4_1.length : Int) : Int) := of_decide_eq_true (by first | (with_reducible assumption) | assumption)
                      have hcut27 := cut_from (P := Try.prog) 24 5 .i64 Try.underlying24 hi027 1 hsz27 Ao28 y118.length co28 (x4_1.length : Int) q027 q27
                      have hr27 := Kd.F_cut (m := ((x4_1.length : Int) : Int).toNat) (c := co28) hC27 (by omega) hroom27
                      obtain ⟨A27, hA27⟩ : ∃ A1, A1 = (if co28 = ((x4_1.length : Int) : Int).toNat then Ao28 else (Ao28 : Option Addr).map (·.add (((x4_1.length : Int) : Int).toNat * 1))) := ⟨_, rfl⟩
                      obtain ⟨c27, hc27⟩ : ∃ c1, c1 = co28 - ((x4_1.length : Int) : Int).toNat := ⟨_, rfl⟩
                      have hy27 : y121.length = y118.length - ((x4_1.length : Int) : Int).toNat := (by rw [Ny121.out, List.length_drop] <;> omega)
                      rw [show (y118).drop ((x4_1.length : Int) : Int).toNat = y121 from Ny121.out.symm] at hr27
                      replace hr27 : Kd.F (Kd.int .u8) _ _ A27 y121.length y121 := (by rw [hA27]; exact hr27)
                      rw [← hy27, ← hA27, ← hc27] at hcut27
                      have HO125 := Aside0.mk (show Kd.V (Kd.int .u8) 5 _ w.heap.size _ (.slice A27 y121.length c27) y121 from Kd.V_mk (by rw [hy27, hc27]; exact Nat.sub_le_sub_right hroom27 _) hr27)
                      have HC125 := Aside0.mk (show y121.length ≤ c27 from by rw [hy27, hc27]; exact Nat.sub_le_sub_right hroom27 _)
                      clear hr27 hC27 hroom27 hi027 hsz27 hc27
                      have KY27 := Aside0.mk hy27
                      have KA27 := Aside0.mk hA27
                      clear hy27 hA27
                      replace q27 := eq_true q27
                      try go_wp2_with (first | ((with_reducible refine gate_dst (N := 37) rfl ?_); refine Kd.N_lit (Kd.slice 5 (Kd.int .u8)) _ 24 ?hg (N' := 37) ?hd (xs := ([y121] : List (List Int))) (inner := [.slice A27 y121.length c27]) (ok := (fun k_ => some k_ ≠ (.slice Ao23 y109.length co23 : Value).ownBlock ∧ k_ ≠ gb108)) (okp := (fun k_ => some k_ ≠ (.slice Ao23 y109.length co23 : Value).ownBlock ∧ k_ ≠ gb108)) ?hr ?hp (fun _ hk => hk) ((show ∀ k_, w26.heap.size ≤ k_ → (fun k_ => some k_ ≠ (.slice Ao23 y109.length co23 : Value).ownBlock ∧ k_ ≠ gb108) k_ from fun k_ hk => ⟨Kd.fresh' (Kd.R_lt (by (with_reducible repeat (first | apply Kd.R_alloc | apply Kd.R_drewN | apply Kd.R_drew)); exact HO111.out)) k_ hk, Kd.freshB (g := gb108) (o := .cells #[.int .u8 ((rd_T30 l0 x10_1).f0), .slice A107_1 ((rd_T30 l0 x10_1).f1).length c107_1] 30 (0, 0)) (by (with_reducible repeat (first | refine blk_drewN ?_ _ | refine blk_drew ?_ | refine blk_alloc ?_ _)); exact BK108.out) k_ hk⟩) _ (Nat.le_refl _)) (Below.refl _ _) (Nat.le_refl _) (by simp) ?_; (case hd => rfl); (case hg => rfl); (case hr => first | (go_simp; done) | (go_simp; rfl)); (case hp => exact (Reps.one (show Kd.FK (Kd.slice 5 (Kd.int .u8)) _ _ y121 [.slice A27 y121.length c27] from (Kd.FK_slice_mk (Kd.V_reads' (Kd.V_mono (ok' := (fun k_ => some k_ ≠ (.slice Ao23 y109.length co23 : Value).ownBlock ∧ k_ ≠ gb108)) (HO125.out) (fun k_ hk => ⟨hk.1, hk.2⟩))).2.1 (Kd.V_F (Kd.V_mono (ok' := (fun k_ => some k_ ≠ (.slice Ao23 y109.length co23 : Value).ownBlock ∧ k_ ≠ gb108)) (HO125.out) (fun k_ hk => ⟨hk.1, hk.2⟩))))) (Reps.none _ _))); intro v127 w29 ho30 hb hg_ hnew_; clear hg_ hnew_; (first | rw [← Ny126.out] at ho30 | (simp only [Int.reduceToNat] at ho30; rw [← Ny126.out] at ho30)); have n0_ := Aside0.mk (Kd.R_below (by (with_reducible repeat (first | apply Kd.R_alloc | apply Kd.R_drewN | apply Kd.R_drew)); exact HO111.out) hb); have n1_ := Aside0.mk (Kd.R_below (by (with_reducible repeat (first | apply Kd.R_alloc | apply Kd.R_drewN | apply Kd.R_drew)); exact HO120.out) hb); have n2_ := Aside0.mk (Kd.V_elder' (by (with_reducible repeat (first | apply Kd.V_alloc | apply Kd.V_drewN | apply Kd.V_drew)); exact HO125.out) (Kd.N_base ho30) hb); have n3_ := Aside0.mk (Kd.N_lower ho30 (below_size (by repeat (first | (with_reducible first | exact HB.out | apply below_alloc | apply pw_below_drewN | apply below_drew1 | refine below_set ?_ GE108.out) | exact HB.out)))); have n4_ := Aside0.mk (blk_below (g := gb108) (o := .cells #[.int .u8 ((rd_T30 l0 x10_1).f0), .slice A107_1 ((rd_T30 l0 x10_1).f1).length c107_1] 30 (0, 0)) (by (with_reducible repeat (first | refine blk_drewN ?_ _ | refine blk_drew ?_ | refine blk_alloc ?_ _)); exact BK108.out) hb); have n5_ := Aside0.mk (below_step (by repeat (first | (with_reducible first | exact HB.out | apply below_alloc | apply pw_below_drewN | apply below_drew1 | refine below_set ?_ GE108.out) | exact HB.out)) hb); clear HO111; clear HO120; clear HO125; clear BK108; clear HB; have HO111 := n0_; have HO120 := n1_; have HO125 := n2_; have HO128 := n3_; have BK108 := n4_; have HB := n5_; clear n0_ n1_ n2_ n3_ n4_ n5_; clear hb ho30; obtain ⟨Ao31, co31, eo31⟩ := Kd.N_slice HO128.out; subst eo31) | ((with_reducible refine gate_callee (f := 9) rfl ?_); refine goesL_ (some 38) rfl rfl Try.func9 (by kernel_rfl) rfl #[.slice Ao31 y126.length co31] rfl (by (try simp only [List.map_toArray, List.map_cons, List.map_nil]); first | done | rfl | (simp only [List.length_drop, List.length_take]; rfl)) ?_; (with_reducible refine (block_Sum.calls _ _ y126 t129 _ ?side1 ?side2 A13.out).mono ?_); (case side1 => repeat (first | exact (Kd.N_reads' HO128.out).2.2 | (with_reducible refine Kd.C_alloc ?_ _) | (with_reducible refine Kd.C_drewN ?_ _) | (with_reducible refine Kd.C_drew ?_))); (case side2 => exact (Kd.N_reads' HO128.out).2.1); rintro e w32 ⟨rfl, hb⟩; refine ⟨_, rfl, ?_⟩; have n0_ := Aside0.mk (Kd.R_below (by (with_reducible repeat (first | apply Kd.R_alloc | apply Kd.R_drewN | apply Kd.R_drew)); exact HO111.out) hb); have n1_ := Aside0.mk (Kd.R_below (by (with_reducible repeat (first | apply Kd.R_alloc | apply Kd.R_drewN | apply Kd.R_drew)); exact HO120.out) hb); have n2_ := Aside0.mk (Kd.V_below (by (with_reducible repeat (first | apply Kd.V_alloc | apply Kd.V_drewN | apply Kd.V_drew)); exact HO125.out) hb); have n3_ := Aside0.mk (Kd.N_below (by (with_reducible repeat (first | apply Kd.N_alloc | apply Kd.N_drewN | apply Kd.N_drew)); exact HO128.out) hb); have n4_ := Aside0.mk (blk_below (g := gb108) (o := .cells #[.int .u8 ((rd_T30 l0 x10_1).f0), .slice A107_1 ((rd_T30 l0 x10_1).f1).length c107_1] 30 (0, 0)) (by (with_reducible repeat (first | refine blk_drewN ?_ _ | refine blk_drew ?_ | refine blk_alloc ?_ _)); exact BK108.out) hb); have n5_ := Aside0.mk (below_step (by repeat (first | (with_reducible first | exact HB.out | apply below_alloc | apply pw_below_drewN | apply below_drew1 | refine below_set ?_ GE108.out) | exact HB.out)) hb); clear HO111; clear HO120; clear HO125; clear HO128; clear BK108; clear HB; have HO111 := n0_; have HO120 := n1_; have HO125 := n2_; have HO128 := n3_; have BK108 := n4_; have HB := n5_; clear n0_ n1_ n2_ n3_ n4_ n5_; (try clear hb); (try clear hb2); (try clear hk); (try clear hi)) | ((with_reducible refine gate_callee (f := 20) rfl ?_); refine goesL_ (some 39) rfl rfl Try.func20 (by kernel_rfl) rfl #[.slice Ao28 y118.length co28, .int .u32 t129] rfl (by (try simp only [List.map_toArray, List.map_cons, List.map_nil]); first | done | rfl | (simp only [List.length_drop, List.length_take]; rfl)) ?_; (with_reducible refine (block_four.calls (fun k_ => some k_ = (.slice Ao28 y118.length co28 : Value).ownBlock) (.slice Ao28 y118.length co28) y118 t129 t130 w _ ?side1 ?side2 A14.out).mono ?_); (case side1 => repeat (first | (with_reducible first | exact HB.out | apply below_alloc | apply pw_below_drewN | apply below_drew1 | refine below_set ?_ GE108.out) | exact HB.out)); (case side2 => exact Kd.R_tight rfl HO120.out); rintro e w33 ⟨v131, rfl, ho0, hb, hkp⟩; refine ⟨_, rfl, ?_⟩; have n0_ := Aside0.mk (blk_kept (by (with_reducible repeat (first | refine blk_drewN ?_ _ | refine blk_drew ?_ | refine blk_alloc ?_ _)); exact BK108.out) hkp (fun hs_ => (fun e_ => (Kd.R_ne HO120.out BK108.out (by decide)) e_) hs_)); have n1_ := Aside0.mk (Kd.R_mono (ok' := fun k_ => some k_ ≠ (v131 : Value).ownBlock) (Kd.R_keptB (HO111.out) hkp (fun k_ hk_ hs_ => (hk_.2) hs_)) (fun k_ hk_ => fun e_ => Or.elim (ho0.1 k_ e_.symm) (fun hs_ => hk_.2.1 hs_) (fun hn_ => Nat.not_le.2 hk_.2.2 hn_))); have n2_ := Aside0.mk (Kd.R_mono (ok' := fun k_ => some k_ ≠ (.slice Ao23 y109.length co23 : Value).ownBlock) ho0 (fun k_ hk_ => Or.elim hk_ (fun hs_ => fun e_ => (((HO111.out).1 k_ e_.symm).2) hs_) (fun hn_ => (Kd.fresh' (Kd.R_lt (by (with_reducible repeat (first | apply Kd.R_alloc | apply Kd.R_drewN | apply Kd.R_drew)); exact HO111.out)) k_ hn_)))); have n3_ := Aside0.mk (hb); clear BK108; clear HO111; clear HB; clear HO125; clear HO128; clear HO120; have BK108 := n0_; have HO111 := n1_; have HO132 := n2_; have HB := n3_; clear n0_ n1_ n2_ n3_; (try clear hb); (try clear hkp); (try clear ho0)))
                      go_roundg k1
                      case measure => have := HK1.out; omega
                      case rel => exact ⟨(t130), (wrap64 (x10_1 + 1)), (by first | rfl | (simp; done) | (simp [*]; done)), H', ⟨by have := HK1.out; omega⟩, ⟨by (with_reducible repeat (first | apply Kd.R_alloc | apply Kd.R_drewN | apply Kd.R_drew)); exact Kd.R_mono HO132.out (fun _ hk => trivial)⟩, ⟨by repeat (first | (with_reducible first | exact HB.out | apply below_alloc | apply pw_below_drewN | apply below_drew1 | refine below_set ?_ GE108.out) | exact HB.out)⟩⟩
                    · rw [if_neg c12] at H
                      exact absurd H (by simp)
                  · rw [if_neg c11] at H
                    exact absurd H (by simp)
                · rw [if_neg c10] at H
                  exact absurd H (by simp)
              · rw [if_neg c8] at H
                exact absurd H (by simp)
          · rw [if_neg c4] at H
            exact absurd H (by simp)
        · rw [if_neg c3] at H
          exact absurd H (by simp)
      · rw [if_neg c2] at H
        have c2b0 : decide (x10_1 < (l0.length : Int)) = false := decide_eq_false c2
        clear c2
        simp only [Option.some.injEq, Prod.mk.injEq] at H
        obtain ⟨rfl, rfl⟩ := H
        go_wp2
        go_ret2
        exact ⟨_, by first | rfl | (simp [errW_none, errW_some] <;> rfl) | (simp [*, errW_none, errW_some] <;> rfl), by (with_reducible repeat (first | apply Kd.R_alloc | apply Kd.R_drewN | apply Kd.R_drew)); exact HO_4.out, by repeat (first | (with_reducible first | exact HB.out | apply below_alloc | apply pw_below_drewN | apply below_drew1) | exact HB.out)⟩

/-! ### cobweblaw08_awake: function 8 -/
theorem awake_pack : block_Pack.f 3 [⟨7, [97]⟩] = some ([203, 7, 0, 0, 0, 1, 97, 109, 221, 68, 56], 0) := by decide +kernel
theorem awake_sum : block_Sum.f [[49, 50, 51, 52], [53, 54, 55, 56, 57]] = some 3421780262 := by decide +kernel
theorem awake_text : (strOfNums [203, 7, 0, 0, 0, 1, 97]).toList = [203, 7, 0, 0, 0, 1, 97] := by decide +kernel
set_option maxHeartbeats 1000000 in
set_option maxRecDepth 100000 in
theorem awake_any (w : World) : Calls Try.prog 8 #[] w fun e w' => e = .returned (.bool true) ∧ Below w.heap.size w w' := by
  have kc := fun (w : World) (C : Array Value) (n c : Nat) => Lib.run_convert_bytes_const (P := Try.prog) w 24 5 C n c Try.underlying24 Try.underlying5
  have hc0 : ∀ o, ((w.alloc (.cells #[.int .u8 97] 5 (1, 2))).alloc o).cell? ⟨w.heap.size, 0, none⟩ = some (.int .u8 97) := fun o => by
    rw [World.cell?_alloc_past _ _ _ (by simp), World.cell?_alloc_mark]; rfl
  go_enter Try.func8, Try.ntmps8
  go_wp2_with fail
  refine (block_Pack.calls 3 _ _ [⟨7, [97]⟩] _ _ _ (Mem.row_at (by simp) ?c1) (Nat.le_refl _) awake_pack).mono ?_
  case c1 =>
    intro j p hj
    match j, hj with
    | 0, hj =>
      obtain rfl := Option.some.inj hj
      refine ⟨_, k30_mk _ _ (A1 := some ⟨w.heap.size, 0, none⟩) (c1 := 1) (Nat.le_refl _) (Mem.ints_at (by simp) ?_), ?_⟩
      · intro j x hj
        match j, hj with
        | 0, hj =>
          obtain rfl := Option.some.inj hj
          exact hc0 _
      · intro i u hi
        match i, hi with
        | 0, hi =>
          obtain rfl := Option.some.inj hi
          simp
        | 1, hi =>
          obtain rfl := Option.some.inj hi
          simp
  rintro e w1 ⟨v0, rfl, hR, hb⟩
  obtain ⟨Ab, cb, rfl⟩ := Kd.R_slice hR
  obtain ⟨_, hcap, hC⟩ := Kd.R_reads' hR
  have HC := Aside0.mk hC
  have HB := Aside0.mk (below_step (below_alloc (below_alloc (Below.refl w.heap.size w) _) _) hb)
  clear hC hR hb
  have kc2 := Joins.run_convert_bytes_const_at (P := Try.prog) (w1.alloc (.cells #[.int .u8 49, .int .u8 50, .int .u8 51, .int .u8 52] 5 (4, 5))) 24 5 #[.int .u8 53, .int .u8 54, .int .u8 55, .int .u8 56, .int .u8 57] 5 5 (w1.heap.size + 1) (by simp) Try.underlying24 Try.underlying5
  simp only [List.size_toArray, List.length_cons, List.length_nil, Nat.zero_add, Nat.reduceAdd] at kc2
  go_wp2_with fail
  refine (block_Sum.calls _ _ [[49, 50, 51, 52], [53, 54, 55, 56, 57]] _ _ (Mem.row_at (by simp) ?c2) (Nat.le_refl _) awake_sum).mono ?_
  case c2 =>
    intro j p hj
    match j, hj with
    | 0, hj =>
      obtain rfl := Option.some.inj hj
      refine ⟨_, ⟨some ⟨w1.heap.size, 0, none⟩, 4, rfl, Nat.le_refl _, Mem.ints_at (by simp) (fun j x hx => ?_)⟩, fun i u hi => ?_⟩
      · rw [World.cell?_alloc_past _ _ _ (by simp; omega), World.cell?_alloc_past _ _ _ (by simp), World.cell?_alloc_mark]
        match j, hx with
        | 0, hx | 1, hx | 2, hx | 3, hx => obtain rfl := Option.some.inj hx; rfl
      · match i, hi with
        | 0, hi => obtain rfl := Option.some.inj hi; rw [World.cell?_alloc_at _ _ _ _ (by simp)]; rfl
    | 1, hj =>
      obtain rfl := Option.some.inj hj
      refine ⟨_, ⟨some ⟨w1.heap.size + 1, 0, none⟩, 5, rfl, Nat.le_refl _, Mem.ints_at (by simp) (fun j x hx => ?_)⟩, fun i u hi => ?_⟩
      · rw [World.cell?_alloc_past _ _ _ (by simp), Joins.cell_alloc_mark_at _ _ _ _ _ _ (by simp)]
        match j, hx with
        | 0, hx | 1, hx | 2, hx | 3, hx | 4, hx => obtain rfl := Option.some.inj hx; rfl
      · match i, hi with
        | 0, hi => obtain rfl := Option.some.inj hi; rw [World.cell?_alloc_at _ _ _ _ (by simp)]; rfl
  rintro e w2 ⟨rfl, hb2⟩
  have HB2 := Aside0.mk (below_step (below_alloc (below_alloc (below_alloc HB.out _) _) _) hb2)
  have hC2 := Kd.C_below (Kd.C_alloc (Kd.C_alloc (Kd.C_alloc HC.out (.cells #[.int .u8 49, .int .u8 50, .int .u8 51, .int .u8 52] 5 (4, 5))) (.cells #[.int .u8 53, .int .u8 54, .int .u8 55, .int .u8 56, .int .u8 57] 5 (5, 6))) (.cells #[.slice (some ⟨w1.heap.size, 0, none⟩) 4 4, .slice (some ⟨w1.heap.size + 1, 0, none⟩) 5 5] 24)) hb2
  obtain ⟨i0, hi0, _, hsz, _⟩ := info_parts info5
  have hcut := cut_to (P := Try.prog) 24 5 .i64 Try.underlying24 hi0 Ab 11 cb 7 (by omega) (by omega) hcap
  have hcv := Kd.C_string (P := Try.prog) (c := cb) Try.underlying24 Try.underlying5 Try.underlying9 (Kd.C_take (m := 7) hC2 (by simp))
  simp only [List.take_succ_cons, List.take_zero, List.length_cons, List.length_nil, Nat.zero_add, Nat.reduceAdd] at hcv
  obtain ⟨tx, htx⟩ : ∃ tx, tx = strOfNums [203, 7, 0, 0, 0, 1, 97] := ⟨_, rfl⟩
  rw [← htx] at hcv
  have hte : tx.toList = [203, 7, 0, 0, 0, 1, 97] := by rw [htx]; exact awake_text
  clear htx hC2 hi0 hsz hb2 HB HC kc kc2 hc0
  go_wp2
  go_ret
  exact ⟨rfl, HB2.out⟩
def cobweblaw08_awake.f : Option (Bool) := some true
theorem cobweblaw08_awake.calls (r : Bool) (w : World) (h : cobweblaw08_awake.f = some r) : Calls Try.prog 8 #[] w fun e w' => e = .returned (.bool r) ∧ Below w.heap.size w w' := by
  obtain rfl := Option.some.inj h
  exact awake_any w

/-! ### cobwebref08_Same: function 13 -/
/-- Do two blocks look alike? -/
def likeB (a b : S30) : Bool := a.f0 == b.f0 && (strOfNums a.f1).toList == (strOfNums b.f1).toList
def sameB (l0 l1 : List S30) : Bool := l0.length == l1.length && (List.zip l0 l1).all (fun p => likeB p.1 p.2)
theorem sameB_no {l0 l1 : List S30} (i : Nat) (h0 : i < l0.length) (h1 : i < l1.length) (h : likeB l0[i] l1[i] = false) : sameB l0 l1 = false := by
  unfold sameB
  rw [Bool.and_eq_false_iff]
  right
  rw [List.all_eq_false]
  exact ⟨(l0[i], l1[i]), List.mem_iff_getElem.2 ⟨i, by simp; omega, by simp⟩, by simp [h]⟩
theorem sameB_yes {l0 l1 : List S30} (hl : l0.length = l1.length) (h : ∀ i (h0 : i < l0.length) (h1 : i < l1.length), likeB l0[i] l1[i] = true) : sameB l0 l1 = true := by
  unfold sameB
  rw [Bool.and_eq_true]
  refine ⟨beq_iff_eq.2 hl, List.all_eq_true.2 fun p hp => ?_⟩
  obtain ⟨i, hi, rfl⟩ := List.mem_iff_getElem.1 hp
  simp only [List.length_zip] at hi
  simpa using h i (by omega) (by omega)
set_option maxHeartbeats 4000000 in
set_option maxRecDepth 100000 in
theorem same_any (A0 : Option Addr) (c0 : Nat) (l0 : List (S30)) (A1 : Option Addr) (c1 : Nat) (l1 : List (S30)) (w : World) (hr0 : Kd.C k30 w A0 l0.length l0) (hc0 : l0.length ≤ c0) (hr1 : Kd.C k30 w A1 l1.length l1) (hc1 : l1.length ≤ c1) :
    Calls Try.prog 13 #[.slice A0 l0.length c0, .slice A1 l1.length c1] w fun e w' => e = .returned (.bool (sameB l0 l1)) ∧ Drawn0 w w' := by
  have HR0 := Aside0.mk hr0
  have HR1 := Aside0.mk hr1
  have hmx : l0.length ≤ 9223372036854775807 := hr0.2.1
  clear hr0 hr1
  by_cases hl : l0.length = l1.length
  · have HL := Aside0.mk hl
    have e0 : ((l0.length : Int) == (l1.length : Int)) = true := beq_iff_eq.2 (by omega)
    have e1 : ((l0.length : Int) != (l1.length : Int)) = false := bne_eq_false_iff_eq.2 (by omega)
    clear hl
    go_enter Try.func13, Try.ntmps13
    go_wp2
    go_loopg [5] (l0.length) (fun kq v5 wr => ∃ (k : Nat), v5 = .int .i64 k ∧ Aside0 (k + kq = l0.length) ∧ k ≤ l0.length ∧ Aside0 (∀ i (h0 : i < l0.length) (h1 : i < l1.length), i < k → likeB l0[i] l1[i] = true) ∧ Drawn0 w wr)
    case atStart => exact ⟨0, rfl, ⟨by omega⟩, Nat.zero_le _, ⟨fun i _ _ h => absurd h (Nat.not_lt_zero _)⟩, Drawn0.refl _⟩
    case round =>
      obtain ⟨k, rfl, HK, hk, HA, ⟨m, rfl⟩⟩ := hrel
      clear e0 e1
      by_cases hlt : k < l0.length
      · have hl1 : k < l1.length := by have := HL.out; omega
        obtain ⟨ad0, B0, d0, ea0, hx0, hy0, hn0, hC0⟩ := at_T30 HR0.out (k : Int) (by omega) (by omega)
        obtain ⟨ad1, B1, d1, ea1, hx1, hy1, hn1, hC1⟩ := at_T30 HR1.out (k : Int) (by omega) (by omega)
        obtain ⟨x, hx⟩ : ∃ x, x = l0[k] := ⟨_, rfl⟩
        obtain ⟨y, hy⟩ : ∃ y, y = l1[k] := ⟨_, rfl⟩
        have rx : rd_T30 l0 (k : Int) = x := by rw [hx]; simp [rd_T30, hlt]
        have ry : rd_T30 l1 (k : Int) = y := by rw [hy]; simp [rd_T30, hl1]
        rw [rx] at hx0 hy0 hn0 hC0
        rw [ry] at hx1 hy1 hn1 hC1
        have HX := Aside0.mk hx
        have HY := Aside0.mk hy
        clear hx hy rx ry
        rw [Int.toNat_natCast] at hx0 hy0 hx1 hy1
        have v0 := fun n => Kd.C_string (P := Try.prog) (A := B0) (c := d0) Try.underlying24 Try.underlying5 Try.underlying9 (Kd.C_drewN hC0 n)
        have v1 := fun n => Kd.C_string (P := Try.prog) (A := B1) (c := d1) Try.underlying24 Try.underlying5 Try.underlying9 (Kd.C_drewN hC1 n)
        obtain ⟨s0, hs0⟩ : ∃ s, s = strOfNums x.f1 := ⟨_, rfl⟩
        obtain ⟨s1, hs1⟩ : ∃ s, s = strOfNums y.f1 := ⟨_, rfl⟩
        rw [← hs0] at v0
        rw [← hs1] at v1
        have HS0 := Aside0.mk hs0
        have HS1 := Aside0.mk hs1
        clear hs0 hs1 hC0 hC1
        cases ea0
        cases ea1
        by_cases hkd : x.f0 = y.f0
        · by_cases hbd : s0.toList = s1.toList
          · have HG := Aside0.mk (show likeB x y = true by unfold likeB; rw [← HS0.out, ← HS1.out, hbd, hkd]; simp)
            have b0 : (x.f0 == y.f0) = true := beq_iff_eq.2 hkd
            have b1 : (x.f0 != y.f0) = false := bne_eq_false_iff_eq.2 hkd
            have b2 : (s0.toList == s1.toList) = true := beq_iff_eq.2 hbd
            have b3 : (s0.toList != s1.toList) = false := bne_eq_false_iff_eq.2 hbd
            clear hkd hbd
            go_wp2
            go_quiet (fail)
            go_wp2
            go_roundg (l0.length - (k + 1))
            case measure => have := HK.out; omega
            case rel =>
              refine ⟨k + 1, by go_num, ⟨by omega⟩, by omega, ⟨fun i h0 h1 hi => ?_⟩, by repeat (first | exact Drawn0.refl _ | apply Drawn0.step)⟩
              rcases Nat.lt_succ_iff_lt_or_eq.1 hi with h | rfl
              · exact HA.out i h0 h1 h
              · rw [← HX.out, ← HY.out]; exact HG.out
          · have HG := Aside0.mk (show likeB x y = false by unfold likeB; rw [← HS0.out, ← HS1.out, beq_eq_false_iff_ne.2 hbd]; simp)
            have b0 : (x.f0 == y.f0) = true := beq_iff_eq.2 hkd
            have b1 : (x.f0 != y.f0) = false := bne_eq_false_iff_eq.2 hkd
            have b2 : (s0.toList == s1.toList) = false := beq_eq_false_iff_ne.2 hbd
            have b3 : (s0.toList != s1.toList) = true := bne_iff_ne.2 hbd
            clear hkd hbd
            go_wp2
            go_quiet (fail)
            go_wp2
            go_ret
            exact ⟨by rw [sameB_no k hlt hl1 (by rw [← HX.out, ← HY.out]; exact HG.out)]; rfl, by repeat (first | exact Drawn0.refl _ | apply Drawn0.step)⟩
        · have HG := Aside0.mk (show likeB x y = false by unfold likeB; rw [beq_eq_false_iff_ne.2 hkd]; simp)
          have b0 : (x.f0 == y.f0) = false := beq_eq_false_iff_ne.2 hkd
          have b1 : (x.f0 != y.f0) = true := bne_iff_ne.2 hkd
          clear hkd v0 v1
          go_wp2
          go_quiet (fail)
          go_wp2
          go_ret
          exact ⟨by rw [sameB_no k hlt hl1 (by rw [← HX.out, ← HY.out]; exact HG.out)]; rfl, by repeat (first | exact Drawn0.refl _ | apply Drawn0.step)⟩
      · go_wp2
        go_ret
        exact ⟨by rw [sameB_yes HL.out (fun i h0 h1 => HA.out i h0 h1 (by omega))]; rfl, by repeat (first | exact Drawn0.refl _ | apply Drawn0.step)⟩
  · have e0 : ((l0.length : Int) == (l1.length : Int)) = false := beq_eq_false_iff_ne.2 (by omega)
    have e1 : ((l0.length : Int) != (l1.length : Int)) = true := bne_iff_ne.2 (by omega)
    have HG := Aside0.mk (show sameB l0 l1 = false by unfold sameB; rw [beq_eq_false_iff_ne.2 hl]; rfl)
    clear hl
    go_enter Try.func13, Try.ntmps13
    go_wp2
    go_ret
    exact ⟨by rw [HG.out]; rfl, by repeat (first | exact Drawn0.refl _ | apply Drawn0.step)⟩
def cobwebref08_Same.f (l0 : List (S30)) (l1 : List (S30)) : Option (Bool) := some (sameB l0 l1)
theorem cobwebref08_Same.calls (A0 : Option Addr) (c0 : Nat) (l0 : List (S30)) (A1 : Option Addr) (c1 : Nat) (l1 : List (S30)) (r : Bool) (w : World) (hr0 : Kd.C k30 w A0 l0.length l0) (hc0 : l0.length ≤ c0) (hr1 : Kd.C k30 w A1 l1.length l1) (hc1 : l1.length ≤ c1) (h : cobwebref08_Same.f l0 l1 = some r) :
    Calls Try.prog 13 #[.slice A0 l0.length c0, .slice A1 l1.length c1] w fun e w' => e = .returned (.bool r) ∧ Drawn0 w w' := by
  obtain rfl := Option.some.inj h
  exact same_any A0 c0 l0 A1 c1 l1 w hr0 hc0 hr1 hc1

/-! ### block_word: function 21 -/
def block_word.f (l0 : List Int) : Option (Int) := if 0 < (l0.length : Int) then (if 1 < (l0.length : Int) then (if 2 < (l0.length : Int) then (if 3 < (l0.length : Int) then (some (Go.bits .or .u32 (Go.bits .or .u32 (Go.bits .or .u32 ((((rd l0 0) % 4294967296) * 16777216) % 4294967296) ((((rd l0 1) % 4294967296) * 65536) % 4294967296)) ((((rd l0 2) % 4294967296) * 256) % 4294967296)) ((rd l0 3) % 4294967296))) else (none)) else (none)) else (none)) else (none)
set_option maxHeartbeats 8000000 in
set_option maxRecDepth 100000 in
theorem block_word.calls (A0 : Option Addr) (c0 : Nat) (l0 : List Int) (r : Int) (w : World) (hr0 : Kd.C (Kd.int .u8) w A0 l0.length l0) (hc0 : l0.length ≤ c0) (h : block_word.f l0 = some r) :
    Calls Try.prog 21 #[.slice A0 l0.length c0] w fun e w' => e = .returned (.int .u32 r) ∧ Drawn0 w w' := by
  have HR0 := Aside0.mk hr0
  have HC0 := Aside0.mk hc0
  clear hr0 hc0
  have H : (if 0 < (l0.length : Int) then (if 1 < (l0.length : Int) then (if 2 < (l0.length : Int) then (if 3 < (l0.length : Int) then (some (Go.bits .or .u32 (Go.bits .or .u32 (Go.bits .or .u32 ((((rd l0 0) % 4294967296) * 16777216) % 4294967296) ((((rd l0 1) % 4294967296) * 65536) % 4294967296)) ((((rd l0 2) % 4294967296) * 256) % 4294967296)) ((rd l0 3) % 4294967296))) else (none)) else (none)) else (none)) else (none)) = some r := h
  clear h
  by_cases c2 : 0 < (l0.length : Int)
  · rw [if_pos c2] at H
    have c2b0 : decide (0 < (l0.length : Int)) = true := decide_eq_true c2
    have c2b1 : decide (0 < l0.length) = true := decide_eq_true (by omega)
    clear c2
    by_cases c3 : 1 < (l0.length : Int)
    · rw [if_pos c3] at H
      have c3b0 : decide (1 < (l0.length : Int)) = true := decide_eq_true c3
      have c3b1 : decide (1 < l0.length) = true := decide_eq_true (by omega)
      clear c3
      by_cases c4 : 2 < (l0.length : Int)
      · rw [if_pos c4] at H
        have c4b0 : decide (2 < (l0.length : Int)) = true := decide_eq_true c4
        have c4b1 : decide (2 < l0.length) = true := decide_eq_true (by omega)
        clear c4
        by_cases c5 : 3 < (l0.length : Int)
        · rw [if_pos c5] at H
          have c5b0 : decide (3 < (l0.length : Int)) = true := decide_eq_true c5
          have c5b1 : decide (3 < l0.length) = true := decide_eq_true (by omega)
          clear c5
          obtain rfl := Option.some.inj H
          have p133 : 0 ≤ (0 : Int) := (by omega)
          have q133 : 0 < (l0.length : Int) := of_decide_eq_true (by first | (with_reducible assumption) | assumption)
          obtain ⟨ad133, e133, hx133_0⟩ := Kd.at_int HR0.out 0 p133 q133
          cases e133
          have qi133 : (0 < l0.length) = True := eq_true (by omega)
          (try rw [show ((0 : Int)).toNat = 0 from rfl] at hx133_0)
          (try rw [Addr.add_zero'] at hx133_0)
          replace p133 := eq_true p133
          replace q133 := eq_true q133
          have p134 : 0 ≤ (1 : Int) := (by omega)
          have q134 : 1 < (l0.length : Int) := of_decide_eq_true (by first | (with_reducible assumption) | assumption)
          obtain ⟨ad134, e134, hx134_0⟩ := Kd.at_int HR0.out 1 p134 q134
          obtain rfl : ad133 = ad134 := (by injection e134)
          (try simp only [show (1 : Int).toNat = 1 from rfl, Nat.reduceMul, Nat.reduceEqDiff, Go.Addr.add, ↓reduceIte] at hx134_0)
          have qi134 : (1 < l0.length) = True := eq_true (by omega)
          (try rw [show ((1 : Int)).toNat = 1 from rfl] at hx134_0)
          replace p134 := eq_true p134
          replace q134 := eq_true q134
          have p135 : 0 ≤ (2 : Int) := (by omega)
          have q135 : 2 < (l0.length : Int) := of_decide_eq_true (by first | (with_reducible assumption) | assumption)
          obtain ⟨ad135, e135, hx135_0⟩ := Kd.at_int HR0.out 2 p135 q135
          obtain rfl : ad133 = ad135 := (by injection e135)
          (try simp only [show (2 : Int).toNat = 2 from rfl, Nat.reduceMul, Nat.reduceEqDiff, Go.Addr.add, ↓reduceIte] at hx135_0)
          have qi135 : (2 < l0.length) = True := eq_true (by omega)
          (try rw [show ((2 : Int)).toNat = 2 from rfl] at hx135_0)
          replace p135 := eq_true p135
          replace q135 := eq_true q135
          have p136 : 0 ≤ (3 : Int) := (by omega)
          have q136 : 3 < (l0.length : Int) := of_decide_eq_true (by first | (with_reducible assumption) | assumption)
          obtain ⟨ad136, e136, hx136_0⟩ := Kd.at_int HR0.out 3 p136 q136
          obtain rfl : ad133 = ad136 := (by injection e136)
          (try simp only [show (3 : Int).toNat = 3 from rfl, Nat.reduceMul, Nat.reduceEqDiff, Go.Addr.add, ↓reduceIte] at hx136_0)
          have qi136 : (3 < l0.length) = True := eq_true (by omega)
          (try rw [show ((3 : Int)).toNat = 3 from rfl] at hx136_0)
          replace p136 := eq_true p136
          replace q136 := eq_true q136
          go_enter Try.func21, Try.ntmps21
          go_wp2
          repeat (go_quiet (fail); try go_wp2)
          go_ret
          exact ⟨by first | rfl | (simp; done) | (simp [*]; done), by repeat (first | exact Drawn0.refl _ | apply Drawn0.step)⟩
        · rw [if_neg c5] at H
          exact absurd H (by simp)
      · rw [if_neg c4] at H
        exact absurd H (by simp)
    · rw [if_neg c3] at H
      exact absurd H (by simp)
  · rw [if_neg c2] at H
    exact absurd H (by simp)

/-! ### bytes_Clone: function 22 -/
def bytes_Clone.f (l0 : List Int) : Option (List Int) := if l0.length ≤ 140737488355328 then (some l0) else (none)
theorem bytes_Clone.calls (A0 : Option Addr) (c0 : Nat) (l0 : List Int) (r : List Int) (w : World) (hr0 : Kd.C (Kd.int .u8) w A0 l0.length l0) (hc0 : l0.length ≤ c0) (h : bytes_Clone.f l0 = some r) :
    Calls Try.prog 22 #[.slice A0 l0.length c0] w fun e w' => ∃ v0_ : Value, e = .returned (v0_) ∧ Kd.R (Kd.int .u8) 5 w' w.heap.size (fun _ => True) v0_ r ∧ Below w.heap.size w w' := by
  unfold bytes_Clone.f at h
  split at h
  · rename_i h1
    obtain rfl := Option.some.inj h
    exact Clone.calls A0 c0 l0 w hr0 hc0 h1
  · cases h

/-! ### block_Take: function 15 -/
def block_Take.f (l0 : List Int) : Option (Int × List Int × Int × Int) := if l0.all (fun x => decide (0 ≤ x ∧ x ≤ 255)) = true then (if l0.length ≤ 140737488355328 then (some (Take.tk l0)) else (none)) else (none)
theorem block_Take.calls (A0 : Option Addr) (c0 : Nat) (l0 : List Int) (r1 : Int) (r2 : List Int) (r3 : Int) (r4 : Int) (w : World) (hr0 : Kd.C (Kd.int .u8) w A0 l0.length l0) (hc0 : l0.length ≤ c0) (h : block_Take.f l0 = some (r1, r2, r3, r4)) :
    Calls Try.prog 15 #[.slice A0 l0.length c0] w fun e w' => ∃ v1_ : Value, e = .returned (.tuple #[.agg #[.int .u8 r1, v1_], .int .i64 r3, .int .i64 r4]) ∧ Kd.R (Kd.int .u8) 5 w' w.heap.size (fun _ => True) v1_ r2 ∧ Below w.heap.size w w' := by
  unfold block_Take.f at h
  split at h
  · rename_i h1
    split at h
    · rename_i h2
      exact Take.calls A0 c0 l0 r1 r2 r3 r4 w hr0 hc0 (fun x hx => of_decide_eq_true (List.all_eq_true.1 h1 x hx)) h2 (Option.some.inj h)
    · cases h
  · cases h

end Go.Proofs.Ytgonodfggiablaa.QBlockTakes
