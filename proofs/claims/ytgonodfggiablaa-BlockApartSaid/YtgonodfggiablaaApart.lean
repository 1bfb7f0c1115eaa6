/-
  BlockApart walked: the law's function returns true for every two blocks; nothing that was there is written.
-/
import Derived.Test.YtgonodfggiablaaProg
import Derived.Test.YtgonodfggiablaaQBlockApartx1
import Derived.Test.YtgonodfggiablaaQBlockApartx2
import Derived.Test.YtgonodfggiablaaMem
import Derived.Test.YtgonodfggiablaaRegH
import Derived.Test.YtgonodfggiablaaRegT
import Derived.Lib.SmallJoins
import Derived.Below
import Derived.Deep.Draws
import Derived.Deep.AppendLies
import Derived.Maps.AppendAt
import Derived.OwnWalk
import Derived.Laws.BytesArg
import Derived.Laws.MakeOwn
import Derived.Laws.OwnMore
import Derived.Deep.OwnRows
import Derived.Tactics
import Derived.Lib.ConvBytes
import Derived.Laws.Slices
import Derived.WalkKit
import Derived.KernelRfl
import Derived.RowKit3
import Derived.Deep.LoopGhost
import Derived.Deep.QuietTactic
import Derived.BigQuiet
import Derived.WideLaws
import Derived.Deep.DeepCutAuto
import Derived.Deep.CutBlock
import Derived.Deep.RegionHeld3
import Derived.Laws.Rows
import Derived.Lib.AppendStr
import Derived.ArgAppend
import Derived.Laws.IdiomCopy
import Derived.OrdersHeld
import Derived.Laws.BitsLemmas
import Derived.RowKit
import Derived.Lib.SliceRun
import Derived.Test.YtgonodfggiablaaWWords
import Derived.Test.YtgonodfggiablaaWLast
import Derived.Test.YtgonodfggiablaaWTab
import Derived.Test.YtgonodfggiablaaWFour
import Derived.Test.YtgonodfggiablaaWQPut
import Derived.Test.YtgonodfggiablaaWApart
import Derived.Test.YtgonodfggiablaaWArr
import Derived.Test.YtgonodfggiablaaWZeros
import Derived.Test.YtgonodfggiablaaWFoot
import Derived.Test.YtgonodfggiablaaWKept
import Derived.Test.YtgonodfggiablaaWShare
import Derived.Test.YtgonodfggiablaaWN
import Derived.Test.YtgonodfggiablaaWFootNe
import Derived.Test.YtgonodfggiablaaWAt
import Derived.Test.YtgonodfggiablaaWEqStruct
import Derived.Test.YtgonodfggiablaaWRepsOne
import Derived.Test.YtgonodfggiablaaWInv
import Derived.Test.YtgonodfggiablaaWInvWords
import Derived.Test.YtgonodfggiablaaWGuard
import Derived.Test.YtgonodfggiablaaWNEv
import Derived.Test.YtgonodfggiablaaWMore
namespace Go.Proofs.Ytgonodfggiablaa.Apart
open Go.RowKit Go.Proofs.YtgonodfggiablaaW.PrintWords Go.Proofs.YtgonodfggiablaaW.PrintLast Go.Proofs.YtgonodfggiablaaW.PrintMore
set_option linter.unusedVariables false
set_option linter.unusedSimpArgs false
open QBlockApart Mem
attribute [local go_sem] max2_int min2_int max_two min_two
theorem mk_cell {W : World} {g : Nat} {cells : Array Value} {t : Nat} {mk : Nat × Nat} (hb : W.heap[g]? = some (.cells cells t mk)) (j : Nat) : W.cell? ⟨g, j, none⟩ = cells[j]? := by simp [World.cell?, hb]
theorem at_top (W : World) (o : Obj) (n : Nat) (h : n = W.heap.size) : (W.alloc o).heap[n]? = some o := by subst h; exact heap_alloc_new W o
theorem str_app (a b : List Int) : strOfNums (a ++ b) = strOfNums a ++ strOfNums b := by
  apply ByteArray.ext
  simp [strOfNums]
/-- One block in a row of its own. -/
theorem one_C {W : World} {q c t : Nat} {A : Option Addr} {x : S30} {mk : Nat × Nat} (hq : W.heap[q]? = some (.cells #[.int .u8 x.f0, .slice A x.f1.length c] t mk)) (hc : x.f1.length ≤ c) (hC : (Kd.int .u8).C W A x.f1.length x.f1) : Kd.C k30 W (some ⟨q, 0, none⟩) [x].length [x] :=
  row_at (by simp) fun j p hj => by
    match j, hj with
    | 0, hj =>
      obtain rfl := Option.some.inj hj
      refine ⟨_, k30_mk _ _ hc hC, fun i u hi => ?_⟩
      match i, hi with
      | 0, hi =>
        obtain rfl := Option.some.inj hi
        exact (mk_cell hq 0).trans rfl
      | 1, hi =>
        obtain rfl := Option.some.inj hi
        exact (mk_cell hq 1).trans rfl
/-- Two blocks in a row of their own. -/
theorem two_C {W : World} {q c c' t : Nat} {A A' : Option Addr} {x y : S30} {mk : Nat × Nat} (hq : W.heap[q]? = some (.cells #[.int .u8 x.f0, .slice A x.f1.length c, .int .u8 y.f0, .slice A' y.f1.length c'] t mk)) (hc : x.f1.length ≤ c) (hC : (Kd.int .u8).C W A x.f1.length x.f1) (hc' : y.f1.length ≤ c') (hC' : (Kd.int .u8).C W A' y.f1.length y.f1) : Kd.C k30 W (some ⟨q, 0, none⟩) [x, y].length [x, y] :=
  row_at (by simp) fun j p hj => by
    match j, hj with
    | 0, hj =>
      obtain rfl := Option.some.inj hj
      refine ⟨_, k30_mk _ _ hc hC, fun i u hi => ?_⟩
      match i, hi with
      | 0, hi =>
        obtain rfl := Option.some.inj hi
        exact (mk_cell hq 0).trans rfl
      | 1, hi =>
        obtain rfl := Option.some.inj hi
        exact (mk_cell hq 1).trans rfl
    | 1, hj =>
      obtain rfl := Option.some.inj hj
      refine ⟨_, k30_mk _ _ hc' hC', fun i u hi => ?_⟩
      match i, hi with
      | 0, hi =>
        obtain rfl := Option.some.inj hi
        exact (mk_cell hq 2).trans rfl
      | 1, hi =>
        obtain rfl := Option.some.inj hi
        exact (mk_cell hq 3).trans rfl

set_option maxHeartbeats 8000000 in
set_option maxRecDepth 100000 in
theorem off (k : Nat) (A0 : Option Addr) (c0 : Nat) (A1 : Option Addr) (c1 : Nat) (x y : S30) (w : World) (hC0 : (Kd.int .u8).C w A0 x.f1.length x.f1) (hc0 : x.f1.length ≤ c0) (hC1 : (Kd.int .u8).C w A1 y.f1.length y.f1) (hc1 : y.f1.length ≤ c1)
    (P1 : Aside0 (cobweblaw08_small.f k [x, y] = some false)) :
    Calls Try.prog 4 #[.agg #[.int .u8 x.f0, .slice A0 x.f1.length c0], .agg #[.int .u8 y.f0, .slice A1 y.f1.length c1]] w fun e w' => e = .returned (.bool true) ∧ Below w.heap.size w w' := by
  have HC0 := Aside0.mk hC0
  have HC1 := Aside0.mk hC1
  clear hC0 hC1
  obtain ⟨m0, hm0⟩ : ∃ m, m = x.f1.length := ⟨_, rfl⟩
  obtain ⟨m1, hm1⟩ : ∃ m, m = y.f1.length := ⟨_, rfl⟩
  have hu30 := Try.underlying30
  rw [← hm0, ← hm1]
  have HM0 := Aside0.mk hm0
  have HM1 := Aside0.mk hm1
  have HL0 := Aside0.mk (show m0 ≤ c0 by rw [hm0]; exact hc0)
  have HL1 := Aside0.mk (show m1 ≤ c1 by rw [hm1]; exact hc1)
  clear hm0 hm1 hc0 hc1
  go_enter Try.func4, Try.ntmps4
  go_wp2_with fail
  refine Calls.mono (awake_any _) ?_
  rintro e w1 ⟨rfl, hb⟩
  obtain ⟨wb, hwb⟩ : ∃ wb : World, wb = w1 := ⟨_, rfl⟩
  subst hwb
  have hbx : wb.heap[w.heap.size]? = some (.cells #[.int .u8 x.f0, .slice A0 m0 c0] 30 (0, 0)) := blk_below (blk_alloc (heap_alloc_new w _) _) hb
  have hby : wb.heap[w.heap.size + 1]? = some (.cells #[.int .u8 y.f0, .slice A1 m1 c1] 30 (0, 0)) := blk_below (by simpa using heap_alloc_new (w.alloc _) _) hb
  have hx0 : wb.cell? ⟨w.heap.size, 0, none⟩ = some (.int .u8 x.f0) := (blk_cell hbx 0).trans rfl
  have hx1 : wb.cell? ⟨w.heap.size, 1, none⟩ = some (.slice A0 m0 c0) := (blk_cell hbx 1).trans rfl
  have hy0 : wb.cell? ⟨w.heap.size + 1, 0, none⟩ = some (.int .u8 y.f0) := (blk_cell hby 0).trans rfl
  have hy1 : wb.cell? ⟨w.heap.size + 1, 1, none⟩ = some (.slice A1 m1 c1) := (blk_cell hby 1).trans rfl
  have HB := Aside0.mk (show Below w.heap.size w wb from below_step (below_alloc (below_alloc (Below.refl _ _) _) _) hb)
  have HX := Aside0.mk (Kd.C_below HC0.out HB.out)
  have HY := Aside0.mk (Kd.C_below HC1.out HB.out)
  clear hbx hby hb HC0 HC1
  go_wp2_with fail
  refine Calls.mono (cobweblaw08_small.calls k _ _ [x, y] false _ (two_C (t := 30) (mk := (0, 0)) (c := c0) (c' := c1) (by rw [← HM0.out, ← HM1.out]; exact heap_alloc_new wb _) (by rw [← HM0.out]; exact HL0.out) (Kd.C_alloc HX.out _) (by rw [← HM1.out]; exact HL1.out) (Kd.C_alloc HY.out _)) (Nat.le_refl 2) P1.out) ?_
  rintro e w2 ⟨rfl, ⟨nd, rfl⟩⟩
  go_wp2_with fail
  refine Calls.mono (awake_any _) ?_
  rintro e w3 ⟨rfl, hb⟩
  have HB3 := Aside0.mk (below_step HB.out (below_step (pw_below_drewN (below_alloc (Below.refl _ _) _) _) hb))
  clear hb
  go_wp2
  go_ret
  exact ⟨rfl, HB3.out⟩

set_option maxHeartbeats 8000000 in
set_option maxRecDepth 100000 in
theorem core (k : Nat) (A0 : Option Addr) (c0 : Nat) (A1 : Option Addr) (c1 : Nat) (x y : S30) (w : World) (hC0 : (Kd.int .u8).C w A0 x.f1.length x.f1) (hc0 : x.f1.length ≤ c0) (hC1 : (Kd.int .u8).C w A1 y.f1.length y.f1) (hc1 : y.f1.length ≤ c1)
    (ba bb : List Int) (s : Bool) (nn : Nat) (hn : nn = min ba.length bb.length) (hla : ba.length ≤ 100000) (hlb : bb.length ≤ 100000)
    (P1 : Aside0 (cobweblaw08_small.f k [x, y] = some true)) (Pa : Aside0 (block_Pack.f k [x] = some (ba, 0))) (Pb : Aside0 (block_Pack.f k [y] = some (bb, 0))) (Pab : Aside0 (block_Pack.f k [x, y] = some (ba ++ bb, 0)))
    (Ps : Aside0 (cobwebref08_Same.f [x] [y] = some s)) (Pt : ((strOfNums (ba.take nn)).toList == (strOfNums (bb.take nn)).toList) = s)
    (Sa : Aside0 (block_Size.f k [x] = some (ba.length : Int))) (Sb : Aside0 (block_Size.f k [y] = some (bb.length : Int))) (Sab : Aside0 (block_Size.f k [x, y] = some ((ba.length : Int) + (bb.length : Int)))) :
    Calls Try.prog 4 #[.agg #[.int .u8 x.f0, .slice A0 x.f1.length c0], .agg #[.int .u8 y.f0, .slice A1 y.f1.length c1]] w fun e w' => e = .returned (.bool true) ∧ Below w.heap.size w w' := by
  have HC0 := Aside0.mk hC0
  have HC1 := Aside0.mk hC1
  clear hC0 hC1
  obtain ⟨m0, hm0⟩ : ∃ m, m = x.f1.length := ⟨_, rfl⟩
  obtain ⟨m1, hm1⟩ : ∃ m, m = y.f1.length := ⟨_, rfl⟩
  have hu30 := Try.underlying30
  rw [← hm0, ← hm1]
  have HM0 := Aside0.mk hm0
  have HM1 := Aside0.mk hm1
  have HL0 := Aside0.mk (show m0 ≤ c0 by rw [hm0]; exact hc0)
  have HL1 := Aside0.mk (show m1 ≤ c1 by rw [hm1]; exact hc1)
  clear hm0 hm1 hc0 hc1
  have HPT := Aside0.mk Pt
  have HN := Aside0.mk hn
  clear Pt hn
  go_enter Try.func4, Try.ntmps4
  go_wp2_with fail
  refine Calls.mono (awake_any _) ?_
  rintro e w1 ⟨rfl, hb⟩
  obtain ⟨wb, hwb⟩ : ∃ wb : World, wb = w1 := ⟨_, rfl⟩
  subst hwb
  have hbx : wb.heap[w.heap.size]? = some (.cells #[.int .u8 x.f0, .slice A0 m0 c0] 30 (0, 0)) := blk_below (blk_alloc (heap_alloc_new w _) _) hb
  have hby : wb.heap[w.heap.size + 1]? = some (.cells #[.int .u8 y.f0, .slice A1 m1 c1] 30 (0, 0)) := blk_below (by simpa using heap_alloc_new (w.alloc _) _) hb
  have HB := Aside0.mk (show Below w.heap.size w wb from below_step (below_alloc (below_alloc (Below.refl _ _) _) _) hb)
  have HX := Aside0.mk (Kd.C_below HC0.out HB.out)
  have HY := Aside0.mk (Kd.C_below HC1.out HB.out)
  have hx0 : ∀ W, Below wb.heap.size wb W → W.cell? ⟨w.heap.size, 0, none⟩ = some (.int .u8 x.f0) := fun W h => (blk_cell (blk_below hbx h) 0).trans rfl
  have hx1 : ∀ W, Below wb.heap.size wb W → W.cell? ⟨w.heap.size, 1, none⟩ = some (.slice A0 m0 c0) := fun W h => (blk_cell (blk_below hbx h) 1).trans rfl
  have hy0 : ∀ W, Below wb.heap.size wb W → W.cell? ⟨w.heap.size + 1, 0, none⟩ = some (.int .u8 y.f0) := fun W h => (blk_cell (blk_below hby h) 0).trans rfl
  have hy1 : ∀ W, Below wb.heap.size wb W → W.cell? ⟨w.heap.size + 1, 1, none⟩ = some (.slice A1 m1 c1) := fun W h => (blk_cell (blk_below hby h) 1).trans rfl
  have HTWO : Aside0 (∀ W, Below wb.heap.size wb W → ∀ q mk, W.heap[q]? = some (.cells #[.int .u8 x.f0, .slice A0 m0 c0, .int .u8 y.f0, .slice A1 m1 c1] 30 mk) → Kd.C k30 W (some ⟨q, 0, none⟩) [x, y].length [x, y]) :=
    ⟨fun W h q mk hq => two_C (c := c0) (c' := c1) (by rw [← HM0.out, ← HM1.out]; exact hq) (by rw [← HM0.out]; exact HL0.out) (Kd.C_below HX.out h) (by rw [← HM1.out]; exact HL1.out) (Kd.C_below HY.out h)⟩
  have HONX : Aside0 (∀ W, Below wb.heap.size wb W → ∀ q mk, W.heap[q]? = some (.cells #[.int .u8 x.f0, .slice A0 m0 c0] 30 mk) → Kd.C k30 W (some ⟨q, 0, none⟩) [x].length [x]) :=
    ⟨fun W h q mk hq => one_C (c := c0) (by rw [← HM0.out]; exact hq) (by rw [← HM0.out]; exact HL0.out) (Kd.C_below HX.out h)⟩
  have HONY : Aside0 (∀ W, Below wb.heap.size wb W → ∀ q mk, W.heap[q]? = some (.cells #[.int .u8 y.f0, .slice A1 m1 c1] 30 mk) → Kd.C k30 W (some ⟨q, 0, none⟩) [y].length [y]) :=
    ⟨fun W h q mk hq => one_C (c := c1) (by rw [← HM1.out]; exact hq) (by rw [← HM1.out]; exact HL1.out) (Kd.C_below HY.out h)⟩
  clear hbx hby hb HC0 HC1 HX HY
  have hb0 : Below wb.heap.size wb wb := Below.refl _ _
  have hal : ∀ W o, Below wb.heap.size wb W → Below wb.heap.size wb (W.alloc o) := fun W o h => below_alloc h o
  have hdr : ∀ W, Below wb.heap.size wb W → Below wb.heap.size wb W.drew := fun W h => below_drew1 h
  go_wp2_with fail
  refine Calls.mono (cobweblaw08_small.calls k _ _ [x, y] true _ (HTWO.out _ (below_alloc hb0 _) _ _ (heap_alloc_new wb _)) (Nat.le_refl 2) P1.out) ?_
  rintro e w2 ⟨rfl, hd⟩
  have hb2 := below_step (below_alloc hb0 _) hd.below
  clear hd
  go_wp2_with fail
  refine Calls.mono (block_Pack.calls k _ _ [x] _ _ _ (HONX.out _ (below_alloc hb2 _) _ _ (heap_alloc_new w2 _)) (Nat.le_refl 1) Pa.out) ?_
  rintro e w3 ⟨va, rfl, hR, hd⟩
  have hb3 := below_step (below_alloc hb2 _) hd
  obtain ⟨Aa, ca, rfl⟩ := Kd.R_slice hR
  have HRa := Aside0.mk (Kd.R_reads' hR).2.2
  have HCa := Aside0.mk (Kd.R_reads' hR).2.1
  clear hd hb2 hR
  go_wp2_with fail
  refine Calls.mono (block_Pack.calls k _ _ [y] _ _ _ (HONY.out _ (below_alloc hb3 _) _ _ (heap_alloc_new w3 _)) (Nat.le_refl 1) Pb.out) ?_
  rintro e w4 ⟨vb, rfl, hR, hd⟩
  have hb4 := below_step (below_alloc hb3 _) hd
  have hda := below_step (below_alloc (Below.refl _ _) _) hd
  obtain ⟨Ab, cb, rfl⟩ := Kd.R_slice hR
  have HRa4 := Aside0.mk (Kd.C_below HRa.out hda)
  have HRb := Aside0.mk (Kd.R_reads' hR).2.2
  have HCb := Aside0.mk (Kd.R_reads' hR).2.1
  clear hd hb3 hR hda HRa
  go_wp2_with fail
  refine Calls.mono (block_Pack.calls k _ _ [x, y] _ _ _ (HTWO.out _ (below_alloc hb4 _) _ _ (heap_alloc_new w4 _)) (Nat.le_refl 2) Pab.out) ?_
  rintro e w5 ⟨vz, rfl, hR, hd⟩
  have hb5 := below_step (below_alloc hb4 _) hd
  have hda := below_step (below_alloc (Below.refl _ _) _) hd
  obtain ⟨Az, cz, rfl⟩ := Kd.R_slice hR
  have HRa5 := Aside0.mk (Kd.C_below HRa4.out hda)
  have HRb5 := Aside0.mk (Kd.C_below HRb.out hda)
  have HRz := Aside0.mk (Kd.R_reads' hR).2.2
  have HCz := Aside0.mk (Kd.R_reads' hR).2.1
  have hmin : (if (bb.length : Int) < (ba.length : Int) then (bb.length : Int) else (ba.length : Int)) = (nn : Int) := by
    rw [HN.out]; split <;> omega
  have hmin2 : (if bb.length < ba.length then (bb.length : Int) else (ba.length : Int)) = (nn : Int) := by
    rw [HN.out]; split <;> omega
  clear hd hb4 hR hda HRa4 HRb
  go_upto_region 7 with (fail)
  go_cut [12] from 13 to 51 (fun v12 wc => v12 = .bool s ∧ Below w5.heap.size w5 wc)
  case first =>
    go_wp2_with (fail)
    refine Calls.mono (cobwebref08_Same.calls _ _ [x] _ _ [y] s _ (HONX.out _ (below_alloc (below_alloc hb5 _) _) _ _ (blk_alloc (heap_alloc_new w5 _) _)) (Nat.le_refl 1) (HONY.out _ (below_alloc (below_alloc hb5 _) _) _ _ (by simpa using heap_alloc_new (w5.alloc _) _)) (Nat.le_refl 1) Ps.out) ?_
    rintro e w6 ⟨rfl, hd⟩
    have HB56 := Aside0.mk (below_step (below_alloc (below_alloc (Below.refl _ _) _) _) hd.below)
    clear hd
    go_wp2
    go_meet
    case rel => exact ⟨rfl, HB56.out⟩
  obtain ⟨rfl, hb56⟩ := hcut
  obtain ⟨w6, hw6⟩ : ∃ w6 : World, w6 = wc := ⟨_, rfl⟩
  subst hw6
  have hb6 := below_step hb5 hb56
  obtain ⟨i5, hi5, _, hsz5, _⟩ := info_parts Clone.info5
  have hnA : (nn : Int) ≤ (ba.length : Int) := by rw [HN.out]; omega
  have hnB : (nn : Int) ≤ (bb.length : Int) := by rw [HN.out]; omega
  have hcutA := cut_to (P := Try.prog) 24 5 .i64 Try.underlying24 hi5 Aa ba.length ca (nn : Int) (by omega) hnA HCa.out
  have hcutB := cut_to (P := Try.prog) 24 5 .i64 Try.underlying24 hi5 Ab bb.length cb (nn : Int) (by omega) hnB HCb.out
  rw [Int.toNat_natCast] at hcutA hcutB
  obtain ⟨ta, hta⟩ : ∃ t, t = strOfNums ba := ⟨_, rfl⟩
  obtain ⟨tb, htb⟩ : ∃ t, t = strOfNums bb := ⟨_, rfl⟩
  obtain ⟨pa, hpa⟩ : ∃ t, t = strOfNums (ba.take nn) := ⟨_, rfl⟩
  obtain ⟨pb, hpb⟩ : ∃ t, t = strOfNums (bb.take nn) := ⟨_, rfl⟩
  have hsa : ta.size = ba.length := by rw [hta, strOfNums_size]
  have hsb : tb.size = bb.length := by rw [htb, strOfNums_size]
  have hcat : (9223372036854775807 < ta.size + tb.size) = False := eq_false (by omega)
  have heq : (pa.toList == pb.toList) = s := by rw [hpa, hpb]; exact HPT.out
  have hca : ∀ W, Below w6.heap.size w6 W → Sem.run Try.prog (convert 24 9 (.slice Aa ba.length ca)) W = .ok (.string ta) W := fun W h => by
    rw [hta]; exact Kd.C_string Try.underlying24 Try.underlying5 Try.underlying9 (Kd.C_below HRa5.out (below_step hb56 h))
  have hcb : ∀ W, Below w6.heap.size w6 W → Sem.run Try.prog (convert 24 9 (.slice Ab bb.length cb)) W = .ok (.string tb) W := fun W h => by
    rw [htb]; exact Kd.C_string Try.underlying24 Try.underlying5 Try.underlying9 (Kd.C_below HRb5.out (below_step hb56 h))
  have hcz' : ∀ W, Below w6.heap.size w6 W → Sem.run Try.prog (convert 24 9 (.slice Az (ba.length + bb.length) cz)) W = .ok (.string (ta ++ tb)) W := fun W h => by
    have h1 := Kd.C_string (P := Try.prog) (c := cz) Try.underlying24 Try.underlying5 Try.underlying9 (Kd.C_below HRz.out (below_step hb56 h))
    rw [List.length_append, str_app, ← hta, ← htb] at h1; exact h1
  have hcpa : ∀ W, Below w6.heap.size w6 W → Sem.run Try.prog (convert 24 9 (.slice Aa nn ca)) W = .ok (.string pa) W := fun W h => by
    have h1 := Kd.C_string (P := Try.prog) (c := ca) Try.underlying24 Try.underlying5 Try.underlying9 (Kd.C_take (m := nn) (Kd.C_below HRa5.out (below_step hb56 h)) (by omega))
    rw [← hpa, show (ba.take nn).length = nn by rw [List.length_take]; omega] at h1; exact h1
  have hcpb : ∀ W, Below w6.heap.size w6 W → Sem.run Try.prog (convert 24 9 (.slice Ab nn cb)) W = .ok (.string pb) W := fun W h => by
    have h1 := Kd.C_string (P := Try.prog) (c := cb) Try.underlying24 Try.underlying5 Try.underlying9 (Kd.C_take (m := nn) (Kd.C_below HRb5.out (below_step hb56 h)) (by omega))
    rw [← hpb, show (bb.take nn).length = nn by rw [List.length_take]; omega] at h1; exact h1
  have gx0 : ∀ W, Below w6.heap.size w6 W → W.cell? ⟨w.heap.size, 0, none⟩ = some (.int .u8 x.f0) := fun W h => hx0 W (below_step hb6 h)
  have gx1 : ∀ W, Below w6.heap.size w6 W → W.cell? ⟨w.heap.size, 1, none⟩ = some (.slice A0 m0 c0) := fun W h => hx1 W (below_step hb6 h)
  have gy0 : ∀ W, Below w6.heap.size w6 W → W.cell? ⟨w.heap.size + 1, 0, none⟩ = some (.int .u8 y.f0) := fun W h => hy0 W (below_step hb6 h)
  have gy1 : ∀ W, Below w6.heap.size w6 W → W.cell? ⟨w.heap.size + 1, 1, none⟩ = some (.slice A1 m1 c1) := fun W h => hy1 W (below_step hb6 h)
  have GTWO : Aside0 (∀ W, Below w6.heap.size w6 W → ∀ q mk, W.heap[q]? = some (.cells #[.int .u8 x.f0, .slice A0 m0 c0, .int .u8 y.f0, .slice A1 m1 c1] 30 mk) → Kd.C k30 W (some ⟨q, 0, none⟩) [x, y].length [x, y]) := ⟨fun W h => HTWO.out W (below_step hb6 h)⟩
  have GONX : Aside0 (∀ W, Below w6.heap.size w6 W → ∀ q mk, W.heap[q]? = some (.cells #[.int .u8 x.f0, .slice A0 m0 c0] 30 mk) → Kd.C k30 W (some ⟨q, 0, none⟩) [x].length [x]) := ⟨fun W h => HONX.out W (below_step hb6 h)⟩
  have GONY : Aside0 (∀ W, Below w6.heap.size w6 W → ∀ q mk, W.heap[q]? = some (.cells #[.int .u8 y.f0, .slice A1 m1 c1] 30 mk) → Kd.C k30 W (some ⟨q, 0, none⟩) [y].length [y]) := ⟨fun W h => HONY.out W (below_step hb6 h)⟩
  have HB6 := Aside0.mk (below_step HB.out hb6)
  have hsum : IntKind.i64.wrap ((ba.length : Int) + (bb.length : Int)) = (ba.length : Int) + (bb.length : Int) := by rw [IntKind.wrap_i64]; omega
  have ZSab : Aside0 (∀ W q n, n = 2 → Below w6.heap.size w6 W → W.heap[q]? = some (.cells #[.int .u8 x.f0, .slice A0 m0 c0, .int .u8 y.f0, .slice A1 m1 c1] 30 (0, 0)) → Calls Try.prog 14 #[.slice (some ⟨q, 0, none⟩) n n] W fun e w' => e = .returned (.int .i64 ((ba.length : Int) + (bb.length : Int))) ∧ Below W.heap.size W w') := ⟨fun W q n hn h hq => by subst hn; exact block_Size.calls k _ _ [x, y] _ _ (GTWO.out W h q _ hq) (Nat.le_refl 2) Sab.out⟩
  have ZSa : Aside0 (∀ W q n, n = 1 → Below w6.heap.size w6 W → W.heap[q]? = some (.cells #[.int .u8 x.f0, .slice A0 m0 c0] 30 (0, 0)) → Calls Try.prog 14 #[.slice (some ⟨q, 0, none⟩) n n] W fun e w' => e = .returned (.int .i64 ((ba.length : Int))) ∧ Below W.heap.size W w') := ⟨fun W q n hn h hq => by subst hn; exact block_Size.calls k _ _ [x] _ _ (GONX.out W h q _ hq) (Nat.le_refl 1) Sa.out⟩
  have ZSb : Aside0 (∀ W q n, n = 1 → Below w6.heap.size w6 W → W.heap[q]? = some (.cells #[.int .u8 y.f0, .slice A1 m1 c1] 30 (0, 0)) → Calls Try.prog 14 #[.slice (some ⟨q, 0, none⟩) n n] W fun e w' => e = .returned (.int .i64 ((bb.length : Int))) ∧ Below W.heap.size W w') := ⟨fun W q n hn h hq => by subst hn; exact block_Size.calls k _ _ [y] _ _ (GONY.out W h q _ hq) (Nat.le_refl 1) Sb.out⟩
  clear hb5 hb56 hb6 hb0 hal hdr hx0 hx1 hy0 hy1 HTWO HONX HONY hta htb hpa hpb hsa hsb hmin hmin2 HRa5 HRb5 HRz
  go_wp2_with fail
  refine RegH.startH (fun W => Below w6.heap.size w6 W) (by kernel_rfl) rfl (below_drew1 (Below.refl _ _)) (fun hS => ?_)
  (refine RegH.tkH (i := 0) (d := 52) (oi := ⟨_, _, _, _, _, _⟩) (v := ?_) rfl rfl (by kernel_rfl) (by kernel_rfl) (by kernel_rfl) (fun _ _ _ h => h) (Or.inl ⟨by rfl, ?_⟩) hS ?_; rotate_left; (intro w hSw; (try dsimp only at hSw); go_simp); try (with_reducible rfl))
  try simp only [Act.put, List.setIfInBounds_toArray, List.set_cons_zero, List.set_cons_succ]
  (refine RegH.tkH (i := 1) (d := 53) (oi := ⟨_, _, _, _, _, _⟩) (v := ?_) rfl rfl (by kernel_rfl) (by kernel_rfl) (by kernel_rfl) (fun _ _ _ h => h) (Or.inl ⟨by rfl, ?_⟩) hS ?_; rotate_left; (intro w hSw; (try dsimp only at hSw); go_simp); try (with_reducible rfl))
  try simp only [Act.put, List.setIfInBounds_toArray, List.set_cons_zero, List.set_cons_succ]
  (refine RegH.tkH (i := 2) (d := 54) (oi := ⟨_, _, _, _, _, _⟩) (v := ?_) rfl rfl (by kernel_rfl) (by kernel_rfl) (by kernel_rfl) (fun _ _ _ h => h) (Or.inl ⟨by rfl, ?_⟩) hS ?_; rotate_left; (intro w hSw; (try dsimp only at hSw); go_simp); try (with_reducible rfl))
  try simp only [Act.put, List.setIfInBounds_toArray, List.set_cons_zero, List.set_cons_succ]
  (refine RegH.tkH (i := 3) (d := 55) (oi := ⟨_, _, _, _, _, _⟩) (v := ?_) rfl rfl (by kernel_rfl) (by kernel_rfl) (by kernel_rfl) (fun _ _ _ h => h) (Or.inl ⟨by rfl, ?_⟩) hS ?_; rotate_left; (intro w hSw; (try dsimp only at hSw); go_simp); try (with_reducible rfl))
  try simp only [Act.put, List.setIfInBounds_toArray, List.set_cons_zero, List.set_cons_succ]
  (refine RegH.tkH (i := 4) (d := 56) (oi := ⟨_, _, _, _, _, _⟩) (v := ?_) rfl rfl (by kernel_rfl) (by kernel_rfl) (by kernel_rfl) (fun _ _ _ h => h) (Or.inl ⟨by rfl, ?_⟩) hS ?_; rotate_left; (intro w hSw; (try dsimp only at hSw); go_simp); try (with_reducible rfl))
  try simp only [Act.put, List.setIfInBounds_toArray, List.set_cons_zero, List.set_cons_succ]
  (refine RegH.tkH (i := 5) (d := 57) (oi := ⟨_, _, _, _, _, _⟩) (v := ?_) rfl rfl (by kernel_rfl) (by kernel_rfl) (by kernel_rfl) (fun _ _ _ h => h) (Or.inl ⟨by rfl, ?_⟩) hS ?_; rotate_left; (intro w hSw; (try dsimp only at hSw); go_simp); try (with_reducible rfl))
  try simp only [Act.put, List.setIfInBounds_toArray, List.set_cons_zero, List.set_cons_succ]
  (refine RegH.tkH (i := 6) (d := 58) (oi := ⟨_, _, _, _, _, _⟩) (v := ?_) rfl rfl (by kernel_rfl) (by kernel_rfl) (by kernel_rfl) (fun _ _ _ h => h) (Or.inl ⟨by rfl, ?_⟩) hS ?_; rotate_left; (intro w hSw; (try dsimp only at hSw); go_simp); try (with_reducible rfl))
  try simp only [Act.put, List.setIfInBounds_toArray, List.set_cons_zero, List.set_cons_succ]
  (refine RegH.tkH (i := 7) (d := 59) (oi := ⟨_, _, _, _, _, _⟩) (v := ?_) rfl rfl (by kernel_rfl) (by kernel_rfl) (by kernel_rfl) (fun _ _ _ h => h) (Or.inl ⟨by rfl, ?_⟩) hS ?_; rotate_left; (intro w hSw; (try dsimp only at hSw); go_simp); try (with_reducible rfl))
  try simp only [Act.put, List.setIfInBounds_toArray, List.set_cons_zero, List.set_cons_succ]
  (refine RegH.tkH (i := 8) (d := 60) (oi := ⟨_, _, _, _, _, _⟩) (v := ?_) rfl rfl (by kernel_rfl) (by kernel_rfl) (by kernel_rfl) (fun _ _ _ h => h) (Or.inl ⟨by rfl, ?_⟩) hS ?_; rotate_left; (intro w hSw; (try dsimp only at hSw); go_simp); try (with_reducible rfl))
  try simp only [Act.put, List.setIfInBounds_toArray, List.set_cons_zero, List.set_cons_succ]
  (refine RegH.tkH (i := 9) (d := 61) (oi := ⟨_, _, _, _, _, _⟩) (v := ?_) rfl rfl (by kernel_rfl) (by kernel_rfl) (by kernel_rfl) (fun _ _ _ h => h) (Or.inl ⟨by rfl, ?_⟩) hS ?_; rotate_left; (intro w hSw; (try dsimp only at hSw); go_simp); try (with_reducible rfl))
  try simp only [Act.put, List.setIfInBounds_toArray, List.set_cons_zero, List.set_cons_succ]
  (refine RegH.tkH (i := 10) (d := 62) (oi := ⟨_, _, _, _, _, _⟩) (v := ?_) rfl rfl (by kernel_rfl) (by kernel_rfl) (by kernel_rfl) (fun _ _ _ h => h) (Or.inl ⟨by rfl, ?_⟩) hS ?_; rotate_left; (intro w hSw; (try dsimp only at hSw); go_simp); try (with_reducible rfl))
  try simp only [Act.put, List.setIfInBounds_toArray, List.set_cons_zero, List.set_cons_succ]
  (refine RegH.tkH (i := 11) (d := 63) (oi := ⟨_, _, _, _, _, _⟩) (v := ?_) rfl rfl (by kernel_rfl) (by kernel_rfl) (by kernel_rfl) (fun _ _ _ h => h) (Or.inl ⟨by rfl, ?_⟩) hS ?_; rotate_left; (intro w hSw; (try dsimp only at hSw); go_simp); try (with_reducible rfl))
  try simp only [Act.put, List.setIfInBounds_toArray, List.set_cons_zero, List.set_cons_succ]
  (refine RegH.tkH (i := 12) (d := 64) (oi := ⟨_, _, _, _, _, _⟩) (v := ?_) rfl rfl (by kernel_rfl) (by kernel_rfl) (by kernel_rfl) (fun _ _ _ h => h) (Or.inl ⟨by rfl, ?_⟩) hS ?_; rotate_left; (intro w hSw; (try dsimp only at hSw); go_simp); try (with_reducible rfl))
  try simp only [Act.put, List.setIfInBounds_toArray, List.set_cons_zero, List.set_cons_succ]
  (refine RegH.tkH (i := 13) (d := 65) (oi := ⟨_, _, _, _, _, _⟩) (v := ?_) rfl rfl (by kernel_rfl) (by kernel_rfl) (by kernel_rfl) (fun _ _ _ h => h) (Or.inl ⟨by rfl, ?_⟩) hS ?_; rotate_left; (intro w hSw; (try dsimp only at hSw); go_simp); try (with_reducible rfl))
  try simp only [Act.put, List.setIfInBounds_toArray, List.set_cons_zero, List.set_cons_succ]
  (refine RegH.tkH (i := 14) (d := 66) (oi := ⟨_, _, _, _, _, _⟩) (v := ?_) rfl rfl (by kernel_rfl) (by kernel_rfl) (by kernel_rfl) (fun _ _ _ h => h) (Or.inl ⟨by rfl, ?_⟩) hS ?_; rotate_left; (intro w hSw; (try dsimp only at hSw); go_simp); try (with_reducible rfl))
  try simp only [Act.put, List.setIfInBounds_toArray, List.set_cons_zero, List.set_cons_succ]
  (refine RegH.tkH (i := 15) (d := 67) (oi := ⟨_, _, _, _, _, _⟩) (v := ?_) rfl rfl (by kernel_rfl) (by kernel_rfl) (by kernel_rfl) (fun _ _ _ h => h) (Or.inl ⟨by rfl, ?_⟩) hS ?_; rotate_left; (intro w hSw; (try dsimp only at hSw); go_simp); try (with_reducible rfl))
  try simp only [Act.put, List.setIfInBounds_toArray, List.set_cons_zero, List.set_cons_succ]
  (refine RegH.tkH (i := 16) (d := 68) (oi := ⟨_, _, _, _, _, _⟩) (v := ?_) rfl rfl (by kernel_rfl) (by kernel_rfl) (by kernel_rfl) (fun _ _ _ h => h) (Or.inl ⟨by rfl, ?_⟩) hS ?_; rotate_left; (intro w hSw; (try dsimp only at hSw); go_simp); try (with_reducible rfl))
  try simp only [Act.put, List.setIfInBounds_toArray, List.set_cons_zero, List.set_cons_succ]
  (refine RegH.tkH (i := 17) (d := 69) (oi := ⟨_, _, _, _, _, _⟩) (v := ?_) rfl rfl (by kernel_rfl) (by kernel_rfl) (by kernel_rfl) (fun _ _ _ h => h) (Or.inl ⟨by rfl, ?_⟩) hS ?_; rotate_left; (intro w hSw; (try dsimp only at hSw); go_simp); try (with_reducible rfl))
  try simp only [Act.put, List.setIfInBounds_toArray, List.set_cons_zero, List.set_cons_succ]
  (refine RegH.tkH (i := 18) (d := 70) (oi := ⟨_, _, _, _, _, _⟩) (v := ?_) rfl rfl (by kernel_rfl) (by kernel_rfl) (by kernel_rfl) (fun _ _ _ h => h) (Or.inl ⟨by rfl, ?_⟩) hS ?_; rotate_left; (intro w hSw; (try dsimp only at hSw); go_simp); try (with_reducible rfl))
  try simp only [Act.put, List.setIfInBounds_toArray, List.set_cons_zero, List.set_cons_succ]
  (refine RegH.tkH (i := 19) (d := 71) (oi := ⟨_, _, _, _, _, _⟩) (v := ?_) rfl rfl (by kernel_rfl) (by kernel_rfl) (by kernel_rfl) (fun _ _ _ h => h) (Or.inl ⟨by rfl, ?_⟩) hS ?_; rotate_left; (intro w hSw; (try dsimp only at hSw); go_simp); try (with_reducible rfl))
  try simp only [Act.put, List.setIfInBounds_toArray, List.set_cons_zero, List.set_cons_succ]
  (refine RegH.tkH (i := 20) (d := 72) (oi := ⟨_, _, _, _, _, _⟩) (v := ?_) rfl rfl (by kernel_rfl) (by kernel_rfl) (by kernel_rfl) (fun _ _ _ h => h) (Or.inl ⟨by rfl, ?_⟩) hS ?_; rotate_left; (intro w hSw; (try dsimp only at hSw); go_simp); try (with_reducible rfl))
  try simp only [Act.put, List.setIfInBounds_toArray, List.set_cons_zero, List.set_cons_succ]
  (refine RegH.tkH (i := 21) (d := 73) (oi := ⟨_, _, _, _, _, _⟩) (v := ?_) rfl rfl (by kernel_rfl) (by kernel_rfl) (by kernel_rfl) (fun _ _ _ h => h) (Or.inl ⟨by rfl, ?_⟩) hS ?_; rotate_left; (intro w hSw; (try dsimp only at hSw); go_simp); try (with_reducible rfl))
  try simp only [Act.put, List.setIfInBounds_toArray, List.set_cons_zero, List.set_cons_succ]
  (refine RegH.tkH (i := 22) (d := 74) (oi := ⟨_, _, _, _, _, _⟩) (v := ?_) rfl rfl (by kernel_rfl) (by kernel_rfl) (by kernel_rfl) (fun _ _ _ h => h) (Or.inl ⟨by rfl, ?_⟩) hS ?_; rotate_left; (intro w hSw; (try dsimp only at hSw); go_simp); try (with_reducible rfl))
  try simp only [Act.put, List.setIfInBounds_toArray, List.set_cons_zero, List.set_cons_succ]
  (refine RegH.tkH (i := 23) (d := 75) (oi := ⟨_, _, _, _, _, _⟩) (v := ?_) rfl rfl (by kernel_rfl) (by kernel_rfl) (by kernel_rfl) (fun _ _ _ h => h) (Or.inl ⟨by rfl, ?_⟩) hS ?_; rotate_left; (intro w hSw; (try dsimp only at hSw); go_simp); try (with_reducible rfl))
  try simp only [Act.put, List.setIfInBounds_toArray, List.set_cons_zero, List.set_cons_succ]
  (refine RegH.tkH (i := 24) (d := 76) (oi := ⟨_, _, _, _, _, _⟩) (v := ?_) rfl rfl (by kernel_rfl) (by kernel_rfl) (by kernel_rfl) (fun _ _ _ h => h) (Or.inl ⟨by rfl, ?_⟩) hS ?_; rotate_left; (intro w hSw; (try dsimp only at hSw); go_simp); try (with_reducible rfl))
  try simp only [Act.put, List.setIfInBounds_toArray, List.set_cons_zero, List.set_cons_succ]
  (refine RegH.tkH (i := 25) (d := 77) (oi := ⟨_, _, _, _, _, _⟩) (v := ?_) rfl rfl (by kernel_rfl) (by kernel_rfl) (by kernel_rfl) (fun _ _ _ h => h) (Or.inl ⟨by rfl, ?_⟩) hS ?_; rotate_left; (intro w hSw; (try dsimp only at hSw); go_simp); try (with_reducible rfl))
  try simp only [Act.put, List.setIfInBounds_toArray, List.set_cons_zero, List.set_cons_succ]
  (refine RegH.tkH (i := 26) (d := 78) (oi := ⟨_, _, _, _, _, _⟩) (v := ?_) rfl rfl (by kernel_rfl) (by kernel_rfl) (by kernel_rfl) (fun _ _ _ h => h) (Or.inl ⟨by rfl, ?_⟩) hS ?_; rotate_left; (intro w hSw; (try dsimp only at hSw); go_simp); try (with_reducible rfl))
  try simp only [Act.put, List.setIfInBounds_toArray, List.set_cons_zero, List.set_cons_succ]
  (refine RegH.tkH (i := 27) (d := 79) (oi := ⟨_, _, _, _, _, _⟩) (v := ?_) rfl rfl (by kernel_rfl) (by kernel_rfl) (by kernel_rfl) (fun _ _ _ h => h) (Or.inl ⟨by rfl, ?_⟩) hS ?_; rotate_left; (intro w hSw; (try dsimp only at hSw); go_simp); try (with_reducible rfl))
  try simp only [Act.put, List.setIfInBounds_toArray, List.set_cons_zero, List.set_cons_succ]
  (refine RegH.tkH (i := 28) (d := 80) (oi := ⟨_, _, _, _, _, _⟩) (v := ?_) rfl rfl (by kernel_rfl) (by kernel_rfl) (by kernel_rfl) (fun _ _ _ h => h) (Or.inl ⟨by rfl, ?_⟩) hS ?_; rotate_left; (intro w hSw; (try dsimp only at hSw); go_simp); try (with_reducible rfl))
  try simp only [Act.put, List.setIfInBounds_toArray, List.set_cons_zero, List.set_cons_succ]
  (refine RegH.tkH (i := 29) (d := 81) (oi := ⟨_, _, _, _, _, _⟩) (v := ?_) rfl rfl (by kernel_rfl) (by kernel_rfl) (by kernel_rfl) (fun _ _ _ h => h) (Or.inl ⟨by rfl, ?_⟩) hS ?_; rotate_left; (intro w hSw; (try dsimp only at hSw); go_simp); try (with_reducible rfl))
  try simp only [Act.put, List.setIfInBounds_toArray, List.set_cons_zero, List.set_cons_succ]
  (refine RegH.tkH (i := 30) (d := 82) (oi := ⟨_, _, _, _, _, _⟩) (v := ?_) rfl rfl (by kernel_rfl) (by kernel_rfl) (by kernel_rfl) (fun _ _ _ h => h) (Or.inl ⟨by rfl, ?_⟩) hS ?_; rotate_left; (intro w hSw; (try dsimp only at hSw); go_simp); try (with_reducible rfl))
  try simp only [Act.put, List.setIfInBounds_toArray, List.set_cons_zero, List.set_cons_succ]
  (refine RegH.tkH (i := 31) (d := 83) (oi := ⟨_, _, _, _, _, _⟩) (v := ?_) rfl rfl (by kernel_rfl) (by kernel_rfl) (by kernel_rfl) (fun _ _ _ h => h) (Or.inl ⟨by rfl, ?_⟩) hS ?_; rotate_left; (intro w hSw; (try dsimp only at hSw); go_simp); try (with_reducible rfl))
  try simp only [Act.put, List.setIfInBounds_toArray, List.set_cons_zero, List.set_cons_succ]
  (refine RegH.tkH (i := 32) (d := 84) (oi := ⟨_, _, _, _, _, _⟩) (v := ?_) rfl rfl (by kernel_rfl) (by kernel_rfl) (by kernel_rfl) (fun _ _ _ h => h) (Or.inl ⟨by rfl, ?_⟩) hS ?_; rotate_left; (intro w hSw; (try dsimp only at hSw); go_simp); try (with_reducible rfl))
  try simp only [Act.put, List.setIfInBounds_toArray, List.set_cons_zero, List.set_cons_succ]
  (refine RegH.tkH (i := 33) (d := 85) (oi := ⟨_, _, _, _, _, _⟩) (v := ?_) rfl rfl (by kernel_rfl) (by kernel_rfl) (by kernel_rfl) (fun _ _ _ h => h) (Or.inl ⟨by rfl, ?_⟩) hS ?_; rotate_left; (intro w hSw; (try dsimp only at hSw); go_simp); try (with_reducible rfl))
  try simp only [Act.put, List.setIfInBounds_toArray, List.set_cons_zero, List.set_cons_succ]
  (refine RegH.tkH (i := 34) (d := 86) (oi := ⟨_, _, _, _, _, _⟩) (v := ?_) rfl rfl (by kernel_rfl) (by kernel_rfl) (by kernel_rfl) (fun _ _ _ h => h) (Or.inl ⟨by rfl, ?_⟩) hS ?_; rotate_left; (intro w hSw; (try dsimp only at hSw); go_simp); try (with_reducible rfl))
  try simp only [Act.put, List.setIfInBounds_toArray, List.set_cons_zero, List.set_cons_succ]
  (refine RegH.tkH (i := 35) (d := 87) (oi := ⟨_, _, _, _, _, _⟩) (v := ?_) rfl rfl (by kernel_rfl) (by kernel_rfl) (by kernel_rfl) (fun _ _ _ h => h) (Or.inl ⟨by rfl, ?_⟩) hS ?_; rotate_left; (intro w hSw; (try dsimp only at hSw); go_simp); try (with_reducible rfl))
  try simp only [Act.put, List.setIfInBounds_toArray, List.set_cons_zero, List.set_cons_succ]
  (refine RegH.tkH (i := 38) (d := 90) (oi := ⟨_, _, _, _, _, _⟩) (v := ?_) rfl rfl (by kernel_rfl) (by kernel_rfl) (by kernel_rfl) (fun _ _ _ h => h) (Or.inl ⟨by rfl, ?_⟩) hS ?_; rotate_left; (intro w hSw; (try dsimp only at hSw); go_simp); try (with_reducible rfl))
  try simp only [Act.put, List.setIfInBounds_toArray, List.set_cons_zero, List.set_cons_succ]
  (refine RegH.tkH (i := 41) (d := 93) (oi := ⟨_, _, _, _, _, _⟩) (v := ?_) rfl rfl (by kernel_rfl) (by kernel_rfl) (by kernel_rfl) (fun _ _ _ h => h) (Or.inl ⟨by rfl, ?_⟩) hS ?_; rotate_left; (intro w hSw; (try dsimp only at hSw); go_simp); try (with_reducible rfl))
  try simp only [Act.put, List.setIfInBounds_toArray, List.set_cons_zero, List.set_cons_succ]
  refine RegT.nameA (L' := RegT.LL false false false false false false) (by kernel_rfl) (fun a0 ha0 => ?_)
  refine RegT.three (o1 := ⟨_, _, _, _, _, _⟩) (o2 := ⟨_, _, _, _, _, _⟩) (o3 := ⟨_, _, _, _, _, _⟩) (o4 := ⟨_, _, _, _, _, _⟩) (o5 := ⟨_, _, _, _, _, _⟩) (o6 := ⟨_, _, _, _, _, _⟩) (fun v W => ∃ q, v = .slice (some ⟨q, 0, none⟩) 2 2 ∧ W.heap[q]? = some (.cells #[.int .u8 x.f0, .slice A0 m0 c0, .int .u8 y.f0, .slice A1 m1 c1] 30 (0, 0))) (fun v W => ∃ q, v = .slice (some ⟨q, 0, none⟩) 1 1 ∧ W.heap[q]? = some (.cells #[.int .u8 x.f0, .slice A0 m0 c0] 30 (0, 0))) (fun v W => ∃ q, v = .slice (some ⟨q, 0, none⟩) 1 1 ∧ W.heap[q]? = some (.cells #[.int .u8 y.f0, .slice A1 m1 c1] 30 (0, 0))) (.int .i64 ((ba.length : Int) + (bb.length : Int))) (.int .i64 (ba.length : Int)) (.int .i64 (bb.length : Int)) (fun v W W' h hb => by obtain ⟨q, e, hq⟩ := h; exact ⟨q, e, blk_below hq hb⟩) (fun v W W' h hb => by obtain ⟨q, e, hq⟩ := h; exact ⟨q, e, blk_below hq hb⟩) (fun v W W' h hb => by obtain ⟨q, e, hq⟩ := h; exact ⟨q, e, blk_below hq hb⟩) rfl rfl rfl rfl rfl rfl (by kernel_rfl) (by kernel_rfl) (by kernel_rfl) (by kernel_rfl) (by kernel_rfl) (by kernel_rfl) (by kernel_rfl) (by kernel_rfl) (by kernel_rfl) (by kernel_rfl) (by kernel_rfl) (by kernel_rfl) (by kernel_rfl) (by kernel_rfl) (by subst ha0; rfl) ?_ ?_ ?_ ?_ ?_ ?_ ?_ hS
  · intro v1 v2 v3 v4 v5 v6 W hW hC K' hK
    subst ha0
    simp only [RegT.fam, Act.put, List.setIfInBounds_toArray, List.set_cons_zero, List.set_cons_succ] at hK ⊢
    go_simp
    refine hK.out _ _ (below_alloc hW _) (below_alloc (Below.refl _ _) _) ⟨_, rfl, heap_alloc_new _ _⟩
  · intro v1 v2 v3 v4 v5 v6 W hW hC K' hK
    subst ha0
    simp only [RegT.fam, Act.put, List.setIfInBounds_toArray, List.set_cons_zero, List.set_cons_succ] at hK ⊢
    obtain ⟨q, rfl, hq⟩ := hC
    go_simp
    refine Calls.mono (ZSab.out W q 2 rfl hW hq) ?_
    rintro e w7 ⟨rfl, hd⟩
    go_wp2_with (fail)
    refine hK.out _ _ (below_step hW hd) hd rfl
  · intro v1 v2 v3 v4 v5 v6 W hW hC K' hK
    subst ha0
    simp only [RegT.fam, Act.put, List.setIfInBounds_toArray, List.set_cons_zero, List.set_cons_succ] at hK ⊢
    go_simp
    refine hK.out _ _ (below_alloc hW _) (below_alloc (Below.refl _ _) _) ⟨_, rfl, heap_alloc_new _ _⟩
  · intro v1 v2 v3 v4 v5 v6 W hW hC K' hK
    subst ha0
    simp only [RegT.fam, Act.put, List.setIfInBounds_toArray, List.set_cons_zero, List.set_cons_succ] at hK ⊢
    obtain ⟨q, rfl, hq⟩ := hC
    go_simp
    refine Calls.mono (ZSa.out W q 1 rfl hW hq) ?_
    rintro e w7 ⟨rfl, hd⟩
    go_wp2_with (fail)
    refine hK.out _ _ (below_step hW hd) hd rfl
  · intro v1 v2 v3 v4 v5 v6 W hW hC K' hK
    subst ha0
    simp only [RegT.fam, Act.put, List.setIfInBounds_toArray, List.set_cons_zero, List.set_cons_succ] at hK ⊢
    go_simp
    refine hK.out _ _ (below_alloc hW _) (below_alloc (Below.refl _ _) _) ⟨_, rfl, heap_alloc_new _ _⟩
  · intro v1 v2 v3 v4 v5 v6 W hW hC K' hK
    subst ha0
    simp only [RegT.fam, Act.put, List.setIfInBounds_toArray, List.set_cons_zero, List.set_cons_succ] at hK ⊢
    obtain ⟨q, rfl, hq⟩ := hC
    go_simp
    refine Calls.mono (ZSb.out W q 1 rfl hW hq) ?_
    rintro e w7 ⟨rfl, hd⟩
    go_wp2_with (fail)
    refine hK.out _ _ (below_step hW hd) hd rfl
  · intro v1 v3 v5 W hS
    subst ha0
    simp only [RegT.fam, Act.put, List.setIfInBounds_toArray, List.set_cons_zero, List.set_cons_succ]
    refine RegH.oneH (i := 44) (o := ⟨_, _, _, _, _, _⟩) (by kernel_rfl) rfl (fun K hK => ?_)
    go_simp
    refine hK.out _ _ (hS) (fun hS => ?_)
    clear hK K
    try simp only [Act.put, List.setIfInBounds_toArray, List.set_cons_zero, List.set_cons_succ]
    refine RegH.oneH (i := 45) (o := ⟨_, _, _, _, _, _⟩) (by kernel_rfl) rfl (fun K hK => ?_)
    go_simp
    refine hK.out _ _ (hS) (fun hS => ?_)
    clear hK K
    try simp only [Act.put, List.setIfInBounds_toArray, List.set_cons_zero, List.set_cons_succ]
    refine RegH.oneH (i := 46) (o := ⟨_, _, _, _, _, _⟩) (by kernel_rfl) rfl (fun K hK => ?_)
    go_simp
    refine hK.out _ _ (hS) (fun hS => ?_)
    clear hK K
    try simp only [Act.put, List.setIfInBounds_toArray, List.set_cons_zero, List.set_cons_succ]
    refine RegH.oneH (i := 47) (o := ⟨_, _, _, _, _, _⟩) (by kernel_rfl) rfl (fun K hK => ?_)
    go_simp
    refine hK.out _ _ (hS) (fun hS => ?_)
    clear hK K
    try simp only [Act.put, List.setIfInBounds_toArray, List.set_cons_zero, List.set_cons_succ]
    (refine RegH.tkH (i := 48) (d := 100) (oi := ⟨_, _, _, _, _, _⟩) (v := ?_) rfl rfl (by kernel_rfl) (by kernel_rfl) (by kernel_rfl) (fun _ _ _ h => h) (Or.inl ⟨by rfl, ?_⟩) hS ?_; rotate_left; (intro w hSw; (try dsimp only at hSw); go_simp); try (with_reducible rfl))
    try simp only [Act.put, List.setIfInBounds_toArray, List.set_cons_zero, List.set_cons_succ]
    (refine RegH.tkH (i := 49) (d := 101) (oi := ⟨_, _, _, _, _, _⟩) (v := ?_) rfl rfl (by kernel_rfl) (by kernel_rfl) (by kernel_rfl) (fun _ _ _ h => h) (Or.inl ⟨by rfl, ?_⟩) hS ?_; rotate_left; (intro w hSw; (try dsimp only at hSw); go_simp); try (with_reducible rfl))
    try simp only [Act.put, List.setIfInBounds_toArray, List.set_cons_zero, List.set_cons_succ]
    (refine RegH.tkH (i := 50) (d := 102) (oi := ⟨_, _, _, _, _, _⟩) (v := ?_) rfl rfl (by kernel_rfl) (by kernel_rfl) (by kernel_rfl) (fun _ _ _ h => h) (Or.inl ⟨by rfl, ?_⟩) hS ?_; rotate_left; (intro w hSw; (try dsimp only at hSw); go_simp); try (with_reducible rfl))
    try simp only [Act.put, List.setIfInBounds_toArray, List.set_cons_zero, List.set_cons_succ]
    (refine RegH.tkH (i := 51) (d := 103) (oi := ⟨_, _, _, _, _, _⟩) (v := ?_) rfl rfl (by kernel_rfl) (by kernel_rfl) (by kernel_rfl) (fun _ _ _ h => h) (Or.inl ⟨by rfl, ?_⟩) hS ?_; rotate_left; (intro w hSw; (try dsimp only at hSw); go_simp); try (with_reducible rfl))
    try simp only [Act.put, List.setIfInBounds_toArray, List.set_cons_zero, List.set_cons_succ]
    refine RegH.oneH (i := 52) (o := ⟨_, _, _, _, _, _⟩) (by kernel_rfl) rfl (fun K hK => ?_)
    go_simp
    refine hK.out _ _ (below_alloc hS _) (fun hS => ?_)
    clear hK K
    try simp only [Act.put, List.setIfInBounds_toArray, List.set_cons_zero, List.set_cons_succ]
    refine RegH.oneH (i := 53) (o := ⟨_, _, _, _, _, _⟩) (by kernel_rfl) rfl (fun K hK => ?_)
    go_simp
    refine Calls.mono (ZSab.out _ _ 2 rfl hS (heap_alloc_new _ _)) ?_
    rintro e w7 ⟨rfl, hd⟩
    have hS := below_step hS hd
    go_wp2_with (fail)
    refine hK.out _ _ (hS) (fun hS => ?_)
    clear hK K
    try simp only [Act.put, List.setIfInBounds_toArray, List.set_cons_zero, List.set_cons_succ]
    refine RegH.oneH (i := 54) (o := ⟨_, _, _, _, _, _⟩) (by kernel_rfl) rfl (fun K hK => ?_)
    go_simp
    refine hK.out _ _ (hS) (fun hS => ?_)
    clear hK K
    try simp only [Act.put, List.setIfInBounds_toArray, List.set_cons_zero, List.set_cons_succ]
    refine RegH.oneH (i := 55) (o := ⟨_, _, _, _, _, _⟩) (by kernel_rfl) rfl (fun K hK => ?_)
    go_simp
    refine hK.out _ _ (hS) (fun hS => ?_)
    clear hK K
    try simp only [Act.put, List.setIfInBounds_toArray, List.set_cons_zero, List.set_cons_succ]
    refine RegH.oneH (i := 56) (o := ⟨_, _, _, _, _, _⟩) (by kernel_rfl) rfl (fun K hK => ?_)
    go_simp
    refine hK.out _ _ (hS) (fun hS => ?_)
    clear hK K
    try simp only [Act.put, List.setIfInBounds_toArray, List.set_cons_zero, List.set_cons_succ]
    refine wpAnyH_done (by kernel_rfl) ?_ _
    go_wp2
    go_ret
    exact ⟨rfl, below_step HB6.out hS⟩

end Go.Proofs.Ytgonodfggiablaa.Apart
