/-
  BlockTakes' walk.
-/
import Derived.Test.YtgonodfggiablaaProg
import Derived.Test.YtgonodfggiablaaRegH
import Derived.Test.YtgonodfggiablaaMem
import Derived.Test.YtgonodfggiablaaCrc
import Derived.Test.YtgonodfggiablaaWord
import Derived.Test.YtgonodfggiablaaClone
import Derived.Test.YtgonodfggiablaaSum
import Derived.Test.YtgonodfggiablaaTake
import Derived.Test.YtgonodfggiablaaBlock
import Derived.Test.YtgonodfggiablaaRTake
import Derived.Test.YtgonodfggiablaaRScan
import Derived.Test.YtgonodfggiablaaQBlockTakesx0
import Derived.Test.YtgonodfggiablaaQBlockTakesx1
import Derived.Test.YtgonodfggiablaaQBlockTakesx2
import Derived.Lib.SmallJoins
import Derived.Lib.Bytes
import Derived.Below
import Derived.Deep.Draws
import Derived.Deep.AppendLies
import Derived.Maps.AppendAt
import Derived.OwnWalk
import Derived.Laws.BytesArg
import Derived.Laws.MakeOwn
import Derived.Laws.OwnMore
import Derived.Deep.OwnRows
import Derived.Tactics
import Derived.Lib.ConvBytes
import Derived.Laws.Slices
import Derived.WalkKit
import Derived.KernelRfl
import Derived.RowKit3
import Derived.Deep.LoopGhost
import Derived.Deep.QuietTactic
import Derived.BigQuiet
import Derived.WideLaws
import Derived.Deep.DeepCutAuto
import Derived.Deep.CutBlock
import Derived.Deep.RegionHeld3
import Derived.Laws.Rows
import Derived.Lib.AppendStr
import Derived.ArgAppend
import Derived.Laws.IdiomCopy
import Derived.OrdersHeld
import Derived.Laws.BitsLemmas
import Derived.RowKit
import Derived.Lib.SliceRun
import Derived.Test.YtgonodfggiablaaWWords
import Derived.Test.YtgonodfggiablaaWLast
import Derived.Test.YtgonodfggiablaaWTab
import Derived.Test.YtgonodfggiablaaWFour
import Derived.Test.YtgonodfggiablaaWQPut
import Derived.Test.YtgonodfggiablaaWApart
import Derived.Test.YtgonodfggiablaaWArr
import Derived.Test.YtgonodfggiablaaWZeros
import Derived.Test.YtgonodfggiablaaWFoot
import Derived.Test.YtgonodfggiablaaWKept
import Derived.Test.YtgonodfggiablaaWShare
import Derived.Test.YtgonodfggiablaaWN
import Derived.Test.YtgonodfggiablaaWFootNe
import Derived.Test.YtgonodfggiablaaWAt
import Derived.Test.YtgonodfggiablaaWEqStruct
import Derived.Test.YtgonodfggiablaaWRepsOne
import Derived.Test.YtgonodfggiablaaWInv
import Derived.Test.YtgonodfggiablaaWInvWords
import Derived.Test.YtgonodfggiablaaWGuard
import Derived.Test.YtgonodfggiablaaWNEv
import Derived.Test.YtgonodfggiablaaWMore
namespace Go.Proofs.Ytgonodfggiablaa.Takes
open Go.RowKit Go.Proofs.YtgonodfggiablaaW.PrintWords Go.Proofs.YtgonodfggiablaaW.PrintLast Go.Proofs.YtgonodfggiablaaW.PrintMore
set_option linter.unusedVariables false
set_option linter.unusedSimpArgs false
open QBlockTakes Mem RTake RScan
theorem mk_cell {W : World} {g : Nat} {cells : Array Value} {t : Nat} {mk : Nat × Nat} (hb : W.heap[g]? = some (.cells cells t mk)) (j : Nat) : W.cell? ⟨g, j, none⟩ = cells[j]? := by simp [World.cell?, hb]
/-- One block in a row of its own. -/
theorem one_C {W : World} {q c t : Nat} {A : Option Addr} {x : S30} {mk : Nat × Nat} (hq : W.heap[q]? = some (.cells #[.int .u8 x.f0, .slice A x.f1.length c] t mk)) (hc : x.f1.length ≤ c) (hC : (Kd.int .u8).C W A x.f1.length x.f1) : Kd.C k30 W (some ⟨q, 0, none⟩) [x].length [x] :=
  row_at (by simp) fun j p hj => by
    match j, hj with
    | 0, hj =>
      obtain rfl := Option.some.inj hj
      refine ⟨_, k30_mk _ _ hc hC, fun i u hi => ?_⟩
      match i, hi with
      | 0, hi =>
        obtain rfl := Option.some.inj hi
        exact (mk_cell hq 0).trans rfl
      | 1, hi =>
        obtain rfl := Option.some.inj hi
        exact (mk_cell hq 1).trans rfl
def ofB (x : S30) : Int × List Int := (x.f0, x.f1)
def toB (p : Int × List Int) : S30 := ⟨p.1, p.2⟩
theorem to_of (l : List S30) : (l.map ofB).map toB = l := by
  rw [List.map_map]
  have : toB ∘ ofB = id := funext fun x => rfl
  rw [this, List.map_id]
theorem rdT_at (l : List S30) (i : Nat) (h : i < l.length) : rd_T30 l (i : Int) = l[i] := by simp [rd_T30, h]
/-- Blocks of bytes, their bodies no longer than m. -/
def OkB (m : Nat) (l : List S30) : Prop := ∀ x ∈ l, (0 ≤ x.f0 ∧ x.f0 ≤ 255) ∧ Crc.IsBytes x.f1 ∧ x.f1.length ≤ m
theorem ok_of {m : Nat} {l : List S30} (h : OkB m l) : Block.Ok m (l.map ofB) := fun p hp => by
  obtain ⟨x, hx, rfl⟩ := List.mem_map.1 hp
  exact h x hx

theorem take_f (l : List Int) (hb : Crc.IsBytes l) (hl : l.length ≤ 140737488355328) : block_Take.f l = some (Take.tk l) := by
  unfold block_Take.f
  rw [if_pos (List.all_eq_true.2 fun x hx => decide_eq_true (hb x hx)), if_pos hl]

theorem scan_step (n : Nat) (l : List Int) (T : Int × List Int × Int × Int) (h : Take.tk l = T) : Block.scan (n + 1) l = if T.2.2.2 = 0 then ((T.1, T.2.1) :: (Block.scan n (l.drop T.2.2.1.toNat)).1, T.2.2.1 + (Block.scan n (l.drop T.2.2.1.toNat)).2) else ([], 0) := by
  subst h; rfl

theorem scan_loop : ∀ (n k : Nat) (x0 : List Int) (acc : List S30) (at_ : Nat), Crc.IsBytes x0 → x0.length ≤ 1000000 → at_ ≤ x0.length → (x0.drop at_).length ≤ n → acc.length ≤ at_ → n + 1 < k →
    block_Scan.l0 k x0 acc (at_ : Int) = some (acc ++ (Block.scan (n + 1) (x0.drop at_)).1.map toB, (at_ : Int) + (Block.scan (n + 1) (x0.drop at_)).2)
  | n, k, x0, acc, at_, hb, hl, ha, hn, hac, hk => by
    obtain ⟨k, rfl⟩ : ∃ m, k = m + 1 := ⟨k - 1, by omega⟩
    have hbd : Crc.IsBytes (x0.drop at_) := fun x hx => hb x (List.mem_of_mem_drop hx)
    have hld : (x0.drop at_).length = x0.length - at_ := List.length_drop
    have htaken := Block.tk_taken hbd
    obtain ⟨⟨t1, t2, t3, t4⟩, hT⟩ : ∃ T, Take.tk (x0.drop at_) = T := ⟨_, rfl⟩
    have e := take_f _ hbd (by omega)
    rw [hT] at htaken e
    rw [scan_step n _ _ hT]
    clear hT
    dsimp only at htaken
    simp only [block_Scan.l0]
    rw [if_pos (by omega), if_pos (by omega), Int.toNat_natCast, e]
    simp only [Option.bind_some]
    by_cases h : t4 = 0
    · obtain ⟨h1, h2, _, _⟩ := htaken h
      rw [if_pos h, if_pos h, if_pos (by omega)]
      obtain ⟨m, rfl⟩ : ∃ m : Nat, t3 = (m : Int) := ⟨_, (Int.toNat_of_nonneg (by omega)).symm⟩
      have hw : wrap64 ((at_ : Int) + (m : Int)) = ((at_ + m : Nat) : Int) := by unfold wrap64; omega
      rw [hw, Int.toNat_natCast]
      obtain ⟨n, rfl⟩ : ∃ q, n = q + 1 := ⟨n - 1, by omega⟩
      rw [scan_loop n k x0 _ (at_ + m) hb hl (by omega) (by rw [List.length_drop]; omega) (by rw [List.length_append, List.length_singleton]; omega) (by omega), List.drop_drop]
      generalize Block.scan (n + 1) (x0.drop (at_ + m)) = R
      simp only [List.map_cons, List.append_assoc, List.cons_append, List.nil_append]
      congr 1
      rw [Prod.mk.injEq]
      refine ⟨rfl, ?_⟩
      omega
    · rw [if_neg h, if_neg h]
      simp
termination_by n => n

theorem scan_f (k n : Nat) (l : List Int) (hb : Crc.IsBytes l) (hl : l.length ≤ 1000000) (hn : l.length ≤ n) (hk : n + 1 < k) : block_Scan.f k l = some ((Block.scan (n + 1) l).1.map toB, (Block.scan (n + 1) l).2) := by
  unfold block_Scan.f
  have := scan_loop n k l [] 0 hb hl (by omega) (by simpa using hn) (by simp) hk
  rw [List.drop_zero, List.nil_append] at this
  refine this.trans ?_
  simp

theorem same_self (l : List S30) : sameB l l = true := sameB_yes rfl fun i h0 h1 => by simp [likeB]

theorem R_empty8 (W : World) (base : Nat) (ok : Nat → Prop) (hb : base ≤ W.heap.size) (hok : ok W.heap.size) : Kd.R (Kd.int .u8) 5 (W.alloc (.cells #[] 5)) base ok (.slice (some ⟨W.heap.size, 0, none⟩) 0 0) [] := by
  refine ⟨fun k hk => ?_, [], ?_, Reps.none _ _⟩
  · have : W.heap.size = k := by simpa [Value.ownBlock] using hk
    subst this
    exact hok
  · have h2 := World.ownsRow_lit (base := base) (e := 5) (size := (Kd.int .u8).sz) W #[] 0 hb (by simp) (by simp)
    simpa using h2
theorem info5b : (Try.prog.info? 5).map (fun i => (i.zero, i.size, i.bytes)) = some (some (.int .u8 0), 1, 1) := by kernel_rfl

set_option maxHeartbeats 8000000 in
set_option maxRecDepth 100000 in
theorem long_ (A0 : Option Addr) (c0 : Nat) (l0 : List Int) (w : World) (hl : 2000 < l0.length) :
    Calls Try.prog 5 #[.slice A0 l0.length c0] w fun e w' => e = .returned (.bool true) ∧ Below w.heap.size w w' := by
  have hl2 : decide ((2000 : Int) < (l0.length : Int)) = true := decide_eq_true (by omega)
  go_enter Try.func5, Try.ntmps5
  go_wp2_with fail
  refine Calls.mono (awake_any _) ?_
  rintro e w1 ⟨rfl, hb⟩
  have HB := Aside0.mk hb
  clear hb
  go_wp2_with fail
  refine Calls.mono (awake_any _) ?_
  rintro e w2 ⟨rfl, hb⟩
  have HB2 := Aside0.mk (below_step HB.out hb)
  clear hb
  go_wp2
  go_ret
  exact ⟨rfl, HB2.out⟩

set_option maxHeartbeats 8000000 in
set_option maxRecDepth 100000 in
theorem core (A0 : Option Addr) (c0 : Nat) (l0 : List Int) (w : World) (hr0 : Kd.C (Kd.int .u8) w A0 l0.length l0) (hc0 : l0.length ≤ c0) (hby : Crc.IsBytes l0) (hl : l0.length ≤ 2000) :
    Calls Try.prog 5 #[.slice A0 l0.length c0] w fun e w' => e = .returned (.bool true) ∧ Below w.heap.size w w' := by
  have hl2 : decide ((2000 : Int) < (l0.length : Int)) = false := decide_eq_false (by omega)
  have HR0 := Aside0.mk hr0
  have HC0 := Aside0.mk hc0
  have HBY := Aside0.mk hby
  have HL := Aside0.mk hl
  obtain ⟨⟨t1, t2, t3, t4⟩, hT⟩ : ∃ T, Take.tk l0 = T := ⟨_, rfl⟩
  have HT := Aside0.mk hT
  obtain ⟨⟨R1, R2⟩, hR⟩ : ∃ R, Block.scan (l0.length + 1) l0 = R := ⟨_, rfl⟩
  have HR := Aside0.mk hR
  clear hr0 hc0 hby hT hR hl
  go_enter Try.func5, Try.ntmps5
  go_wp2_with fail
  refine Calls.mono (awake_any _) ?_
  rintro e w1 ⟨rfl, hb⟩
  have HB1 := Aside0.mk hb
  have HCA := Aside0.mk (show Kd.C (Kd.int .u8) (w1.alloc (.cells #[] 5)) A0 l0.length l0 from Kd.C_below (Kd.C_below HR0.out hb) (below_alloc (Below.refl _ _) _))
  clear hb
  go_wp2_with (((with_reducible refine gate_dst (N := 24) rfl ?_); refine Kd.R_append_rows (Kd.int .u8) (w0 := w1) w1.heap.size rfl (.tmp 22) (.tmp 23) 24 5 (.int .u8 0) 1 rfl Try.underlying24 info5b rfl (by decide) (by decide) (.slice (some ⟨w1.heap.size, 0, none⟩) 0 0) [] l0 A0 l0.length c0 (fun q => w1.heap.size ≤ q) (fun _ => False) rfl rfl (R_empty8 w1 _ _ (Nat.le_refl _) (Nat.le_refl _)) HCA.out (fun _ _ h => h) (fun _ h => h.elim) (fun q hq => by simp at hq; omega) (below_alloc (Below.refl _ _) _) (by simp) (by have := HL.out; simp; omega) ?_); intro vo w2 hr2 hb2 hg2 _; rw [List.nil_append] at hr2; obtain ⟨Ao, co, hvo⟩ := Kd.R_slice hr2; subst hvo; have HR2 := Aside0.mk hr2; have HB2 := Aside0.mk (below_step HB1.out hb2); clear hr2 hb2 hg2)
  have hrr := Kd.R_reads' HR2.out
  refine Calls.mono (block_Take.calls Ao co l0 t1 t2 t3 t4 w2 hrr.2.2 hrr.2.1 (by rw [take_f l0 HBY.out (by have := HL.out; omega), HT.out])) ?_
  rintro e w3 ⟨v3, rfl, hR3, hb3⟩
  obtain ⟨A3, c3, rfl⟩ := Kd.R_slice hR3
  have HR3 := Aside0.mk (Kd.R_reads' hR3).2
  have HB3 := Aside0.mk (below_step HB2.out hb3)
  clear hrr hR3 hb3 HR2 HB2 HCA
  go_wp2_with fail
  obtain ⟨w4, hw4⟩ : ∃ w4, w4 = w3.alloc (.cells #[.int .u8 t1, .slice A3 t2.length c3] 30) := ⟨_, rfl⟩
  have hb4 : Below w3.heap.size w3 w4 := by rw [hw4]; exact below_alloc (Below.refl _ _) _
  have HN4 := Aside0.mk (show w4.heap[w3.heap.size]? = some (.cells #[.int .u8 t1, .slice A3 t2.length c3] 30 (0, 0)) by rw [hw4]; exact heap_alloc_new _ _)
  have HB4 := Aside0.mk (below_step HB3.out hb4)
  have HR4 := Aside0.mk (show t2.length ≤ c3 ∧ Kd.C (Kd.int .u8) w4 A3 t2.length t2 from ⟨HR3.out.1, Kd.C_below HR3.out.2 hb4⟩)
  rw [← hw4]
  clear hw4 hb4 HR3 HB3
  refine Calls.mono (rtake A0 c0 l0 w4 (Kd.C_below HR0.out HB4.out) HC0.out HBY.out (by have := HL.out; omega) t1 t2 t3 t4 HT.out) ?_
  rintro e w5 ⟨A5, c5, rfl, hc5, hC5, hb5⟩
  obtain ⟨w6, hw6⟩ : ∃ w6, w6 = w5.alloc (.cells #[.int .u8 t1, .slice A5 t2.length c5] 30) := ⟨_, rfl⟩
  have hb6 : Below w4.heap.size w4 w6 := by rw [hw6]; exact below_step hb5 (below_alloc (Below.refl _ _) _)
  have hn6 : w6.heap[w5.heap.size]? = some (.cells #[.int .u8 t1, .slice A5 t2.length c5] 30 (0, 0)) := by rw [hw6]; exact heap_alloc_new _ _
  have hn3 := blk_below HN4.out hb6
  have HB6 := Aside0.mk (below_step HB4.out hb6)
  have HX := Aside0.mk (show t2.length ≤ c3 ∧ Kd.C (Kd.int .u8) w6 A3 t2.length t2 from ⟨HR4.out.1, Kd.C_below HR4.out.2 hb6⟩)
  have HY := Aside0.mk (show t2.length ≤ c5 ∧ Kd.C (Kd.int .u8) w6 A5 t2.length t2 from ⟨hc5, hC5 w6 (Kd.C_below HR0.out HB6.out)⟩)
  have hx0 : w6.cell? ⟨w3.heap.size, 0, none⟩ = some (.int .u8 t1) := (blk_cell hn3 0).trans rfl
  have hx1 : w6.cell? ⟨w3.heap.size, 1, none⟩ = some (.slice A3 t2.length c3) := (blk_cell hn3 1).trans rfl
  have hy0 : ∀ o, (w6.alloc o).cell? ⟨w5.heap.size, 0, none⟩ = some (.int .u8 t1) := fun o => (blk_cell (blk_alloc hn6 o) 0).trans rfl
  have hy1 : ∀ o, (w6.alloc o).cell? ⟨w5.heap.size, 1, none⟩ = some (.slice A5 t2.length c5) := fun o => (blk_cell (blk_alloc hn6 o) 1).trans rfl
  have hy2 : w6.cell? ⟨w5.heap.size, 0, none⟩ = some (.int .u8 t1) := (blk_cell hn6 0).trans rfl
  have hy3 : w6.cell? ⟨w5.heap.size, 1, none⟩ = some (.slice A5 t2.length c5) := (blk_cell hn6 1).trans rfl
  have hu30 := Try.underlying30
  clear hn6 hn3 hb6 hb5 hc5 hC5 HN4 HR4 HB4
  dsimp only
  subst hw6
  obtain ⟨w6, hw6⟩ : ∃ w6, w6 = w5.alloc (.cells #[.int .u8 t1, .slice A5 t2.length c5] 30) := ⟨_, rfl⟩
  rw [← hw6] at HB6 HX HY hx0 hx1 hy0 hy1 hy2 hy3
  go_upto_region 5 with fail
  rw [← hw6]
  clear hw6
  go_wp2_with fail
  have hone1 : Kd.C k30 ((w6.alloc (.cells #[.int .u8 t1, .slice A3 t2.length c3] 30)).alloc (.cells #[.int .u8 t1, .slice A5 t2.length c5] 30)) (some ⟨w6.heap.size, 0, none⟩) [(⟨t1, t2⟩ : S30)].length [⟨t1, t2⟩] :=
    one_C (x := ⟨t1, t2⟩) (blk_alloc (heap_alloc_new w6 _) _) HX.out.1 (Kd.C_below HX.out.2 (below_alloc (below_alloc (Below.refl _ _) _) _))
  have hone2 : Kd.C k30 ((w6.alloc (.cells #[.int .u8 t1, .slice A3 t2.length c3] 30)).alloc (.cells #[.int .u8 t1, .slice A5 t2.length c5] 30)) (some ⟨w6.heap.size + 1, 0, none⟩) [(⟨t1, t2⟩ : S30)].length [⟨t1, t2⟩] :=
    one_C (x := ⟨t1, t2⟩) (heap_alloc2_new w6 _ _) HY.out.1 (Kd.C_below HY.out.2 (below_alloc (below_alloc (Below.refl _ _) _) _))
  refine Calls.mono (cobwebref08_Same.calls (some ⟨w6.heap.size, 0, none⟩) 1 [⟨t1, t2⟩] (some ⟨w6.heap.size + 1, 0, none⟩) 1 [⟨t1, t2⟩] true _ hone1 (Nat.le_refl 1) hone2 (Nat.le_refl 1) (congrArg some (same_self _))) ?_
  rintro e w7 ⟨rfl, hd⟩
  have HB7 := Aside0.mk (below_step (below_alloc (below_alloc HB6.out _) _) hd.below)
  clear hd hone1 hone2 hx0 hx1 hy0 hy1 hy2 hy3 HX HY HB6
  obtain ⟨bl, hbl⟩ : ∃ bl, bl = R1.map toB := ⟨_, rfl⟩
  have HSC := Aside0.mk (show block_Scan.f (l0.length + 3) l0 = some (bl, R2) by
    rw [scan_f (l0.length + 3) l0.length l0 HBY.out (by have := HL.out; omega) (Nat.le_refl _) (by omega), HR.out, hbl])
  have HBL := Aside0.mk hbl
  clear hbl
  go_wp2_with fail
  refine Calls.mono (block_Scan.calls (l0.length + 3) A0 c0 l0 bl R2 w7 (Kd.C_below HR0.out HB7.out) HC0.out HSC.out) ?_
  rintro e w8 ⟨v8, rfl, hS8, hb8⟩
  obtain ⟨A8, c8, rfl⟩ := Kd.S_slice hS8
  have HS8 := Aside0.mk (Kd.S_reads' hS8).2
  have HB8 := Aside0.mk (below_step HB7.out hb8)
  clear hS8 hb8 HB7
  go_wp2_with fail
  have hrs := rscan A0 c0 l0 w8 (Kd.C_below HR0.out HB8.out) HC0.out HBY.out (by have := HL.out; omega) (R1, R2) HR.out
  dsimp only at hrs
  rw [show (fun p : Int × List Int => (⟨p.1, p.2⟩ : S30)) = toB from rfl, ← HBL.out] at hrs
  refine Calls.mono hrs ?_
  rintro e w9 ⟨A9, c9, rfl, hc9, hC9, hb9⟩
  have HS9 := Aside0.mk (show bl.length ≤ c8 ∧ Kd.C k30 w9 A8 bl.length bl from ⟨HS8.out.1, Kd.C_below HS8.out.2 hb9⟩)
  have HT9 := Aside0.mk (show bl.length ≤ c9 ∧ Kd.C k30 w9 A9 bl.length bl from ⟨hc9, hC9⟩)
  have HB9 := Aside0.mk (below_step HB8.out hb9)
  clear hrs hc9 hC9 hb9 HS8 HB8
  go_wp2_with fail
  refine Calls.mono (cobwebref08_Same.calls A8 c8 bl A9 c9 bl true w9 HS9.out.2 HS9.out.1 HT9.out.2 HT9.out.1 (congrArg some (same_self _))) ?_
  rintro e w10 ⟨rfl, hd⟩
  have HB10 := Aside0.mk (below_step HB9.out hd.below)
  clear hd
  go_wp2
  go_ret
  exact ⟨rfl, HB10.out⟩
theorem walk (A0 : Option Addr) (c0 : Nat) (l0 : List Int) (w : World) (hr0 : Kd.C (Kd.int .u8) w A0 l0.length l0) (hc0 : l0.length ≤ c0) (hby : Crc.IsBytes l0) :
    Calls Try.prog 5 #[.slice A0 l0.length c0] w fun e w' => e = .returned (.bool true) ∧ Below w.heap.size w w' := by
  by_cases hl : 2000 < l0.length
  · exact long_ A0 c0 l0 w hl
  · exact core A0 c0 l0 w hr0 hc0 hby (by omega)

end Go.Proofs.Ytgonodfggiablaa.Takes
