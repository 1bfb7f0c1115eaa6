/-
  The reference's Scan.
-/
import Derived.Test.YtgonodfggiablaaProg
import Derived.Test.YtgonodfggiablaaRegH
import Derived.Test.YtgonodfggiablaaMem
import Derived.Test.YtgonodfggiablaaCrc
import Derived.Test.YtgonodfggiablaaWord
import Derived.Test.YtgonodfggiablaaClone
import Derived.Test.YtgonodfggiablaaSum
import Derived.Test.YtgonodfggiablaaTake
import Derived.Test.YtgonodfggiablaaBlock
import Derived.Test.YtgonodfggiablaaRTake
import Derived.Test.YtgonodfggiablaaQBlockTakesx0
import Derived.Test.YtgonodfggiablaaQBlockTakesx1
import Derived.Test.YtgonodfggiablaaQBlockTakesx2
import Derived.Lib.SmallJoins
import Derived.Lib.Bytes
import Derived.Below
import Derived.Deep.Draws
import Derived.Deep.AppendLies
import Derived.Maps.AppendAt
import Derived.OwnWalk
import Derived.Laws.BytesArg
import Derived.Laws.MakeOwn
import Derived.Laws.OwnMore
import Derived.Deep.OwnRows
import Derived.Tactics
import Derived.Lib.ConvBytes
import Derived.Laws.Slices
import Derived.WalkKit
import Derived.KernelRfl
import Derived.RowKit3
import Derived.Deep.LoopGhost
import Derived.Deep.QuietTactic
import Derived.BigQuiet
import Derived.WideLaws
import Derived.Deep.DeepCutAuto
import Derived.Deep.CutBlock
import Derived.Deep.RegionHeld3
import Derived.Laws.Rows
import Derived.Lib.AppendStr
import Derived.ArgAppend
import Derived.Laws.IdiomCopy
import Derived.OrdersHeld
import Derived.Laws.BitsLemmas
import Derived.RowKit
import Derived.Lib.SliceRun
import Derived.Test.YtgonodfggiablaaWWords
import Derived.Test.YtgonodfggiablaaWLast
import Derived.Test.YtgonodfggiablaaWTab
import Derived.Test.YtgonodfggiablaaWFour
import Derived.Test.YtgonodfggiablaaWQPut
import Derived.Test.YtgonodfggiablaaWApart
import Derived.Test.YtgonodfggiablaaWArr
import Derived.Test.YtgonodfggiablaaWZeros
import Derived.Test.YtgonodfggiablaaWFoot
import Derived.Test.YtgonodfggiablaaWKept
import Derived.Test.YtgonodfggiablaaWShare
import Derived.Test.YtgonodfggiablaaWN
import Derived.Test.YtgonodfggiablaaWFootNe
import Derived.Test.YtgonodfggiablaaWAt
import Derived.Test.YtgonodfggiablaaWEqStruct
import Derived.Test.YtgonodfggiablaaWRepsOne
import Derived.Test.YtgonodfggiablaaWInv
import Derived.Test.YtgonodfggiablaaWInvWords
import Derived.Test.YtgonodfggiablaaWGuard
import Derived.Test.YtgonodfggiablaaWNEv
import Derived.Test.YtgonodfggiablaaWMore
namespace Go.Proofs.Ytgonodfggiablaa.RScan
open Go.RowKit Go.Proofs.YtgonodfggiablaaW.PrintWords Go.Proofs.YtgonodfggiablaaW.PrintLast Go.Proofs.YtgonodfggiablaaW.PrintMore
set_option linter.unusedVariables false
set_option linter.unusedSimpArgs false
open QBlockTakes Mem RTake
/-- What a row of blocks holds whose bodies are parts of what came in: a kind and where its body lies. -/
abbrev Q : Type := Int × (Option Addr × Nat × Nat)
def kq : Kd Q := Kd.pair (Kd.int .u8) (Kd.scalar (fun p : Option Addr × Nat × Nat => Value.slice p.1 p.2.1 p.2.2) (fun _ => rfl))
/-- It is a block's. -/
def Lk (w : World) (y : Q) (x : Int × List Int) : Prop := y.1 = x.1 ∧ y.2.2.1 = x.2.length ∧ x.2.length ≤ y.2.2.2 ∧ (Kd.int .u8).C w y.2.1 x.2.length x.2
theorem one_Q {W : World} {g c : Nat} {A : Option Addr} {n : Nat} {k : Int} (h : W.heap[g]? = some (.cells #[.int .u8 k, .slice A n c] 30 (0, 0))) : kq.C W (some ⟨g, 0, none⟩) [((k, (A, n, c)) : Q)].length [(k, (A, n, c))] :=
  row_at (by simp) fun j p hj => by
    match j, hj with
    | 0, hj =>
      obtain rfl := Option.some.inj hj
      refine ⟨[.int .u8 k, .slice A n c], ⟨[_], [_], rfl, rfl, rfl⟩, fun i u hi => ?_⟩
      match i, hi with
      | 0, hi =>
        obtain rfl := Option.some.inj hi
        exact (blk_cell h 0).trans rfl
      | 1, hi =>
        obtain rfl := Option.some.inj hi
        exact (blk_cell h 1).trans rfl
theorem C_of_Q {w W : World} {A : Option Addr} {ys : List Q} {xs : List (Int × List Int)} (h : kq.C W A ys.length ys) (hl : ys.length = xs.length) (hb : Below w.heap.size w W) (hk : ∀ j (h1 : j < ys.length) (h2 : j < xs.length), Lk w ys[j] xs[j]) :
    Kd.C k30 W A (xs.map (fun p => (⟨p.1, p.2⟩ : S30))).length (xs.map (fun p => (⟨p.1, p.2⟩ : S30))) := by
  refine ⟨rfl, by have := h.2.1; rw [List.length_map]; omega, fun hn => ?_⟩
  rw [List.length_map] at hn
  obtain ⟨ad, e, hc⟩ := h.2.2 (by omega)
  refine ⟨ad, e, fun j p hj => ?_⟩
  have hjx : j < xs.length := by
    have := (List.getElem?_eq_some_iff.1 hj).1
    simpa using this
  have hjy : j < ys.length := by omega
  obtain ⟨c, h1, h2, h3⟩ := hc j ys[j] (List.getElem?_eq_getElem hjy)
  obtain ⟨g1, g2, g3, g4⟩ := hk j hjy hjx
  have hp : p = ⟨xs[j].1, xs[j].2⟩ := by
    rw [List.getElem?_map, List.getElem?_eq_getElem hjx] at hj
    simpa using hj.symm
  subst hp
  refine ⟨c, h1, ?_, h3⟩
  obtain ⟨_, _, rfl, rfl, rfl⟩ := h2
  have hm := k30_mk W ⟨xs[j].1, xs[j].2⟩ (A1 := ys[j].2.1) (c1 := ys[j].2.2.2) g3 (Kd.C_below g4 hb)
  show k30.K W _ ([Value.int .u8 ys[j].1] ++ [Value.slice ys[j].2.1 ys[j].2.2.1 ys[j].2.2.2])
  rw [g1, g2]
  exact hm
theorem Lk.below {w W : World} {y : Q} {x : Int × List Int} (h : Lk w y x) (hb : Below w.heap.size w W) : Lk W y x := ⟨h.1, h.2.1, h.2.2.1, Kd.C_below h.2.2.2 hb⟩
theorem scan_next (K m : Nat) (l : List Int) (hb : Crc.IsBytes l) (hl : l.length ≤ K) (t1 : Int) (t2 : List Int) (h : Take.tk l = (t1, t2, (m : Int), 0)) :
    Block.scan (K + 1) l = ((t1, t2) :: (Block.scan ((K - m) + 1) (l.drop m)).1, (m : Int) + (Block.scan ((K - m) + 1) (l.drop m)).2) ∧ 10 ≤ m ∧ m ≤ l.length := by
  have ht := Block.tk_taken hb (by rw [h])
  rw [h] at ht
  dsimp only at ht
  have e : Block.scan (K + 1) l = ((t1, t2) :: (Block.scan K (l.drop m)).1, (m : Int) + (Block.scan K (l.drop m)).2) := by
    conv => lhs; unfold Block.scan
    rw [h]
    dsimp only
    rw [if_pos rfl, Int.toNat_natCast]
  have hbd : Crc.IsBytes (l.drop m) := fun x hx => hb x (List.mem_of_mem_drop hx)
  obtain ⟨K1, rfl⟩ : ∃ K1, K = K1 + 1 := ⟨K - 1, by omega⟩
  have e2 := Block.scan_more (K1 + 1 - m) K1 (l.drop m) hbd (by rw [List.length_drop]; omega) (by omega)
  rw [e2] at e
  exact ⟨e, by omega, by omega⟩
theorem scan_stop (K : Nat) (l : List Int) (h : ¬ (Take.tk l).2.2.2 = 0) : Block.scan (K + 1) l = ([], 0) := by
  unfold Block.scan
  rw [if_neg h]

set_option maxHeartbeats 8000000 in
set_option maxRecDepth 100000 in
theorem rscan (A0 : Option Addr) (c0 : Nat) (l0 : List Int) (w : World) (hr0 : Kd.C (Kd.int .u8) w A0 l0.length l0) (hc0 : l0.length ≤ c0) (hby : Crc.IsBytes l0) (hm : l0.length ≤ 1000000) (R : List (Int × List Int) × Int) (hR : Block.scan (l0.length + 1) l0 = R) :
    Calls Try.prog 18 #[.slice A0 l0.length c0] w fun e w' => ∃ (Ao : Option Addr) (co : Nat), e = .returned (.tuple #[.slice Ao (R.1.map (fun p => (⟨p.1, p.2⟩ : S30))).length co, .int .i64 R.2]) ∧ (R.1.map (fun p => (⟨p.1, p.2⟩ : S30))).length ≤ co ∧ Kd.C k30 w' Ao (R.1.map (fun p => (⟨p.1, p.2⟩ : S30))).length (R.1.map (fun p => (⟨p.1, p.2⟩ : S30))) ∧ Below w.heap.size w w' := by
  have HR0 := Aside0.mk hr0
  have HBY := Aside0.mk hby
  have HRR := Aside0.mk hR
  have HC0 := Aside0.mk hc0
  obtain ⟨i00, hi0, _, hsz, _⟩ := info_parts Clone.info5
  have HI0 := Aside0.mk hi0
  have HSZ := Aside0.mk hsz
  clear hr0 hby hR hi0 hsz hc0
  go_enter Try.func18, Try.ntmps18
  go_wp2
  go_loopg [4, 5] (l0.length) (fun kq_ v4 v5 wr => ∃ (at_ : Nat) (ys : List Q) (xs : List (Int × List Int)), v5 = .int .i64 at_ ∧ Aside0 (at_ + kq_ = l0.length) ∧ at_ ≤ l0.length ∧ Aside0 (R = (xs ++ (Block.scan ((l0.length - at_) + 1) (l0.drop at_)).1, (at_ : Int) + (Block.scan ((l0.length - at_) + 1) (l0.drop at_)).2)) ∧ Aside0 (ys.length = xs.length ∧ ys.length ≤ at_) ∧ Aside0 (∀ j (h1 : j < ys.length) (h2 : j < xs.length), Lk w ys[j] xs[j]) ∧ Aside0 (Kd.R kq 30 wr w.heap.size (fun q => w.heap.size ≤ q) v4 ys) ∧ Aside0 (Below w.heap.size w wr))
  case atStart => exact ⟨0, [], [], rfl, ⟨by omega⟩, Nat.zero_le _, ⟨by rw [Nat.sub_zero, List.drop_zero, HRR.out]; simp⟩, ⟨rfl, Nat.le_refl _⟩, ⟨fun j h1 h2 => absurd h1 (by simp)⟩, ⟨Kd.R_nil _ _ _ _ _⟩, ⟨Below.refl _ _⟩⟩
  case round =>
    obtain ⟨at_, ys, xs, rfl, HQ, hat, HE, HLN, HLK, HRW, HBQ⟩ := hrel
    obtain ⟨Ay, cy, hu⟩ := Kd.R_slice HRW.out
    subst hu
    obtain ⟨AD, hAD⟩ : ∃ AD, AD = (if c0 = at_ then A0 else A0.map (·.add (at_ * 1))) := ⟨_, rfl⟩
    have hCD := Kd.C_drop (m := at_) HR0.out hat HC0.out
    have cutD := cut_from (P := Try.prog) 24 5 .i64 Try.underlying24 HI0.out 1 HSZ.out A0 l0.length c0 (at_ : Int) (by omega) (by omega)
    rw [Int.toNat_natCast, ← hAD] at cutD
    rw [show (Kd.int .u8).sz = 1 from rfl, ← hAD] at hCD
    have hlD : l0.length - at_ = (l0.drop at_).length := by rw [List.length_drop]
    rw [hlD] at cutD
    have hbD : Crc.IsBytes (l0.drop at_) := fun x hx => HBY.out x (List.mem_of_mem_drop hx)
    have hcD : (l0.drop at_).length ≤ c0 - at_ := by have := HC0.out; rw [List.length_drop]; omega
    have hmD : (l0.drop at_).length ≤ 100000000 := by rw [List.length_drop]; omega
    obtain ⟨⟨t1, t2, t3, t4⟩, hT⟩ : ∃ T, Take.tk (l0.drop at_) = T := ⟨_, rfl⟩
    have HT := Aside0.mk hT
    have HDL := Aside0.mk hlD.symm
    have HBD := Aside0.mk hbD
    obtain ⟨dd, hdd⟩ : ∃ d, d = l0.drop at_ := ⟨_, rfl⟩
    rw [← hdd] at cutD hCD hbD hcD hmD HT HDL HBD
    have HCD := Aside0.mk hCD
    have HDD := Aside0.mk hdd
    clear hAD hlD hT hdd hCD
    go_wp2_with fail
    refine Calls.mono (rtake AD (c0 - at_) dd wr (Kd.C_below HCD.out HBQ.out) hcD hbD hmD t1 t2 t3 t4 HT.out) ?_
    rintro e w5 ⟨A1, c1, rfl, hc1, hC1, hb5⟩
    obtain ⟨w6, hw6⟩ : ∃ w6, w6 = w5.alloc (.cells #[.int .u8 t1, .slice A1 t2.length c1] 30) := ⟨_, rfl⟩
    have hbe : Below wr.heap.size wr w6 := by rw [hw6]; exact below_step hb5 (below_alloc (Below.refl _ _) _)
    have hn6 : w6.heap[w5.heap.size]? = some (.cells #[.int .u8 t1, .slice A1 t2.length c1] 30 (0, 0)) := by rw [hw6]; exact heap_alloc_new _ _
    have hq0 : w6.cell? ⟨w5.heap.size, 0, none⟩ = some (.int .u8 t1) := (blk_cell hn6 0).trans rfl
    have hq1 : w6.cell? ⟨w5.heap.size, 1, none⟩ = some (.slice A1 t2.length c1) := (blk_cell hn6 1).trans rfl
    have HB6 := Aside0.mk (below_step HBQ.out hbe)
    have HRW6 := Aside0.mk (Kd.R_below HRW.out hbe)
    have HNEW := Aside0.mk (show Lk w (t1, (A1, t2.length, c1)) (t1, t2) from ⟨rfl, rfl, hc1, hC1 w HCD.out⟩)
    clear hn6 hbe hc1 hC1 hb5 HRW HBQ
    by_cases h4 : t4 = 0
    · subst h4
      have htk := Block.tk_taken HBD.out (by rw [HT.out])
      rw [HT.out] at htk
      dsimp only at htk
      obtain ⟨m, rfl⟩ : ∃ m : Nat, t3 = (m : Int) := ⟨t3.toNat, by omega⟩
      obtain ⟨he, hm10, hml⟩ := scan_next (l0.length - at_) m dd HBD.out (by rw [HDL.out]; exact Nat.le_refl _) t1 t2 HT.out
      have hdl := HDL.out
      have HE2 := Aside0.mk (show R = ((xs ++ [(t1, t2)]) ++ (Block.scan ((l0.length - (at_ + m)) + 1) (l0.drop (at_ + m))).1, ((at_ + m : Nat) : Int) + (Block.scan ((l0.length - (at_ + m)) + 1) (l0.drop (at_ + m))).2) by
        have h := HE.out
        rw [← HDD.out, he, HDD.out, List.drop_drop, show l0.length - at_ - m = l0.length - (at_ + m) by omega] at h
        rw [h, List.append_assoc]
        simp only [List.cons_append, List.nil_append, Prod.mk.injEq, true_and]
        omega)
      have hwn : IntKind.i64.wrap ((at_ : Int) + (m : Int)) = (at_ : Int) + (m : Int) := by rw [IntKind.wrap_i64]; omega
      have HCAP := Aside0.mk (show (ys.length + 1) * 32 ≤ 140737488355328 by have := HLN.out; omega)
      have HML := Aside0.mk (show at_ + m ≤ l0.length ∧ 10 ≤ m by omega)
      clear htk he hm10 hml hdl HE
      dsimp only
      subst hw6
      go_wp2_with (((with_reducible refine gate_dst (N := 24) rfl ?_); refine Kd.R_append_rows kq (w0 := w) w.heap.size rfl (.tmp 21) (.tmp 23) 32 30 (.agg #[.int .u8 0, .slice none 0 0]) 32 rfl Try.underlying32 info30 rfl (by decide) (by decide) (.slice Ay ys.length cy) ys [(t1, (A1, t2.length, c1))] (some ⟨w5.heap.size + 1, 0, none⟩) 1 1 (fun q => w.heap.size ≤ q) (fun _ => False) rfl rfl (Kd.R_alloc HRW6.out (.cells #[.int .u8 t1, .slice A1 t2.length c1] 30)) (one_Q (heap_alloc2_new w5 (.cells #[.int .u8 t1, .slice A1 t2.length c1] 30) (.cells #[.int .u8 t1, .slice A1 t2.length c1] 30))) (fun _ _ h => h) (fun _ h => h.elim) (fun q hq => by have := HB6.out.size; simp at hq this; omega) (below_alloc HB6.out _) (by have h1 := HB6.out.size; simp at h1 ⊢; omega) HCAP.out ?_); intro vo w8 hr8 hb8 hg8 _; have HR8 := Aside0.mk hr8; have HB8 := Aside0.mk hb8; clear hr8 hb8 hg8)
      go_roundg (l0.length - (at_ + m))
      case measure => have := HQ.out; have := HML.out; omega
      case rel => exact ⟨at_ + m, ys ++ [(t1, (A1, t2.length, c1))], xs ++ [(t1, t2)], by rw [Int.natCast_add], ⟨by have := HML.out; omega⟩, HML.out.1, HE2, ⟨by have := HLN.out; simp; omega, by have := HLN.out; have := HML.out; simp; omega⟩, ⟨fun j h1 h2 => by
        have hll := HLN.out.1
        by_cases hj : j < ys.length
        · rw [List.getElem_append_left hj, List.getElem_append_left (by omega)]; exact HLK.out j hj (by omega)
        · have hj2 : j = ys.length := by simp at h1; omega
          subst hj2
          have e1 : (ys ++ [(t1, (A1, t2.length, c1))])[ys.length] = ((t1, (A1, t2.length, c1)) : Q) := by simp
          have e2 : (xs ++ [(t1, t2)])[ys.length] = (t1, t2) := by simp [hll]
          rw [e1, e2]; exact HNEW.out⟩, HR8, HB8⟩
    · have hR1 : R = (xs, (at_ : Int)) := by
        have h := HE.out
        rw [← HDD.out, scan_stop _ dd (by rw [HT.out]; exact h4)] at h
        simpa using h
      have h4b : (t4 == 0) = false := beq_eq_false_iff_ne.2 h4
      have h4c : (t4 != 0) = true := bne_iff_ne.2 h4
      have HR1 := Aside0.mk hR1
      clear hR1 HE
      dsimp only
      go_wp2_with fail
      rw [← hw6]
      clear hw6
      go_wp2
      refine bodyPost_ret (results_tmp2 rfl _ _ _) rfl ?_
      have hl : (R.1.map (fun p => (⟨p.1, p.2⟩ : S30))).length = ys.length := by rw [HR1.out, List.length_map, HLN.out.1]
      have hrr := Kd.R_reads' HRW6.out
      refine ⟨Ay, cy, by rw [hl, HR1.out]; rfl, by rw [hl]; exact hrr.2.1, ?_, HB6.out⟩
      rw [HR1.out]
      exact C_of_Q hrr.2.2 HLN.out.1 HB6.out HLK.out

end Go.Proofs.Ytgonodfggiablaa.RScan
