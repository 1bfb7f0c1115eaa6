/-
  Append
-/
import Derived.Test.YtabiloklphjeiaaProg
import Derived.Test.YtabiloklphjeiaaDisk
import Derived.Test.YtabiloklphjeiaaDskB
import Derived.BigRegion
import Derived.Below
import Derived.Deep.Draws
import Derived.Deep.AppendLies
import Derived.Maps.AppendAt
import Derived.OwnWalk
import Derived.Laws.BytesArg
import Derived.Laws.MakeOwn
import Derived.Laws.OwnMore
import Derived.Deep.OwnRows
import Derived.Tactics
import Derived.Lib.ConvBytes
import Derived.Laws.Slices
import Derived.WalkKit
import Derived.KernelRfl
import Derived.RowKit3
import Derived.Deep.LoopGhost
import Derived.Deep.QuietTactic
import Derived.BigQuiet
import Derived.WideLaws
import Derived.Deep.DeepCutAuto
import Derived.Deep.CutBlock
import Derived.Deep.RegionHeld3
import Derived.Laws.Rows
import Derived.Lib.AppendStr
import Derived.ArgAppend
import Derived.Laws.IdiomCopy
import Derived.OrdersHeld
import Derived.Laws.BitsLemmas
import Derived.RowKit
import Derived.Lib.SliceRun
import Derived.Test.YtabiloklphjeiaaWWords
import Derived.Test.YtabiloklphjeiaaWLast
import Derived.Test.YtabiloklphjeiaaWTab
import Derived.Test.YtabiloklphjeiaaWFour
import Derived.Test.YtabiloklphjeiaaWQPut
import Derived.Test.YtabiloklphjeiaaWApart
import Derived.Test.YtabiloklphjeiaaWArr
import Derived.Test.YtabiloklphjeiaaWZeros
import Derived.Test.YtabiloklphjeiaaWFoot
import Derived.Test.YtabiloklphjeiaaWKept
import Derived.Test.YtabiloklphjeiaaWShare
import Derived.Test.YtabiloklphjeiaaWN
import Derived.Test.YtabiloklphjeiaaWFootNe
import Derived.Test.YtabiloklphjeiaaWAt
import Derived.Test.YtabiloklphjeiaaWEqStruct
import Derived.Test.YtabiloklphjeiaaWRepsOne
import Derived.Test.YtabiloklphjeiaaWInv
import Derived.Test.YtabiloklphjeiaaWInvWords
import Derived.Test.YtabiloklphjeiaaWGuard
import Derived.Test.YtabiloklphjeiaaWNEv
import Derived.Test.YtabiloklphjeiaaWMore
namespace Go.Proofs.Ytabiloklphjeiaa.DskC
open Go.RowKit Go.Proofs.YtabiloklphjeiaaW.PrintWords Go.Proofs.YtabiloklphjeiaaW.PrintLast Go.Proofs.YtabiloklphjeiaaW.PrintMore
set_option linter.unusedVariables false
set_option linter.unusedSimpArgs false
open Disk
/-- How many bytes lists have. -/
def tot (bs : List (List Int)) : Nat := bs.flatten.length
theorem tot_succ (bs : List (List Int)) (k : Nat) (h : k < bs.length) : tot (bs.take (k + 1)) = tot (bs.take k) + bs[k].length := by
  unfold tot
  rw [List.take_succ_eq_append_getElem h, List.flatten_append, List.length_append]; simp
theorem flat_succ (bs : List (List Int)) (k : Nat) (h : k < bs.length) : (bs.take (k + 1)).flatten = (bs.take k).flatten ++ bs[k] := by
  rw [List.take_succ_eq_append_getElem h, List.flatten_append]; simp
theorem tot_take (bs : List (List Int)) (k : Nat) : tot (bs.take k) ≤ tot bs := by
  unfold tot
  conv => rhs; rw [← List.take_append_drop k bs, List.flatten_append, List.length_append]
  omega
theorem tot_le (bs : List (List Int)) (k : Nat) (h : k < bs.length) : tot (bs.take k) + bs[k].length ≤ tot bs := by
  rw [← tot_succ bs k h]; exact tot_take _ _

def pieceAt (xs : List (List Int)) (i : Int) : List Int := xs.getD i.toNat ([] : List Int)
theorem at_piece {w : World} {A : Option Addr} {n : Nat} {xs : List (List Int)} (h : Kd.C (Kd.slice 5 (Kd.int .u8)) w A n xs) (i : Int) (h0 : 0 ≤ i) (h1 : i < n) :
    ∃ ad A0 c0, A = some ad ∧ w.cell? (ad.add i.toNat) = some (.slice A0 (pieceAt xs i).length c0) ∧ (pieceAt xs i).length ≤ c0 ∧ (Kd.int .u8).C w A0 (pieceAt xs i).length (pieceAt xs i) := by
  obtain ⟨ad, c, e, _, hK, hc0⟩ := Kd.C_get h ([] : List Int) i h0 h1
  have hc : ∀ j u, c[j]? = some u → w.cell? (ad.add (i.toNat * 1 + j)) = some u := hc0
  obtain ⟨A0, c0, rfl, l0, g0⟩ := hK
  exact ⟨ad, A0, c0, e, by have hq := hc 0 _ rfl; rwa [Nat.mul_one, Nat.add_zero] at hq, l0, g0⟩
theorem piece_nat (bs : List (List Int)) (k : Nat) (h : k < bs.length) : pieceAt bs (k : Int) = bs[k] := by simp [pieceAt, h]

theorem IsD_bound {base : Nat} {ok : Nat → Prop} {W : World} {g : Nat} {room safe : Int} {xs : List Int} (h : IsD base ok W g room safe xs) : IsD base (fun k => ok k ∧ k < W.heap.size) W g room safe xs := by
  obtain ⟨A, c, hb, hg, ho, hr⟩ := h
  exact ⟨A, c, hb, hg, ⟨ho, blk_lt hb⟩, Kd.R_mono (Kd.R_bound hr) (fun k hk => ⟨⟨hk.1.1, hk.2.2.1⟩, hk.1.2⟩)⟩
theorem IsD_put {base : Nat} {ok : Nat → Prop} {W : World} {g : Nat} {room safe : Int} {v : Value} {A : Option Addr} {c n : Nat} {ys : List Int} (hb : W.heap[g]? = some (.cells #[.int .i64 room, .int .i64 safe, v] 48 (0, 0))) (hg : base ≤ g) (ho : ok g)
    (hr : Kd.R (Kd.int .u8) 5 W base (fun k => ok k ∧ k ≠ g) (.slice A n c) ys) : IsD base ok (W.setCell ⟨g, 2, none⟩ (.slice A n c)) g room safe ys := by
  obtain ⟨hn, _⟩ := Kd.R_reads' hr
  subst hn
  exact ⟨A, c, by simpa using blk_set hb 2 (.slice A ys.length c), hg, ho, Kd.R_far hr (fun k hk => hk.2) _⟩

set_option maxHeartbeats 4000000 in
set_option maxRecDepth 100000 in
theorem append_ok (g : Nat) (room safe : Int) (xs : List Int) (A0 : Option Addr) (c0 : Nat) (bs : List (List Int)) (ok : Nat → Prop) (w0 w : World) (hI : IsD w0.heap.size ok w g room safe xs) (hB : Below w0.heap.size w0 w)
    (hA : ∀ W', Kept w W' ok → Kd.C (Kd.slice 5 (Kd.int .u8)) W' A0 bs.length bs) (hn : bs.length ≤ c0) (hm : bs.length ≤ 4611686018427387904) (hr1 : room ≤ 1073741824) (hfit : (xs.length : Int) + (tot bs : Nat) ≤ room) :
    Calls Try.prog 9 #[.pointer (some ⟨g, 0, none⟩), .slice A0 bs.length c0] w fun e w' => e = .returned (.int .i64 0) ∧ IsD w0.heap.size (fun k => ok k ∨ w.heap.size ≤ k ∧ k < w'.heap.size) w' g room safe (xs ++ bs.flatten) ∧ Below w0.heap.size w0 w' ∧ Kept w w' ok := by
  have HA := Aside0.mk hA
  have hL := left g room safe xs ok w0 w hI hB
  rw [show wrap64 (room - (xs.length : Int)) = room - (xs.length : Int) by unfold wrap64; omega] at hL
  have HL := Aside0.mk hL
  have HGE := Aside0.mk hI.ge
  have HOWN := Aside0.mk hI.own
  clear hI hB hA hL
  go_enter Try.func9, Try.ntmps9
  go_wp2_with (fail)
  refine Calls.mono HL.out ?_
  rintro e w1 ⟨rfl, hsz, hI1, hB1, hK1⟩
  have HI := Aside0.mk hI1
  have HB := Aside0.mk hB1
  have HK := Aside0.mk hK1
  have HSZ := Aside0.mk hsz
  clear hI1 hB1 hK1 hsz HL
  go_wp2
  obtain ⟨wo, hwo⟩ : ∃ wo : World, wo = w1 := ⟨_, rfl⟩
  subst hwo
  go_loopg [5, 14] (bs.length) (fun kq v5 v14 wr => ∃ (k : Nat) (L : Int), v5 = .int .i64 L ∧ v14 = .int .i64 k ∧ Aside0 (k + kq = bs.length) ∧ k ≤ bs.length ∧ Aside0 (L = room - (xs.length : Int) - (tot (bs.take k) : Nat)) ∧ Aside0 (wr = wo))
  case atStart => exact ⟨0, _, rfl, rfl, ⟨by omega⟩, Nat.zero_le _, ⟨by simp [tot]⟩, ⟨rfl⟩⟩
  case round =>
    obtain ⟨k, L, rfl, rfl, HQ, hk, HL, HW⟩ := hrel
    have hw := HW.out
    subst hw
    clear HW
    by_cases hlt : k < bs.length
    · obtain ⟨ad, A1, c1, e1, hx, hl1, hC⟩ := at_piece (HA.out wr HK.out) (k : Int) (by omega) (by omega)
      have htl := tot_le bs k hlt
      have hts := tot_succ bs k hlt
      rw [piece_nat bs k hlt] at hx hl1 hC
      obtain ⟨m, hmm⟩ : ∃ m, m = bs[k].length := ⟨_, rfl⟩
      rw [← hmm] at hx htl hts
      rw [Int.toNat_natCast] at hx
      have hL0 := HL.out
      have h1 : (m : Int) ≤ L := by rw [hL0]; omega
      have h2 : L ≤ 1073741824 := by rw [hL0]; omega
      have HTS := Aside0.mk hts
      clear hL0 hts hC htl hmm hl1
      cases e1
      go_wp2
      go_roundg (bs.length - (k + 1))
      case measure => have := HQ.out; omega
      case rel => exact ⟨k + 1, _, rfl, by go_num, ⟨by omega⟩, by omega, ⟨by rw [HL.out, HTS.out]; omega⟩, ⟨rfl⟩⟩
    · clear HL HQ
      go_wp2
      obtain ⟨wp, hwp⟩ : ∃ wp : World, wp = wr := ⟨_, rfl⟩
      subst hwp
      go_loopg [29] (bs.length) (fun kq v29 wr => ∃ (k : Nat), v29 = .int .i64 k ∧ Aside0 (k + kq = bs.length) ∧ k ≤ bs.length ∧ Aside0 (IsD w0.heap.size (fun k => ok k ∨ w.heap.size ≤ k) wr g room safe (xs ++ (bs.take k).flatten)) ∧ Aside0 (Below w0.heap.size w0 wr) ∧ Aside0 (Kept w wr ok))
      case atStart => exact ⟨0, rfl, ⟨by omega⟩, Nat.zero_le _, ⟨by simpa using HI.out.mono (fun k h => .inl h)⟩, HB, HK⟩
      case round =>
        clear HI HB HK
        obtain ⟨k, rfl, HQ, hk, HI, HB, HK⟩ := hrel
        by_cases hlt : k < bs.length
        · obtain ⟨ad, A1, c1, e1, hx, hl1, hC⟩ := at_piece (HA.out wr HK.out) (k : Int) (by omega) (by omega)
          have htl := tot_le bs k hlt
          rw [piece_nat bs k hlt] at hx hl1 hC
          have hfs := flat_succ bs k hlt
          obtain ⟨b, hb0⟩ : ∃ b, b = bs[k] := ⟨_, rfl⟩
          rw [← hb0] at hx hl1 hC htl hfs
          rw [Int.toNat_natCast] at hx
          have HFS := Aside0.mk hfs
          obtain ⟨ys, hys⟩ : ∃ ys, ys = xs ++ (bs.take k).flatten := ⟨_, rfl⟩
          have hyl : ys.length = xs.length + tot (bs.take k) := by rw [hys, List.length_append]; rfl
          have HI2 := Aside0.mk HI.out
          rw [← hys] at HI2
          have HYS := Aside0.mk hys
          have hcap : (ys.length + b.length) * 1 ≤ 140737488355328 := by rw [hyl]; omega
          have HCAP := Aside0.mk hcap
          obtain ⟨A, c, hb, hg, ho, hr⟩ := HI2.out
          have hc2 := cellD2 hb
          have HBLK := Aside0.mk hb
          have HR := Aside0.mk hr
          have HC := Aside0.mk hC
          clear hb hg ho hr hC hfs hb0 hys hyl hcap htl hl1 HI HI2
          cases e1
          go_wp2_with (first
            | ((with_reducible refine gate_builtin (b := .append) (xs := #[.tmp 37, .tmp 38]) rfl ?_); at_builtin; refine Kd.R_append_rows (Kd.int .u8) (w0 := w0) w0.heap.size rfl (.tmp 37) (.tmp 38) 28 5 (.int .u8 0) 1 rfl Try.underlying28 Clone.info5 rfl (by decide) (by omega) (.slice A ys.length c) ys b A1 b.length c1 (fun k => (ok k ∨ w.heap.size ≤ k) ∧ k ≠ g) (fun _ => False) rfl rfl HR.out HC.out (fun _ _ h => h) (fun _ h => h.elim) ?aF HB.out HB.out.size HCAP.out ?_; (case aF => exact (fun k hk => ⟨.inr (Nat.le_trans HK.out.1 hk), by have := blk_lt HBLK.out; omega⟩)); intro v2 w2 hr2 hb2 hg2 hat2; obtain ⟨A2, c2, rfl⟩ := Kd.R_slice hr2; have HR2 := Aside0.mk hr2; have HB2 := Aside0.mk hb2; have HG2 := Aside0.mk hg2; have hblk2 := (hg2.block g (blk_lt HBLK.out) (fun he => (HR.out.1 g he.symm).2 rfl)).trans HBLK.out; have hd2 := cellD2 hblk2; have hf2 := blk_frozen hblk2 2; have HBLK2 := Aside0.mk hblk2; clear hr2 hb2 hg2 hat2 hblk2))
          have HI3 := Aside0.mk (IsD_put HBLK2.out HGE.out (.inl HOWN.out) HR2.out)
          have HB3 := Aside0.mk (below_set (j := 2) (v := .slice A2 (ys ++ b).length c2) HB2.out HGE.out)
          have HK3 := Aside0.mk ((Kept.of_grown HG2.out HK.out (fun k hk => (HR.out.1 k hk).1)).setCell (p := ⟨g, 2, none⟩) (.inl HOWN.out) (.slice A2 (ys ++ b).length c2))
          clear HBLK2 HR2 HB2 HG2 hd2 hf2
          rw [List.length_append] at HI3 HB3 HK3
          go_roundg (bs.length - (k + 1))
          case measure => have := HQ.out; omega
          case rel => exact ⟨k + 1, by go_num, ⟨by omega⟩, by omega, ⟨by rw [HFS.out, ← List.append_assoc, ← HYS.out]; exact HI3.out⟩, HB3, HK3⟩
        · go_wp2
          go_ret
          have hI := HI.out
          rw [List.take_of_length_le (by omega)] at hI
          exact ⟨rfl, (IsD_bound hI).mono (fun k hk => hk.1.imp id (fun h => ⟨h, hk.2⟩)), HB.out, HK.out⟩

set_option maxHeartbeats 4000000 in
set_option maxRecDepth 100000 in
theorem append_full (g : Nat) (room safe : Int) (xs : List Int) (A0 : Option Addr) (c0 : Nat) (bs : List (List Int)) (ok : Nat → Prop) (w0 w : World) (hI : IsD w0.heap.size ok w g room safe xs) (hB : Below w0.heap.size w0 w)
    (hA : ∀ W', Kept w W' ok → Kd.C (Kd.slice 5 (Kd.int .u8)) W' A0 bs.length bs) (hn : bs.length ≤ c0) (hm : bs.length ≤ 4611686018427387904) (hm2 : ∀ b ∈ bs, b.length ≤ 4611686018427387904) (hr0 : (xs.length : Int) ≤ room) (hr1 : room ≤ 1073741824) (hfit : ¬ (xs.length : Int) + (tot bs : Nat) ≤ room) :
    Calls Try.prog 9 #[.pointer (some ⟨g, 0, none⟩), .slice A0 bs.length c0] w fun e w' => e = .returned (.int .i64 50) ∧ IsD w0.heap.size ok w' g room safe xs ∧ Below w0.heap.size w0 w' ∧ Kept w w' ok := by
  have HA := Aside0.mk hA
  have HM2 := Aside0.mk hm2
  have hL := left g room safe xs ok w0 w hI hB
  rw [show wrap64 (room - (xs.length : Int)) = room - (xs.length : Int) by unfold wrap64; omega] at hL
  have HL := Aside0.mk hL
  have HF := Aside0.mk hfit
  clear hI hB hA hL hfit hm2
  go_enter Try.func9, Try.ntmps9
  go_wp2_with (fail)
  refine Calls.mono HL.out ?_
  rintro e w1 ⟨rfl, hsz, hI1, hB1, hK1⟩
  have HI := Aside0.mk hI1
  have HB := Aside0.mk hB1
  have HK := Aside0.mk hK1
  have HSZ := Aside0.mk hsz
  clear hI1 hB1 hK1 hsz HL
  go_wp2
  obtain ⟨wo, hwo⟩ : ∃ wo : World, wo = w1 := ⟨_, rfl⟩
  subst hwo
  go_loopg [5, 14] (bs.length) (fun kq v5 v14 wr => ∃ (k : Nat) (L : Int), v5 = .int .i64 L ∧ v14 = .int .i64 k ∧ Aside0 (k + kq = bs.length) ∧ k ≤ bs.length ∧ Aside0 (L = room - (xs.length : Int) - (tot (bs.take k) : Nat)) ∧ 0 ≤ L ∧ Aside0 (wr = wo))
  case atStart => exact ⟨0, _, rfl, rfl, ⟨by omega⟩, Nat.zero_le _, ⟨by simp [tot]⟩, by omega, ⟨rfl⟩⟩
  case round =>
    obtain ⟨k, L, rfl, rfl, HQ, hk, HL, hl0, HW⟩ := hrel
    have hw := HW.out
    subst hw
    clear HW
    by_cases hlt : k < bs.length
    · obtain ⟨ad, A1, c1, e1, hx, hl1, hC⟩ := at_piece (HA.out wr HK.out) (k : Int) (by omega) (by omega)
      have hts := tot_succ bs k hlt
      have hbm := HM2.out _ (List.getElem_mem hlt)
      rw [piece_nat bs k hlt] at hx hl1 hC
      obtain ⟨m, hmm⟩ : ∃ m, m = bs[k].length := ⟨_, rfl⟩
      rw [← hmm] at hx hts hbm
      rw [Int.toNat_natCast] at hx
      have hL0 := HL.out
      have h2 : L ≤ 1073741824 := by rw [hL0]; omega
      have HTS := Aside0.mk hts
      clear hL0 hts hC hmm hl1
      cases e1
      by_cases h1 : (m : Int) ≤ L
      · go_wp2
        go_roundg (bs.length - (k + 1))
        case measure => have := HQ.out; omega
        case rel => exact ⟨k + 1, _, rfl, by go_num, ⟨by omega⟩, by omega, ⟨by rw [HL.out, HTS.out]; omega⟩, by omega, ⟨rfl⟩⟩
      · have h3 : L < (m : Int) := by omega
        go_wp2
        go_ret
        exact ⟨rfl, HI.out, HB.out, HK.out⟩
    · exfalso
      have h1 := HL.out
      rw [List.take_of_length_le (by omega)] at h1
      have := HF.out
      omega

/-- Whether bytes fit. -/
def Fits (room : Int) (n : Nat) (bs : List (List Int)) : Prop := (n : Int) + (tot bs : Nat) ≤ room
open Classical in
theorem append_any (g : Nat) (room safe : Int) (xs : List Int) (A0 : Option Addr) (c0 : Nat) (bs : List (List Int)) (ok : Nat → Prop) (w0 w : World) (hI : IsD w0.heap.size ok w g room safe xs) (hB : Below w0.heap.size w0 w)
    (hA : ∀ W', Kept w W' ok → Kd.C (Kd.slice 5 (Kd.int .u8)) W' A0 bs.length bs) (hn : bs.length ≤ c0) (hm : bs.length ≤ 4611686018427387904) (hm2 : ∀ b ∈ bs, b.length ≤ 4611686018427387904) (hr0 : (xs.length : Int) ≤ room) (hr1 : room ≤ 1073741824) :
    Calls Try.prog 9 #[.pointer (some ⟨g, 0, none⟩), .slice A0 bs.length c0] w fun e w' => e = .returned (.int .i64 (if Fits room xs.length bs then 0 else 50)) ∧ IsD w0.heap.size (fun k => ok k ∨ w.heap.size ≤ k ∧ k < w'.heap.size) w' g room safe (if Fits room xs.length bs then xs ++ bs.flatten else xs) ∧ Below w0.heap.size w0 w' ∧ Kept w w' ok := by
  by_cases h : Fits room xs.length bs
  · simp only [if_pos h]
    exact append_ok g room safe xs A0 c0 bs ok w0 w hI hB hA hn hm hr1 h
  · simp only [if_neg h]
    exact (append_full g room safe xs A0 c0 bs ok w0 w hI hB hA hn hm hm2 hr0 hr1 h).mono (fun e w' hh => ⟨hh.1, hh.2.1.mono (fun k h => .inl h), hh.2.2⟩)

end Go.Proofs.Ytabiloklphjeiaa.DskC
