/-
  DiskActs walked: the law's function returns true for every argument; nothing that was there is written.
-/
import Derived.Test.YtabiloklphjeiaaProg
import Derived.Test.YtabiloklphjeiaaDisk
import Derived.Test.YtabiloklphjeiaaDskB
import Derived.Test.YtabiloklphjeiaaDskC
import Derived.Test.YtabiloklphjeiaaMem
import Derived.Test.YtabiloklphjeiaaAwake
import Derived.Test.YtabiloklphjeiaaRegH
import Derived.Test.YtabiloklphjeiaaCrashes
import Derived.Test.YtabiloklphjeiaaRefD
import Derived.Test.YtabiloklphjeiaaQuietD
import Derived.BigQuiet
import Derived.Below
import Derived.Deep.Draws
import Derived.Deep.AppendLies
import Derived.Maps.AppendAt
import Derived.OwnWalk
import Derived.Laws.BytesArg
import Derived.Laws.MakeOwn
import Derived.Laws.OwnMore
import Derived.Deep.OwnRows
import Derived.Tactics
import Derived.Lib.ConvBytes
import Derived.Laws.Slices
import Derived.WalkKit
import Derived.KernelRfl
import Derived.RowKit3
import Derived.Deep.LoopGhost
import Derived.Deep.QuietTactic
import Derived.BigQuiet
import Derived.WideLaws
import Derived.Deep.DeepCutAuto
import Derived.Deep.CutBlock
import Derived.Deep.RegionHeld3
import Derived.Laws.Rows
import Derived.Lib.AppendStr
import Derived.ArgAppend
import Derived.Laws.IdiomCopy
import Derived.OrdersHeld
import Derived.Laws.BitsLemmas
import Derived.RowKit
import Derived.Lib.SliceRun
import Derived.Test.YtabiloklphjeiaaWWords
import Derived.Test.YtabiloklphjeiaaWLast
import Derived.Test.YtabiloklphjeiaaWTab
import Derived.Test.YtabiloklphjeiaaWFour
import Derived.Test.YtabiloklphjeiaaWQPut
import Derived.Test.YtabiloklphjeiaaWApart
import Derived.Test.YtabiloklphjeiaaWArr
import Derived.Test.YtabiloklphjeiaaWZeros
import Derived.Test.YtabiloklphjeiaaWFoot
import Derived.Test.YtabiloklphjeiaaWKept
import Derived.Test.YtabiloklphjeiaaWShare
import Derived.Test.YtabiloklphjeiaaWN
import Derived.Test.YtabiloklphjeiaaWFootNe
import Derived.Test.YtabiloklphjeiaaWAt
import Derived.Test.YtabiloklphjeiaaWEqStruct
import Derived.Test.YtabiloklphjeiaaWRepsOne
import Derived.Test.YtabiloklphjeiaaWInv
import Derived.Test.YtabiloklphjeiaaWInvWords
import Derived.Test.YtabiloklphjeiaaWGuard
import Derived.Test.YtabiloklphjeiaaWNEv
import Derived.Test.YtabiloklphjeiaaWMore
namespace Go.Proofs.Ytabiloklphjeiaa.Acts
open Go.RowKit Go.Proofs.YtabiloklphjeiaaW.PrintWords Go.Proofs.YtabiloklphjeiaaW.PrintLast Go.Proofs.YtabiloklphjeiaaW.PrintMore
set_option linter.unusedVariables false
set_option linter.unusedSimpArgs false
open Disk DskB DskC Mem Crashes
attribute [local go_sem] max2_int min2_int max_two min_two
/-- An act: kind, number, pieces. -/
def kA : Kd (Int × Int × List (List Int)) := Kd.pair (Kd.int .i64) (Kd.pair (Kd.int .i64) (Kd.slice 28 (Kd.slice 5 (Kd.int .u8))))
def actAt (xs : List (Int × Int × List (List Int))) (i : Int) : Int × Int × List (List Int) := xs.getD i.toNat (0, 0, [])
theorem at_act {w : World} {A : Option Addr} {n : Nat} {xs : List (Int × Int × List (List Int))} (h : Kd.C kA w A n xs) (i : Int) (h0 : 0 ≤ i) (h1 : i < n) :
    ∃ ad A0 c0, A = some ad ∧ w.cell? (ad.add (i.toNat * 3)) = some (.int .i64 (actAt xs i).1) ∧ w.cell? ⟨(ad.add (i.toNat * 3)).block, (ad.add (i.toNat * 3)).off + 1, none⟩ = some (.int .i64 (actAt xs i).2.1) ∧
      w.cell? ⟨(ad.add (i.toNat * 3)).block, (ad.add (i.toNat * 3)).off + 2, none⟩ = some (.slice A0 (actAt xs i).2.2.length c0) ∧ (actAt xs i).2.2.length ≤ c0 ∧ Kd.C (Kd.slice 5 (Kd.int .u8)) w A0 (actAt xs i).2.2.length (actAt xs i).2.2 := by
  obtain ⟨ad, c, e, _, hK, hc0⟩ := Kd.C_get h (0, 0, []) i h0 h1
  have hc : ∀ j u, c[j]? = some u → w.cell? (ad.add (i.toNat * 3 + j)) = some u := hc0
  obtain ⟨_, _, rfl, rfl, ⟨_, _, rfl, rfl, ⟨A0, c0, rfl, l0, g0⟩⟩⟩ := hK
  exact ⟨ad, A0, c0, e, hc 0 _ rfl, by rw [← add_field _ _ 1 (by omega)]; exact hc 1 _ rfl, by rw [← add_field _ _ 2 (by omega)]; exact hc 2 _ rfl, l0, g0⟩

/-- Both disks: the program's and the reference's; what they own lies apart. -/
def St (w1 W : World) (gd ge : Nat) (room : Int) (sa re : List Int) : Prop :=
  ∃ okD okE : Nat → Prop, (∀ k, okD k → w1.heap.size ≤ k ∧ k < W.heap.size ∧ ¬ okE k) ∧ (∀ k, okE k → w1.heap.size ≤ k ∧ k < W.heap.size) ∧ IsD w1.heap.size okD W gd room sa.length (sa ++ re) ∧ RefD.IsE w1.heap.size okE W ge room sa re ∧ Below w1.heap.size w1 W ∧ (sa.length : Int) + (re.length : Int) ≤ room
theorem St.of {w1 W : World} {gd ge : Nat} {room safe : Int} {zs sa re : List Int} {okD okE : Nat → Prop} (hap : ∀ k, okD k → ¬ okE k) (hD : IsD w1.heap.size okD W gd room safe zs) (hE : RefD.IsE w1.heap.size okE W ge room sa re) (hB : Below w1.heap.size w1 W) (hr : (sa.length : Int) + (re.length : Int) ≤ room)
    (hs : safe = (sa.length : Nat)) (hz : zs = sa ++ re) : St w1 W gd ge room sa re := by
  subst hs hz
  obtain ⟨A, c, hb, hg, ho, hr'⟩ := hD
  have hD2 : IsD w1.heap.size (fun k => okD k ∧ w1.heap.size ≤ k ∧ k < W.heap.size) W gd room sa.length (sa ++ re) :=
    ⟨A, c, hb, hg, ⟨ho, hg, blk_lt hb⟩, Kd.R_mono (Kd.R_bound hr') (fun k hk => ⟨⟨hk.1.1, hk.2.1, hk.2.2.1⟩, hk.1.2⟩)⟩
  exact ⟨_, _, fun k hk => ⟨hk.2.1, hk.2.2, fun h => hap k hk.1 h.1⟩, fun k hk => ⟨hk.2.1, hk.2.2⟩, hD2, hE.bound, hB, hr⟩
theorem St.below {w1 W W' : World} {gd ge : Nat} {room : Int} {sa re : List Int} (h : St w1 W gd ge room sa re) (hw : Below W.heap.size W W') : St w1 W' gd ge room sa re := by
  obtain ⟨okD, okE, h1, h2, hD, hE, hB, hr⟩ := h
  exact ⟨okD, okE, fun k hk => ⟨(h1 k hk).1, Nat.lt_of_lt_of_le (h1 k hk).2.1 hw.size, (h1 k hk).2.2⟩, fun k hk => ⟨(h2 k hk).1, Nat.lt_of_lt_of_le (h2 k hk).2 hw.size⟩, hD.below hw, hE.below hw, below_step hB hw, hr⟩
theorem St.base {w1 W : World} {gd ge : Nat} {room : Int} {sa re : List Int} (h : St w1 W gd ge room sa re) : Below w1.heap.size w1 W := by
  obtain ⟨_, _, _, _, _, _, hB, _⟩ := h
  exact hB

set_option maxHeartbeats 4000000 in
set_option maxRecDepth 100000 in
theorem main_ (room : Int) (A0 : Option Addr) (c0 : Nat) (l0 : List (Int × Int × List (List Int))) (w : World) (hC0 : Kd.C kA w A0 l0.length l0) (h0 : l0.length ≤ 60) (r0 : 0 ≤ room) (r1 : room ≤ 1073741824) :
    Calls Try.prog 6 #[.int .i64 room, .slice A0 l0.length c0] w fun e w' => e = .returned (.bool true) ∧ Below w.heap.size w w' := by
  have HC0 := Aside0.mk hC0
  clear hC0
  have h0' : decide (60 < (l0.length : Int)) = false := decide_eq_false (by omega)
  have r0' : decide (room < 0) = false := decide_eq_false (by omega)
  have r1' : decide (1073741824 < room) = false := decide_eq_false (by omega)
  go_enter Try.func6, Try.ntmps6
  go_wp2_with fail
  refine Calls.mono (Awake.awake _) ?_
  rintro e w1 ⟨rfl, hB⟩
  have HB1 := Aside0.mk hB
  have HC1 := Aside0.mk (Kd.C_below HC0.out hB)
  clear hB HC0
  go_wp2_with fail
  refine Calls.mono (new_ok room w1 (by omega) (by omega)) ?_
  rintro e w2 ⟨rfl, hI, hB⟩
  have HI := Aside0.mk hI
  have HB := Aside0.mk hB
  clear hI hB
  have hu43 := Try.underlying43
  go_wp2_with fail
  have HST := Aside0.mk (show St w1 (w2.alloc (.cells #[.int .i64 room, .slice none 0 0, .slice none 0 0] 41)) w1.heap.size w2.heap.size room [] [] from
    St.of (okE := fun k => w2.heap.size ≤ k) (zs := []) (fun k h h2 => by have h3 : k < w2.heap.size := h.2; omega) ((IsD_bound HI.out).below (ins1 (Below.refl _ _) (Nat.le_refl _) _))
      ⟨_, _, heap_alloc_new w2 _, HB.out.size, Nat.le_refl _, Kd.R_nil _ _ _ _ _, Kd.R_nil _ _ _ _ _⟩ (ins1 HB.out HB.out.size _) (by simpa using r0) rfl rfl)
  obtain ⟨gd, hgd⟩ : ∃ gd, gd = w1.heap.size := ⟨_, rfl⟩
  obtain ⟨ge, hge⟩ : ∃ ge, ge = w2.heap.size := ⟨_, rfl⟩
  rw [← hgd, ← hge] at HST ⊢
  have HST := HST
  clear HI HB hgd hge
  go_loopg [8] (l0.length) (fun kq v8 wr => ∃ (i : Nat) (sa re : List Int), v8 = .int .i64 i ∧ Aside0 (i + kq = l0.length) ∧ i ≤ l0.length ∧ Aside0 (St w1 wr gd ge room sa re))
  case atStart => exact ⟨0, [], [], rfl, ⟨by omega⟩, Nat.zero_le _, HST⟩
  case round =>
    clear HST
    obtain ⟨i, sa, re, rfl, HQ, hi, HST⟩ := hrel
    have HBW := Aside0.mk HST.out.base
    by_cases hlt : i < l0.length
    · obtain ⟨ad, A1, c1, e1, hx0, hx1, hx2, hl1, hCb⟩ := at_act HC1.out (i : Int) (by omega) (by omega)
      rw [Int.toNat_natCast] at hx0 hx1 hx2
      obtain ⟨kd, hkd⟩ : ∃ kd, kd = (actAt l0 (i : Int)).1 := ⟨_, rfl⟩
      obtain ⟨n, hn⟩ : ∃ n, n = (actAt l0 (i : Int)).2.1 := ⟨_, rfl⟩
      obtain ⟨bs, hbs⟩ : ∃ bs, bs = (actAt l0 (i : Int)).2.2 := ⟨_, rfl⟩
      rw [← hkd] at hx0
      rw [← hn] at hx1
      rw [← hbs] at hx2 hl1 hCb
      have HCB := Aside0.mk hCb
      have HL1 := Aside0.mk hl1
      clear hkd hn hbs hCb hl1
      replace hx0 := pw_cell_below HBW.out hx0
      replace hx1 := pw_cell_below HBW.out hx1
      replace hx2 := pw_cell_below HBW.out hx2
      cases e1
      by_cases hbig : 10 < bs.length
      · go_wp2
        go_ret
        exact ⟨rfl, below_step HB1.out (ins1 HBW.out HBW.out.size _)⟩
      · go_wp2
        obtain ⟨gx, hgx⟩ : ∃ gx, gx = wr.heap.size := ⟨_, rfl⟩
        obtain ⟨wx, hwx⟩ : ∃ wx, wx = wr.alloc (.cells #[.int .i64 kd, .int .i64 n, .slice A1 bs.length c1] 43) := ⟨_, rfl⟩
        have hbx : wx.heap[gx]? = some (.cells #[.int .i64 kd, .int .i64 n, .slice A1 bs.length c1] 43 (0, 0)) := by rw [hwx, hgx]; exact heap_alloc_new wr _
        have HGX := Aside0.mk hgx
        have HWX := Aside0.mk (show Below wr.heap.size wr wx by rw [hwx]; exact below_alloc (Below.refl _ _) _)
        have HSX := Aside0.mk (show St w1 wx gd ge room sa re by rw [hwx]; exact HST.out.below (below_alloc (Below.refl _ _) _))
        rw [← hgx, ← hwx]
        have hz0 := RefD.cellE hbx 0 rfl
        have hz1 := RefD.cellE hbx 1 rfl
        have hz2 := RefD.cellE hbx 2 rfl
        have HBX := Aside0.mk hbx
        clear hgx hwx hbx hx0 hx1 hx2 HBW
        go_loopg [10] (bs.length) (fun kq v10 wq => ∃ (j : Nat), v10 = .int .i64 j ∧ Aside0 (j + kq = bs.length) ∧ j ≤ bs.length ∧ Aside0 (∀ j', j' < j → (pieceAt bs (j' : Int)).length ≤ 200) ∧ Aside0 (wq = wx))
        case atStart => exact ⟨0, rfl, ⟨by omega⟩, Nat.zero_le _, ⟨fun j' h => by omega⟩, ⟨rfl⟩⟩
        case round =>
          obtain ⟨j, rfl, HJ, hj, HL, HW⟩ := hrel
          have hw := HW.out
          subst hw
          clear HW
          by_cases hlj : j < bs.length
          · obtain ⟨ad2, A2, c2, e2, hy, hl2, hC2⟩ := at_piece (Kd.C_below HCB.out HSX.out.base) (j : Int) (by omega) (by omega)
            rw [Int.toNat_natCast] at hy
            obtain ⟨m, hm⟩ : ∃ m, m = (pieceAt bs (j : Int)).length := ⟨_, rfl⟩
            rw [← hm] at hy
            have HM := Aside0.mk hm
            clear hm hl2 hC2
            cases e2
            by_cases hlong : 200 < m
            · go_wp2
              go_ret
              exact ⟨rfl, below_step HB1.out HSX.out.base⟩
            · go_wp2
              go_roundg (bs.length - (j + 1))
              case measure => have := HJ.out; omega
              case rel => exact ⟨j + 1, by go_num, ⟨by omega⟩, by omega, ⟨fun j' h => by rcases Nat.lt_succ_iff_lt_or_eq.1 h with h | h; exact HL.out j' h; subst h; rw [← HM.out]; omega⟩, ⟨rfl⟩⟩
          · have HLEN := Aside0.mk (show ∀ b ∈ bs, b.length ≤ 200 from fun b hb => by
              obtain ⟨q, hq, rfl⟩ := List.mem_iff_getElem.1 hb
              have := HL.out q (by omega)
              rwa [piece_nat bs q hq] at this)
            clear HL HJ
            go_upto_block 4 with (fail)
            go_cut [11] (fun v11 wc => ∃ sa' re', v11 = .bool true ∧ Aside0 (St w1 wc gd ge room sa' re'))
            case first =>
              obtain ⟨okD, okE, hp1, hp2, hD, hE, hB, hr⟩ := HST.out
              rw [← HGX.out] at hp1 hp2
              obtain ⟨zs, hzs⟩ : ∃ zs, zs = sa ++ re := ⟨_, rfl⟩
              rw [← hzs] at hD
              have HZS := Aside0.mk hzs
              have HLL := Aside0.mk (show ((zs.length : Nat) : Int) = (sa.length : Int) + (re.length : Int) by rw [hzs, List.length_append]; omega)
              have HP1 := Aside0.mk hp1
              have HP2 := Aside0.mk hp2
              have HD := Aside0.mk (hD.below HWX.out)
              have HE := Aside0.mk (hE.below HWX.out)
              have HB := Aside0.mk (below_step hB HWX.out)
              have HGL := Aside0.mk (blk_lt HBX.out)
              have HDE := Aside0.mk (fun k (h : okD k) (h2 : okE k) => (hp1 k h).2.2 h2)
              have HAR := Aside0.mk (Kd.C_kept_came (Kd.heap_slice 5 (Kd.heap_int .u8)) HCB.out HB.out (fun k (h : okD k) => (hp1 k h).1))
              clear hp1 hp2 hD hE hB HQ hzs
              by_cases hk0 : kd = 0
              · subst hk0
                by_cases hf : (sa.length : Int) + (re.length : Int) + (tot bs : Nat) ≤ room
                · have HF := Aside0.mk hf
                  have HF1 := Aside0.mk (DskC.append_ok gd room sa.length zs A1 c1 bs okD w1 wr HD.out HB.out HAR.out HL1.out (by omega) (by omega) (by rw [HLL.out]; exact hf))
                  clear hf
                  go_wp2_with (fail)
                  refine Calls.mono HF1.out ?_
                  rintro e w3 ⟨rfl, hI3, hB3, hK3⟩
                  have HI3 := Aside0.mk hI3
                  have HB3 := Aside0.mk hB3
                  have HK3 := Aside0.mk hK3
                  have HE3 := Aside0.mk (HE.out.kept hK3 (fun k hk h => HDE.out k h hk))
                  have hz2' := RefD.cellE (blk_kept HBX.out hK3 (fun h => Nat.lt_irrefl _ (HP1.out gx h).2.1)) 2 rfl
                  clear hI3 hB3 hK3 HF1
                  go_wp2_with (fail)
                  refine Calls.mono (RefD.append_ok ge room sa re A1 c1 bs okE w1 w3 HE3.out HB3.out HCB.out (by omega) (by omega) HF.out) ?_
                  rintro e w4 ⟨rfl, hI4, hB4, hK4⟩
                  have HS4 := Aside0.mk (show St w1 w4 gd ge room sa (re ++ bs.flatten) from St.of (fun k h h2 => by
                      have g1 := HGL.out
                      have g2 := HK3.out.1
                      rcases h with h | ⟨h, h'⟩ <;> rcases h2 with h2 | ⟨h2, h2'⟩
                      · exact HDE.out k h h2
                      · have := (HP1.out k h).2.1; omega
                      · have := (HP2.out k h2).2; omega
                      · omega) (HI3.out.kept hK4 (fun k hk h => by
                      have g1 := HGL.out
                      rcases hk with hk | hk
                      · exact HDE.out k hk h
                      · have := (HP2.out k h).2; omega)) hI4 hB4 (by rw [List.length_append]; have := HF.out; unfold tot at this; omega) rfl (by rw [HZS.out, List.append_assoc]))
                  clear hI4 hB4 hK4
                  go_wp2
                  go_meet
                  case rel => exact ⟨sa, re ++ bs.flatten, rfl, HS4⟩
                · have HF := Aside0.mk hf
                  have HF1 := Aside0.mk (DskC.append_full gd room sa.length zs A1 c1 bs okD w1 wr HD.out HB.out HAR.out HL1.out (by omega) (fun b hb => by have := HLEN.out b hb; omega) (by rw [HLL.out]; exact hr) (by omega) (by rw [HLL.out]; exact hf))
                  clear hf
                  go_wp2_with (fail)
                  refine Calls.mono HF1.out ?_
                  rintro e w3 ⟨rfl, hI3, hB3, hK3⟩
                  have HI3 := Aside0.mk hI3
                  have HB3 := Aside0.mk hB3
                  have HE3 := Aside0.mk (HE.out.kept hK3 (fun k hk h => HDE.out k h hk))
                  have hz2' := RefD.cellE (blk_kept HBX.out hK3 (fun h => Nat.lt_irrefl _ (HP1.out gx h).2.1)) 2 rfl
                  clear hI3 hB3 hK3 HF1
                  go_wp2_with (fail)
                  refine Calls.mono (RefD.append_full ge room sa re A1 c1 bs okE w1 w3 HE3.out HB3.out HCB.out (by omega) (fun b hb => by have := HLEN.out b hb; omega) hr (by omega) (by have := HF.out; omega)) ?_
                  rintro e w4 ⟨rfl, hI4, hB4, hK4⟩
                  have HS4 := Aside0.mk (show St w1 w4 gd ge room sa re from St.of HDE.out (HI3.out.kept hK4 (fun k hk h => HDE.out k hk h)) hI4 hB4 hr rfl HZS.out)
                  clear hI4 hB4 hK4
                  go_wp2
                  go_meet
                  case rel => exact ⟨sa, re, rfl, HS4⟩
              by_cases hk1 : kd = 1
              · subst hk1
                have HF1 := Aside0.mk (RefD.crash ge room sa re 1073741824 okE w1 wr HE.out HB.out (by omega))
                go_wp2_with (fail)
                refine Calls.mono HF1.out ?_
                rintro e w3 ⟨rfl, hI3, hB3, hK3⟩
                rw [show sa ++ re.take (RefD.kept' 1073741824 re.length) = zs by rw [HZS.out, List.take_of_length_le (by unfold RefD.kept'; omega)]] at hI3
                have HE3 := Aside0.mk hI3
                obtain ⟨v1, v2, hb, _, ho, hR1, _⟩ := hI3
                obtain ⟨As, cs, rfl⟩ := Kd.R_slice hR1
                have HO := Aside0.mk ho
                have HBE := Aside0.mk hb
                have HB3 := Aside0.mk hB3
                have HD3 := Aside0.mk (HD.out.kept hK3 (fun k hk h => HDE.out k hk h))
                have HNE := Aside0.mk (fun k (h : okD k) (h2 : okE k ∨ wr.heap.size ≤ k ∧ k < w3.heap.size) => by
                  rcases h2 with h2 | h2
                  · exact HDE.out k h h2
                  · have g1 := HGL.out; have := (HP1.out k h).2.1; omega)
                clear hB3 hK3 HF1 hb hR1 ho
                go_wp2_with (fail)
                refine RegH.startH (fun W => W.cell? ⟨ge, 1, none⟩ = some (.slice As zs.length cs)) (by kernel_rfl) rfl (RefD.cellE HBE.out 1 rfl) (fun hS => ?_)
                (refine RegH.tkH (i := 0) (d := 106) (v := ?_) rfl rfl (by kernel_rfl) (by kernel_rfl) (by kernel_rfl) (fun _ _ _ h => h) (Or.inl ⟨by rfl, ?_⟩) hS ?_; rotate_left; (intro w hSw; (try dsimp only at hSw); go_simp); try (with_reducible rfl))
                try simp only [Act.put, List.setIfInBounds_toArray, List.set_cons_zero, List.set_cons_succ]
                (refine RegH.tkH (i := 2) (d := 108) (v := ?_) rfl rfl (by kernel_rfl) (by kernel_rfl) (by kernel_rfl) (fun _ _ _ h => h) (Or.inl ⟨by rfl, ?_⟩) hS ?_; rotate_left; (intro w hSw; (try dsimp only at hSw); go_simp); try (with_reducible rfl))
                try simp only [Act.put, List.setIfInBounds_toArray, List.set_cons_zero, List.set_cons_succ]
                (refine RegH.tkH (i := 3) (d := 109) (v := ?_) rfl rfl (by kernel_rfl) (by kernel_rfl) (by kernel_rfl) (fun _ _ _ h => h) (Or.inl ⟨by rfl, ?_⟩) hS ?_; rotate_left; (intro w hSw; (try dsimp only at hSw); go_simp); try (with_reducible rfl))
                try simp only [Act.put, List.setIfInBounds_toArray, List.set_cons_zero, List.set_cons_succ]
                (refine RegH.tkH (i := 4) (d := 110) (v := ?_) rfl rfl (by kernel_rfl) (by kernel_rfl) (by kernel_rfl) (fun _ _ _ h => h) (Or.inl ⟨by rfl, ?_⟩) hS ?_; rotate_left; (intro w hSw; (try dsimp only at hSw); go_simp); try (with_reducible rfl))
                try simp only [Act.put, List.setIfInBounds_toArray, List.set_cons_zero, List.set_cons_succ]
                (refine RegH.tkH (i := 5) (d := 111) (v := ?_) rfl rfl (by kernel_rfl) (by kernel_rfl) (by kernel_rfl) (fun _ _ _ h => h) (Or.inl ⟨by rfl, ?_⟩) hS ?_; rotate_left; (intro w hSw; (try dsimp only at hSw); go_simp); try (with_reducible rfl))
                try simp only [Act.put, List.setIfInBounds_toArray, List.set_cons_zero, List.set_cons_succ]
                (refine RegH.tkH (i := 6) (d := 112) (v := ?_) rfl rfl (by kernel_rfl) (by kernel_rfl) (by kernel_rfl) (fun _ _ _ h => h) (Or.inl ⟨by rfl, ?_⟩) hS ?_; rotate_left; (intro w hSw; (try dsimp only at hSw); go_simp); try (with_reducible rfl))
                try simp only [Act.put, List.setIfInBounds_toArray, List.set_cons_zero, List.set_cons_succ]
                refine RegH.oneH (i := 1) (by kernel_rfl) rfl (fun K hK => ?_)
                go_simp
                refine Calls.mono (flush gd room sa.length zs okD w1 _ HD3.out.drew (below_drew1 HB3.out)) ?_
                rintro e w4 ⟨rfl, hI, hB, hK⟩
                have HI4 := Aside0.mk hI
                have HB4 := Aside0.mk hB
                have HK4 := Aside0.mk (show Kept w3 w4 okD from hK)
                clear hI hB hK
                go_wp2_with (fail)
                refine hK.out _ _ (RefD.cellE (blk_kept HBE.out HK4.out (fun h => HNE.out ge h HO.out)) 1 rfl) (fun hS => ?_)
                clear hK K
                try simp only [Act.put, List.setIfInBounds_toArray, List.set_cons_zero, List.set_cons_succ]
                (refine RegH.tkH (i := 7) (d := 113) (v := ?_) rfl rfl (by kernel_rfl) (by kernel_rfl) (by kernel_rfl) (fun _ _ _ h => h) (Or.inl ⟨by rfl, ?_⟩) hS ?_; rotate_left; (intro w hSw; (try dsimp only at hSw); go_simp); try (with_reducible rfl))
                try simp only [Act.put, List.setIfInBounds_toArray, List.set_cons_zero, List.set_cons_succ]
                (refine RegH.tkH (i := 8) (d := 11) (v := ?_) rfl rfl (by kernel_rfl) (by kernel_rfl) (by kernel_rfl) (fun _ _ _ h => h) (Or.inl ⟨by rfl, ?_⟩) hS ?_; rotate_left; (intro w hSw; (try dsimp only at hSw); go_simp); try (with_reducible rfl))
                try simp only [Act.put, List.setIfInBounds_toArray, List.set_cons_zero, List.set_cons_succ]
                refine wpAnyH_done (by kernel_rfl) ?_ _
                go_wp2
                go_meet
                case rel => exact ⟨zs, [], rfl, ⟨St.of HNE.out HI4.out (HE3.out.kept HK4.out (fun k hk h => HNE.out k h hk)) HB4.out (by have := HLL.out; simp only [List.length_nil]; omega) rfl (by simp)⟩⟩
              by_cases hk2 : kd = 2
              · subst hk2
                obtain ⟨ss, hss⟩ : ∃ ss, ss = sa ++ re.take (RefD.kept' n re.length) := ⟨_, rfl⟩
                have hsl : ss.length = sa.length + min re.length n.toNat := by rw [hss, List.length_append, List.length_take]; unfold RefD.kept'; omega
                have hll : left' (sa.length : Int) (zs.length : Nat) n = (ss.length : Int) := by
                  rw [HLL.out, hsl]; unfold left'; split <;> split <;> omega
                have htk : zs.take ss.length = ss := by
                  rw [hsl, hss, HZS.out]
                  have e1 : min re.length n.toNat = RefD.kept' n re.length := rfl
                  rw [e1]; exact List.take_length_add_append ..
                have HF1 := Aside0.mk (RefD.crash ge room sa re n okE w1 wr HE.out HB.out (by omega))
                rw [← hss] at HF1
                have HSL := Aside0.mk hsl
                have HFC := Aside0.mk (fun W (h1 : IsD w1.heap.size okD W gd room sa.length zs) (h2 : Below w1.heap.size w1 W) => DskB.crash gd room sa.length zs n okD w1 W h1 h2 (by omega) (by rw [HLL.out]; omega) (by rw [HLL.out]; omega))
                rw [hll, Int.toNat_natCast, htk] at HFC
                clear hss hsl hll htk
                go_wp2_with (fail)
                refine Calls.mono HF1.out ?_
                rintro e w3 ⟨rfl, hI3, hB3, hK3⟩
                have HE3 := Aside0.mk hI3
                obtain ⟨v1, v2, hb, _, ho, hR1, _⟩ := hI3
                obtain ⟨As, cs, rfl⟩ := Kd.R_slice hR1
                have HO := Aside0.mk ho
                have HBE := Aside0.mk hb
                have HB3 := Aside0.mk hB3
                have HBX3 := Aside0.mk (blk_kept HBX.out hK3 (fun h => Nat.lt_irrefl _ (HP2.out gx h).2))
                have HD3 := Aside0.mk (HD.out.kept hK3 (fun k hk h => HDE.out k hk h))
                have HNE := Aside0.mk (fun k (h : okD k) (h2 : okE k ∨ wr.heap.size ≤ k ∧ k < w3.heap.size) => by
                  rcases h2 with h2 | h2
                  · exact HDE.out k h h2
                  · have g1 := HGL.out; have := (HP1.out k h).2.1; omega)
                clear hB3 hK3 HF1 hb hR1 ho
                go_wp2_with (fail)
                refine RegH.startH (fun W => W.cell? ⟨gx, 1, none⟩ = some (.int .i64 n) ∧ W.cell? ⟨ge, 1, none⟩ = some (.slice As ss.length cs)) (by kernel_rfl) rfl (⟨RefD.cellE HBX3.out 1 rfl, RefD.cellE HBE.out 1 rfl⟩) (fun hS => ?_)
                (refine RegH.tkH (i := 0) (d := 120) (v := ?_) rfl rfl (by kernel_rfl) (by kernel_rfl) (by kernel_rfl) (fun _ _ _ h => h) (Or.inl ⟨by rfl, ?_⟩) hS ?_; rotate_left; (intro w hSw; (try dsimp only at hSw); go_simp); try (with_reducible rfl))
                try simp only [Act.put, List.setIfInBounds_toArray, List.set_cons_zero, List.set_cons_succ]
                (refine RegH.tkH (i := 1) (d := 121) (v := ?_) rfl rfl (by kernel_rfl) (by kernel_rfl) (by kernel_rfl) (fun _ _ _ h => h) (Or.inl ⟨by rfl, ?_⟩) hS ?_; rotate_left; (intro w hSw; (try dsimp only at hSw); go_simp); try (with_reducible rfl))
                try simp only [Act.put, List.setIfInBounds_toArray, List.set_cons_zero, List.set_cons_succ]
                (refine RegH.tkH (i := 2) (d := 122) (v := ?_) rfl rfl (by kernel_rfl) (by kernel_rfl) (by kernel_rfl) (fun _ _ _ h => h) (Or.inl ⟨by rfl, ?_⟩) hS ?_; rotate_left; (intro w hSw; (try dsimp only at hSw); go_simp); try (with_reducible rfl))
                try simp only [Act.put, List.setIfInBounds_toArray, List.set_cons_zero, List.set_cons_succ]
                (refine RegH.tkH (i := 4) (d := 124) (v := ?_) rfl rfl (by kernel_rfl) (by kernel_rfl) (by kernel_rfl) (fun _ _ _ h => h) (Or.inl ⟨by rfl, ?_⟩) hS ?_; rotate_left; (intro w hSw; (try dsimp only at hSw); go_simp); try (with_reducible rfl))
                try simp only [Act.put, List.setIfInBounds_toArray, List.set_cons_zero, List.set_cons_succ]
                (refine RegH.tkH (i := 5) (d := 125) (v := ?_) rfl rfl (by kernel_rfl) (by kernel_rfl) (by kernel_rfl) (fun _ _ _ h => h) (Or.inl ⟨by rfl, ?_⟩) hS ?_; rotate_left; (intro w hSw; (try dsimp only at hSw); go_simp); try (with_reducible rfl))
                try simp only [Act.put, List.setIfInBounds_toArray, List.set_cons_zero, List.set_cons_succ]
                (refine RegH.tkH (i := 6) (d := 126) (v := ?_) rfl rfl (by kernel_rfl) (by kernel_rfl) (by kernel_rfl) (fun _ _ _ h => h) (Or.inl ⟨by rfl, ?_⟩) hS ?_; rotate_left; (intro w hSw; (try dsimp only at hSw); go_simp); try (with_reducible rfl))
                try simp only [Act.put, List.setIfInBounds_toArray, List.set_cons_zero, List.set_cons_succ]
                (refine RegH.tkH (i := 7) (d := 127) (v := ?_) rfl rfl (by kernel_rfl) (by kernel_rfl) (by kernel_rfl) (fun _ _ _ h => h) (Or.inl ⟨by rfl, ?_⟩) hS ?_; rotate_left; (intro w hSw; (try dsimp only at hSw); go_simp); try (with_reducible rfl))
                try simp only [Act.put, List.setIfInBounds_toArray, List.set_cons_zero, List.set_cons_succ]
                (refine RegH.tkH (i := 8) (d := 128) (v := ?_) rfl rfl (by kernel_rfl) (by kernel_rfl) (by kernel_rfl) (fun _ _ _ h => h) (Or.inl ⟨by rfl, ?_⟩) hS ?_; rotate_left; (intro w hSw; (try dsimp only at hSw); go_simp); try (with_reducible rfl))
                try simp only [Act.put, List.setIfInBounds_toArray, List.set_cons_zero, List.set_cons_succ]
                refine RegH.oneH (i := 3) (by kernel_rfl) rfl (fun K hK => ?_)
                go_simp
                refine Calls.mono (HFC.out _ HD3.out.drew (below_drew1 HB3.out)) ?_
                rintro e w4 ⟨rfl, hI, hB, hK⟩
                have HI4 := Aside0.mk hI
                have HB4 := Aside0.mk hB
                have HK4 := Aside0.mk (show Kept w3 w4 okD from hK)
                clear hI hB hK
                go_wp2_with (fail)
                refine hK.out _ _ (⟨RefD.cellE (blk_kept HBX3.out HK4.out (fun h => Nat.lt_irrefl _ (HP1.out gx h).2.1)) 1 rfl, RefD.cellE (blk_kept HBE.out HK4.out (fun h => HNE.out ge h HO.out)) 1 rfl⟩) (fun hS => ?_)
                clear hK K
                try simp only [Act.put, List.setIfInBounds_toArray, List.set_cons_zero, List.set_cons_succ]
                (refine RegH.tkH (i := 9) (d := 129) (v := ?_) rfl rfl (by kernel_rfl) (by kernel_rfl) (by kernel_rfl) (fun _ _ _ h => h) (Or.inl ⟨by rfl, ?_⟩) hS ?_; rotate_left; (intro w hSw; (try dsimp only at hSw); go_simp); try (with_reducible rfl))
                try simp only [Act.put, List.setIfInBounds_toArray, List.set_cons_zero, List.set_cons_succ]
                (refine RegH.tkH (i := 10) (d := 11) (v := ?_) rfl rfl (by kernel_rfl) (by kernel_rfl) (by kernel_rfl) (fun _ _ _ h => h) (Or.inl ⟨by rfl, ?_⟩) hS ?_; rotate_left; (intro w hSw; (try dsimp only at hSw); go_simp); try (with_reducible rfl))
                try simp only [Act.put, List.setIfInBounds_toArray, List.set_cons_zero, List.set_cons_succ]
                refine wpAnyH_done (by kernel_rfl) ?_ _
                go_wp2
                go_meet
                case rel => exact ⟨ss, [], rfl, ⟨St.of HNE.out HI4.out (HE3.out.kept HK4.out (fun k hk h => HNE.out k h hk)) HB4.out (by have := HSL.out; simp only [List.length_nil]; omega) rfl (by simp)⟩⟩
              by_cases hk3 : kd = 3
              · subst hk3
                have hzm : zs.length ≤ 10000000000 := by have := HLL.out; omega
                by_cases hc : n < 0 ∨ (zs.length : Int) < n
                · have HF1 := Aside0.mk (Disk.cut gd room sa.length zs n okD w1 wr HD.out HB.out)
                  simp only [if_pos hc] at HF1
                  have HC := Aside0.mk hc
                  clear hc
                  go_wp2_with (fail)
                  refine Calls.mono HF1.out ?_
                  rintro e w3 ⟨rfl, hI3, hB3, hK3⟩
                  have HI3 := Aside0.mk hI3
                  have HB3 := Aside0.mk hB3
                  have HE3 := Aside0.mk (HE.out.kept hK3 (fun k hk h => HDE.out k h hk))
                  have HBX3 := Aside0.mk (blk_kept HBX.out hK3 (fun h => Nat.lt_irrefl _ (HP1.out gx h).2.1))
                  clear hI3 hB3 hK3 HF1
                  go_wp2_with (fail)
                  have hal := RefD.all ge w1.heap.size room sa re okE w3 HE3.out (by omega)
                  rw [← HZS.out] at hal
                  refine Calls.mono hal ?_
                  rintro e w4 ⟨v, rfl, hR, hb4⟩
                  obtain ⟨Aa, ca, rfl⟩ := Kd.R_slice hR
                  have hq1 := RefD.cellE (blk_below HBX3.out hb4) 1 rfl
                  have HS4 := Aside0.mk (show St w1 w4 gd ge room sa re from (St.of HDE.out HI3.out HE3.out HB3.out hr rfl HZS.out).below hb4)
                  clear hR hb4 hal
                  rcases HC.out with h1 | h1
                  · go_wp2
                    go_meet
                    case rel => exact ⟨sa, re, rfl, HS4⟩
                  · have h2 : ¬ n < 0 := by omega
                    go_wp2
                    go_meet
                    case rel => exact ⟨sa, re, rfl, HS4⟩
                · obtain ⟨nn, rfl⟩ : ∃ nn : Nat, n = (nn : Int) := ⟨n.toNat, by omega⟩
                  have hnz : nn ≤ zs.length := by omega
                  have HF1 := Aside0.mk (Disk.cut gd room sa.length zs (nn : Int) okD w1 wr HD.out HB.out)
                  simp only [if_neg hc, Int.toNat_natCast] at HF1
                  have HTL := Aside0.mk (show (zs.take nn).length = nn by rw [List.length_take]; omega)
                  clear hc
                  go_wp2_with (fail)
                  refine Calls.mono HF1.out ?_
                  rintro e w3 ⟨rfl, hI3, hB3, hK3⟩
                  have HI3 := Aside0.mk hI3
                  have HB3 := Aside0.mk hB3
                  have HK3 := Aside0.mk hK3
                  have HE3 := Aside0.mk (HE.out.kept hK3 (fun k hk h => HDE.out k h hk))
                  have HBX3 := Aside0.mk (blk_kept HBX.out hK3 (fun h => Nat.lt_irrefl _ (HP1.out gx h).2.1))
                  clear hI3 hB3 hK3 HF1
                  go_wp2_with (fail)
                  have hal := RefD.all ge w1.heap.size room sa re okE w3 HE3.out (by omega)
                  rw [← HZS.out] at hal
                  refine Calls.mono hal ?_
                  rintro e w4 ⟨v, rfl, hR, hb4⟩
                  obtain ⟨Aa, ca, rfl⟩ := Kd.R_slice hR
                  have hq1 := RefD.cellE (blk_below HBX3.out hb4) 1 rfl
                  obtain ⟨-, hcap, -⟩ := Kd.R_reads' hR
                  obtain ⟨i5, hi5, hsz5⟩ := info5'
                  have hcutN := cut_to (P := Try.prog) 28 5 .i64 Try.underlying28 hi5 Aa zs.length ca (nn : Int) (by omega) (by omega) hcap
                  rw [Int.toNat_natCast] at hcutN
                  have HRT := Aside0.mk (Kd.R_bound (Kd.R_take hR hnz))
                  obtain ⟨v1, v2, hbe, hge, hoe, h1, h2⟩ := HE3.out.below hb4
                  have hlt1 := Kd.R_lt (HE3.out.choose_spec.choose_spec.2.2.2.1)
                  have he1 := RefD.cellE hbe 1 rfl
                  have he2 := RefD.cellE hbe 2 rfl
                  have hf1 := blk_frozen hbe 1
                  have hf2 := blk_frozen hbe 2
                  have HBE := Aside0.mk hbe
                  have HOE := Aside0.mk hoe
                  have HGE := Aside0.mk hge
                  have HR2 := Aside0.mk h2
                  have HV2 := Aside0.mk (show ∀ k, v2.ownBlock = some k → k < gx from fun k hk => (HP2.out k (h2.1 k hk).1.1).2)
                  have HB4 := Aside0.mk hb4
                  clear hR hb4 hal hcap hbe hge hoe h1 h2 hlt1
                  go_wp2
                  have g1 := HGL.out
                  have g2 := HK3.out.1
                  have g3 := HB4.out.size
                  have HE5 := RefD.IsE_put1 (ok := fun k => okE k ∨ w3.heap.size ≤ k ∧ k < w4.heap.size) (v1 := .slice Aa nn ca) HBE.out HGE.out (.inl HOE.out)
                    (Kd.R_lower (Kd.R_mono HRT.out (fun k hk => ⟨⟨.inr ⟨hk.2.1, hk.2.2.1⟩, fun he => by have := (HP2.out ge HOE.out).2; have := hk.2.1; omega⟩, fun he => by have := HV2.out k he.symm; have := hk.2.1; omega⟩)) HB3.out.size)
                    (Kd.R_mono HR2.out (fun k hk => ⟨⟨.inl hk.1.1, hk.1.2⟩, fun he => by have := (HRT.out.1 k he.symm).2.1; have := (HP2.out k hk.1.1).2; omega⟩))
                  obtain ⟨v1', v2', hb5, hg5, ho5, h15, h25⟩ := HE5
                  have HE6 := RefD.IsE_put2 (ok := fun k => okE k ∨ w3.heap.size ≤ k ∧ k < w4.heap.size) (v2 := .slice none 0 0) hb5 hg5 ho5 (Kd.R_apart_nil (Kd.R_mono h15 (fun k hk => hk.1))) (Kd.R_nil _ _ _ _ _)
                  have hset : Kept w4 ((w4.setCell ⟨ge, 1, none⟩ (.slice Aa nn ca)).setCell ⟨ge, 2, none⟩ (.slice none 0 0)) (fun k => k = ge) := ((Kept.refl w4 (fun k => k = ge)).setCell (p := ⟨ge, 1, none⟩) (.inl rfl) _).setCell (p := ⟨ge, 2, none⟩) (.inl rfl) _
                  have HD6 := (HI3.out.below HB4.out).kept hset (fun k hk h => by rw [h] at hk; exact HDE.out ge hk HOE.out)
                  have HB6 := below_set (j := 2) (v := .slice none 0 0) (below_set (j := 1) (v := .slice Aa nn ca) (below_step HB3.out HB4.out) HGE.out) HGE.out
                  have HS6 := Aside0.mk (St.of (w1 := w1) (fun k h h2 => by
                      rcases h2 with h2 | h2
                      · exact HDE.out k h h2
                      · have := (HP1.out k h).2.1; omega) HD6 HE6 HB6 (by rw [HTL.out]; have := HLL.out; simp only [List.length_nil]; omega) (by rw [HTL.out]) (by simp))
                  clear HE6 HD6 HB6 hset hb5 hg5 ho5 h15 h25
                  go_meet
                  case rel => exact ⟨zs.take nn, [], rfl, HS6⟩
              · have b0 : (kd == 0) = false := beq_eq_false_iff_ne.2 hk0
                have b1 : (kd == 1) = false := beq_eq_false_iff_ne.2 hk1
                have b2 : (kd == 2) = false := beq_eq_false_iff_ne.2 hk2
                have b3 : (kd == 3) = false := beq_eq_false_iff_ne.2 hk3
                go_wp2
                go_meet
                case rel => exact ⟨sa, re, rfl, ⟨St.of HDE.out HD.out HE.out HB.out hr rfl HZS.out⟩⟩
            case rest =>
              obtain ⟨sa, re, rfl, HSR⟩ := hcut
              clear HST HSX HBX HCB HL1 HWX HGX HLEN hz0 hz1 hz2
              obtain ⟨okD, okE, hp1, hp2, hD, hE, hB, hr⟩ := HSR.out
              obtain ⟨zs, hzs⟩ : ∃ zs, zs = sa ++ re := ⟨_, rfl⟩
              rw [← hzs] at hD
              have HZS := Aside0.mk hzs
              have HLL := Aside0.mk (show ((zs.length : Nat) : Int) = (sa.length : Int) + (re.length : Int) by rw [hzs, List.length_append]; omega)
              have HP1 := Aside0.mk hp1
              have HP2 := Aside0.mk hp2
              have HD := Aside0.mk hD
              have HE := Aside0.mk hE
              have HB := Aside0.mk hB
              have hzm : zs.length ≤ 10000000000 := by have := HLL.out; omega
              have HWC := Aside0.mk hB.size
              clear hp1 hp2 hD hE hB hzs HSR
              go_wp2_with (fail)
              refine Calls.mono (Disk.bytes gd room sa.length zs okD w1 wc HD.out HB.out (by omega)) ?_
              rintro e w5 ⟨vb, rfl, hR, hD5, hB5, hN5⟩
              obtain ⟨Ab, cb, rfl⟩ := Kd.R_slice hR
              have HE5 := Aside0.mk (HE.out.below hN5)
              have HD5 := Aside0.mk hD5
              have HB5 := Aside0.mk hB5
              have HN5 := Aside0.mk hN5
              have HRB := Aside0.mk (Kd.R_mono (Kd.R_bound hR) (fun k hk => (⟨hk.2.1, hk.2.2.1⟩ : wc.heap.size ≤ k ∧ k < w5.heap.size)))
              obtain ⟨tz, htz⟩ : ∃ t, t = strOfNums zs := ⟨_, rfl⟩
              have HTZ := Aside0.mk htz
              have hcv : ∀ W, Below w5.heap.size w5 W → Sem.run Try.prog (convert 28 9 (.slice Ab zs.length cb)) W = .ok (.string tz) W := fun W h => by
                rw [htz]; exact Kd.C_string Try.underlying28 Try.underlying5 Try.underlying9 (Kd.C_below (Kd.R_reads' hR).2.2 h)
              obtain ⟨A5, c5, hbd, _, _, _⟩ := HD5.out
              obtain ⟨v1, v2, hbe, _, _, hR1, _⟩ := HE5.out
              obtain ⟨As, cs, rfl⟩ := Kd.R_slice hR1
              have HBD := Aside0.mk hbd
              have hce : ∀ W, Below w5.heap.size w5 W → W.cell? ⟨ge, 1, none⟩ = some (.slice As sa.length cs) := fun W h => RefD.cellE (blk_below hbe h) 1 rfl
              have hsub : IntKind.i64.wrap (room - (zs.length : Int)) = room - (zs.length : Int) := by rw [IntKind.wrap_i64]; omega
              have HWR := Aside0.mk (show wrap64 (room - (zs.length : Int)) = room - (zs.length : Int) by unfold wrap64; omega)
              clear hD5 hB5 hN5 hR htz hbd hbe hR1 HD HE
              go_wp2_with (fail)
              refine RegH.startH (fun W => Below w5.heap.size w5 W) (by kernel_rfl) rfl (below_drew1 (Below.refl _ _)) (fun hS => ?_)
              (refine RegH.tkH (i := 0) (d := 164) (v := ?_) rfl rfl (by kernel_rfl) (by kernel_rfl) (by kernel_rfl) (fun _ _ _ h => h) (Or.inl ⟨by rfl, ?_⟩) hS ?_; rotate_left; (intro w hSw; (try dsimp only at hSw); go_simp); try (with_reducible rfl))
              try simp only [Act.put, List.setIfInBounds_toArray, List.set_cons_zero, List.set_cons_succ]
              (refine RegH.tkH (i := 1) (d := 165) (v := ?_) rfl rfl (by kernel_rfl) (by kernel_rfl) (by kernel_rfl) (fun _ _ _ h => h) (Or.inl ⟨by rfl, ?_⟩) hS ?_; rotate_left; (intro w hSw; (try dsimp only at hSw); go_simp); try (with_reducible rfl))
              try simp only [Act.put, List.setIfInBounds_toArray, List.set_cons_zero, List.set_cons_succ]
              (refine RegH.tkH (i := 2) (d := 166) (v := ?_) rfl rfl (by kernel_rfl) (by kernel_rfl) (by kernel_rfl) (fun _ _ _ h => h) (Or.inl ⟨by rfl, ?_⟩) hS ?_; rotate_left; (intro w hSw; (try dsimp only at hSw); go_simp); try (with_reducible rfl))
              try simp only [Act.put, List.setIfInBounds_toArray, List.set_cons_zero, List.set_cons_succ]
              (refine RegH.tkH (i := 3) (d := 167) (v := ?_) rfl rfl (by kernel_rfl) (by kernel_rfl) (by kernel_rfl) (fun _ _ _ h => h) (Or.inl ⟨by rfl, ?_⟩) hS ?_; rotate_left; (intro w hSw; (try dsimp only at hSw); go_simp); try (with_reducible rfl))
              try simp only [Act.put, List.setIfInBounds_toArray, List.set_cons_zero, List.set_cons_succ]
              (refine RegH.tkH (i := 4) (d := 168) (v := ?_) rfl rfl (by kernel_rfl) (by kernel_rfl) (by kernel_rfl) (fun _ _ _ h => h) (Or.inl ⟨by rfl, ?_⟩) hS ?_; rotate_left; (intro w hSw; (try dsimp only at hSw); go_simp); try (with_reducible rfl))
              try simp only [Act.put, List.setIfInBounds_toArray, List.set_cons_zero, List.set_cons_succ]
              (refine RegH.tkH (i := 5) (d := 169) (v := ?_) rfl rfl (by kernel_rfl) (by kernel_rfl) (by kernel_rfl) (fun _ _ _ h => h) (Or.inl ⟨by rfl, ?_⟩) hS ?_; rotate_left; (intro w hSw; (try dsimp only at hSw); go_simp); try (with_reducible rfl))
              try simp only [Act.put, List.setIfInBounds_toArray, List.set_cons_zero, List.set_cons_succ]
              refine RegH.oneH (i := 6) (by kernel_rfl) rfl (fun K hK => ?_)
              go_simp
              have hal := RefD.all ge w1.heap.size room sa re okE _ (HE5.out.below hS) (by omega)
              rw [← HZS.out] at hal
              refine Calls.mono hal ?_
              rintro e w6 ⟨v6, rfl, hR6, hd6⟩
              obtain ⟨A6, c6, rfl⟩ := Kd.R_slice hR6
              have hcv6 := Kd.C_string (P := Try.prog) (c := c6) Try.underlying28 Try.underlying5 Try.underlying9 (Kd.R_reads' hR6).2.2
              rw [← HTZ.out] at hcv6
              have HH6 := Aside0.mk (below_step hS hd6)
              clear hR6 hd6 hal
              go_wp2_with (fail)
              refine hK.out _ _ (HH6.out) (fun hS => ?_)
              clear hK K
              try simp only [Act.put, List.setIfInBounds_toArray, List.set_cons_zero, List.set_cons_succ]
              refine RegH.oneH (i := 7) (by kernel_rfl) rfl (fun K hK => ?_)
              go_simp
              refine hK.out _ _ (HH6.out) (fun hS => ?_)
              clear hK K
              try simp only [Act.put, List.setIfInBounds_toArray, List.set_cons_zero, List.set_cons_succ]
              (refine RegH.tkH (i := 8) (d := 172) (v := ?_) rfl rfl (by kernel_rfl) (by kernel_rfl) (by kernel_rfl) (fun _ _ _ h => h) (Or.inl ⟨by rfl, ?_⟩) hS ?_; rotate_left; (intro w hSw; (try dsimp only at hSw); go_simp); try (with_reducible rfl))
              try simp only [Act.put, List.setIfInBounds_toArray, List.set_cons_zero, List.set_cons_succ]
              (refine RegH.tkH (i := 9) (d := 173) (v := ?_) rfl rfl (by kernel_rfl) (by kernel_rfl) (by kernel_rfl) (fun _ _ _ h => h) (Or.inl ⟨by rfl, ?_⟩) hS ?_; rotate_left; (intro w hSw; (try dsimp only at hSw); go_simp); try (with_reducible rfl))
              try simp only [Act.put, List.setIfInBounds_toArray, List.set_cons_zero, List.set_cons_succ]
              (refine RegH.tkH (i := 10) (d := 174) (v := ?_) rfl rfl (by kernel_rfl) (by kernel_rfl) (by kernel_rfl) (fun _ _ _ h => h) (Or.inl ⟨by rfl, ?_⟩) hS ?_; rotate_left; (intro w hSw; (try dsimp only at hSw); go_simp); try (with_reducible rfl))
              try simp only [Act.put, List.setIfInBounds_toArray, List.set_cons_zero, List.set_cons_succ]
              (refine RegH.tkH (i := 11) (d := 175) (v := ?_) rfl rfl (by kernel_rfl) (by kernel_rfl) (by kernel_rfl) (fun _ _ _ h => h) (Or.inl ⟨by rfl, ?_⟩) hS ?_; rotate_left; (intro w hSw; (try dsimp only at hSw); go_simp); try (with_reducible rfl))
              try simp only [Act.put, List.setIfInBounds_toArray, List.set_cons_zero, List.set_cons_succ]
              (refine RegH.tkH (i := 13) (d := 177) (v := ?_) rfl rfl (by kernel_rfl) (by kernel_rfl) (by kernel_rfl) (fun _ _ _ h => h) (Or.inl ⟨by rfl, ?_⟩) hS ?_; rotate_left; (intro w hSw; (try dsimp only at hSw); go_simp); try (with_reducible rfl))
              try simp only [Act.put, List.setIfInBounds_toArray, List.set_cons_zero, List.set_cons_succ]
              (refine RegH.tkH (i := 14) (d := 178) (v := ?_) rfl rfl (by kernel_rfl) (by kernel_rfl) (by kernel_rfl) (fun _ _ _ h => h) (Or.inl ⟨by rfl, ?_⟩) hS ?_; rotate_left; (intro w hSw; (try dsimp only at hSw); go_simp); try (with_reducible rfl))
              try simp only [Act.put, List.setIfInBounds_toArray, List.set_cons_zero, List.set_cons_succ]
              refine RegH.oneH (i := 12) (by kernel_rfl) rfl (fun K hK => ?_)
              go_simp
              refine Calls.mono (QuietD.len gd zs.length c5 room sa.length A5 _ (blk_below HBD.out hS)) ?_
              rintro e w7 ⟨rfl, hd⟩
              have HH7 := Aside0.mk (below_step hS hd.below)
              clear hd hcv6
              go_wp2_with (fail)
              refine hK.out _ _ (HH7.out) (fun hS => ?_)
              clear hK K
              try simp only [Act.put, List.setIfInBounds_toArray, List.set_cons_zero, List.set_cons_succ]
              (refine RegH.tkH (i := 15) (d := 179) (v := ?_) rfl rfl (by kernel_rfl) (by kernel_rfl) (by kernel_rfl) (fun _ _ _ h => h) (Or.inl ⟨by rfl, ?_⟩) hS ?_; rotate_left; (intro w hSw; (try dsimp only at hSw); go_simp); try (with_reducible rfl))
              try simp only [Act.put, List.setIfInBounds_toArray, List.set_cons_zero, List.set_cons_succ]
              (refine RegH.tkH (i := 16) (d := 180) (v := ?_) rfl rfl (by kernel_rfl) (by kernel_rfl) (by kernel_rfl) (fun _ _ _ h => h) (Or.inl ⟨by rfl, ?_⟩) hS ?_; rotate_left; (intro w hSw; (try dsimp only at hSw); go_simp); try (with_reducible rfl))
              try simp only [Act.put, List.setIfInBounds_toArray, List.set_cons_zero, List.set_cons_succ]
              (refine RegH.tkH (i := 17) (d := 181) (v := ?_) rfl rfl (by kernel_rfl) (by kernel_rfl) (by kernel_rfl) (fun _ _ _ h => h) (Or.inl ⟨by rfl, ?_⟩) hS ?_; rotate_left; (intro w hSw; (try dsimp only at hSw); go_simp); try (with_reducible rfl))
              try simp only [Act.put, List.setIfInBounds_toArray, List.set_cons_zero, List.set_cons_succ]
              (refine RegH.tkH (i := 18) (d := 182) (v := ?_) rfl rfl (by kernel_rfl) (by kernel_rfl) (by kernel_rfl) (fun _ _ _ h => h) (Or.inl ⟨by rfl, ?_⟩) hS ?_; rotate_left; (intro w hSw; (try dsimp only at hSw); go_simp); try (with_reducible rfl))
              try simp only [Act.put, List.setIfInBounds_toArray, List.set_cons_zero, List.set_cons_succ]
              (refine RegH.tkH (i := 20) (d := 184) (v := ?_) rfl rfl (by kernel_rfl) (by kernel_rfl) (by kernel_rfl) (fun _ _ _ h => h) (Or.inl ⟨by rfl, ?_⟩) hS ?_; rotate_left; (intro w hSw; (try dsimp only at hSw); go_simp); try (with_reducible rfl))
              try simp only [Act.put, List.setIfInBounds_toArray, List.set_cons_zero, List.set_cons_succ]
              (refine RegH.tkH (i := 21) (d := 185) (v := ?_) rfl rfl (by kernel_rfl) (by kernel_rfl) (by kernel_rfl) (fun _ _ _ h => h) (Or.inl ⟨by rfl, ?_⟩) hS ?_; rotate_left; (intro w hSw; (try dsimp only at hSw); go_simp); try (with_reducible rfl))
              try simp only [Act.put, List.setIfInBounds_toArray, List.set_cons_zero, List.set_cons_succ]
              (refine RegH.tkH (i := 22) (d := 186) (v := ?_) rfl rfl (by kernel_rfl) (by kernel_rfl) (by kernel_rfl) (fun _ _ _ h => h) (Or.inl ⟨by rfl, ?_⟩) hS ?_; rotate_left; (intro w hSw; (try dsimp only at hSw); go_simp); try (with_reducible rfl))
              try simp only [Act.put, List.setIfInBounds_toArray, List.set_cons_zero, List.set_cons_succ]
              (refine RegH.tkH (i := 23) (d := 187) (v := ?_) rfl rfl (by kernel_rfl) (by kernel_rfl) (by kernel_rfl) (fun _ _ _ h => h) (Or.inl ⟨by rfl, ?_⟩) hS ?_; rotate_left; (intro w hSw; (try dsimp only at hSw); go_simp); try (with_reducible rfl))
              try simp only [Act.put, List.setIfInBounds_toArray, List.set_cons_zero, List.set_cons_succ]
              (refine RegH.tkH (i := 24) (d := 188) (v := ?_) rfl rfl (by kernel_rfl) (by kernel_rfl) (by kernel_rfl) (fun _ _ _ h => h) (Or.inl ⟨by rfl, ?_⟩) hS ?_; rotate_left; (intro w hSw; (try dsimp only at hSw); go_simp); try (with_reducible rfl))
              try simp only [Act.put, List.setIfInBounds_toArray, List.set_cons_zero, List.set_cons_succ]
              refine RegH.oneH (i := 19) (by kernel_rfl) rfl (fun K hK => ?_)
              go_simp
              refine Calls.mono (QuietD.safe_ gd zs.length c5 room sa.length A5 _ (blk_below HBD.out hS)) ?_
              rintro e w8 ⟨rfl, hd⟩
              have HH8 := Aside0.mk (below_step hS hd.below)
              clear hd
              go_wp2_with (fail)
              refine hK.out _ _ (HH8.out) (fun hS => ?_)
              clear hK K
              try simp only [Act.put, List.setIfInBounds_toArray, List.set_cons_zero, List.set_cons_succ]
              (refine RegH.tkH (i := 25) (d := 189) (v := ?_) rfl rfl (by kernel_rfl) (by kernel_rfl) (by kernel_rfl) (fun _ _ _ h => h) (Or.inl ⟨by rfl, ?_⟩) hS ?_; rotate_left; (intro w hSw; (try dsimp only at hSw); go_simp); try (with_reducible rfl))
              try simp only [Act.put, List.setIfInBounds_toArray, List.set_cons_zero, List.set_cons_succ]
              (refine RegH.tkH (i := 26) (d := 190) (v := ?_) rfl rfl (by kernel_rfl) (by kernel_rfl) (by kernel_rfl) (fun _ _ _ h => h) (Or.inl ⟨by rfl, ?_⟩) hS ?_; rotate_left; (intro w hSw; (try dsimp only at hSw); go_simp); try (with_reducible rfl))
              try simp only [Act.put, List.setIfInBounds_toArray, List.set_cons_zero, List.set_cons_succ]
              (refine RegH.tkH (i := 27) (d := 191) (v := ?_) rfl rfl (by kernel_rfl) (by kernel_rfl) (by kernel_rfl) (fun _ _ _ h => h) (Or.inl ⟨by rfl, ?_⟩) hS ?_; rotate_left; (intro w hSw; (try dsimp only at hSw); go_simp); try (with_reducible rfl))
              try simp only [Act.put, List.setIfInBounds_toArray, List.set_cons_zero, List.set_cons_succ]
              (refine RegH.tkH (i := 28) (d := 192) (v := ?_) rfl rfl (by kernel_rfl) (by kernel_rfl) (by kernel_rfl) (fun _ _ _ h => h) (Or.inl ⟨by rfl, ?_⟩) hS ?_; rotate_left; (intro w hSw; (try dsimp only at hSw); go_simp); try (with_reducible rfl))
              try simp only [Act.put, List.setIfInBounds_toArray, List.set_cons_zero, List.set_cons_succ]
              (refine RegH.tkH (i := 30) (d := 194) (v := ?_) rfl rfl (by kernel_rfl) (by kernel_rfl) (by kernel_rfl) (fun _ _ _ h => h) (Or.inl ⟨by rfl, ?_⟩) hS ?_; rotate_left; (intro w hSw; (try dsimp only at hSw); go_simp); try (with_reducible rfl))
              try simp only [Act.put, List.setIfInBounds_toArray, List.set_cons_zero, List.set_cons_succ]
              (refine RegH.tkH (i := 31) (d := 195) (v := ?_) rfl rfl (by kernel_rfl) (by kernel_rfl) (by kernel_rfl) (fun _ _ _ h => h) (Or.inl ⟨by rfl, ?_⟩) hS ?_; rotate_left; (intro w hSw; (try dsimp only at hSw); go_simp); try (with_reducible rfl))
              try simp only [Act.put, List.setIfInBounds_toArray, List.set_cons_zero, List.set_cons_succ]
              (refine RegH.tkH (i := 32) (d := 196) (v := ?_) rfl rfl (by kernel_rfl) (by kernel_rfl) (by kernel_rfl) (fun _ _ _ h => h) (Or.inl ⟨by rfl, ?_⟩) hS ?_; rotate_left; (intro w hSw; (try dsimp only at hSw); go_simp); try (with_reducible rfl))
              try simp only [Act.put, List.setIfInBounds_toArray, List.set_cons_zero, List.set_cons_succ]
              (refine RegH.tkH (i := 33) (d := 197) (v := ?_) rfl rfl (by kernel_rfl) (by kernel_rfl) (by kernel_rfl) (fun _ _ _ h => h) (Or.inl ⟨by rfl, ?_⟩) hS ?_; rotate_left; (intro w hSw; (try dsimp only at hSw); go_simp); try (with_reducible rfl))
              try simp only [Act.put, List.setIfInBounds_toArray, List.set_cons_zero, List.set_cons_succ]
              refine RegH.oneH (i := 29) (by kernel_rfl) rfl (fun K hK => ?_)
              go_simp
              have hlf := QuietD.left gd zs.length c5 room sa.length A5 _ (blk_below HBD.out hS)
              rw [HWR.out] at hlf
              refine Calls.mono hlf ?_
              rintro e w9 ⟨rfl, hd⟩
              have HH9 := Aside0.mk (below_step hS hd.below)
              clear hd hlf
              go_wp2_with (fail)
              refine hK.out _ _ (HH9.out) (fun hS => ?_)
              clear hK K
              try simp only [Act.put, List.setIfInBounds_toArray, List.set_cons_zero, List.set_cons_succ]
              (refine RegH.tkH (i := 34) (d := 198) (v := ?_) rfl rfl (by kernel_rfl) (by kernel_rfl) (by kernel_rfl) (fun _ _ _ h => h) (Or.inl ⟨by rfl, ?_⟩) hS ?_; rotate_left; (intro w hSw; (try dsimp only at hSw); go_simp); try (with_reducible rfl))
              try simp only [Act.put, List.setIfInBounds_toArray, List.set_cons_zero, List.set_cons_succ]
              (refine RegH.tkH (i := 35) (d := 199) (v := ?_) rfl rfl (by kernel_rfl) (by kernel_rfl) (by kernel_rfl) (fun _ _ _ h => h) (Or.inl ⟨by rfl, ?_⟩) hS ?_; rotate_left; (intro w hSw; (try dsimp only at hSw); go_simp); try (with_reducible rfl))
              try simp only [Act.put, List.setIfInBounds_toArray, List.set_cons_zero, List.set_cons_succ]
              refine wpAnyH_done (by kernel_rfl) ?_ _
              have HRB9 := Aside0.mk (Kd.R_below HRB.out HH9.out)
              have HD9 := Aside0.mk (HD5.out.below HH9.out)
              have HE9 := Aside0.mk (HE5.out.below HH9.out)
              have HB9 := Aside0.mk (below_step HB5.out HH9.out)
              clear HH6 HH7 HH8 HH9 HD5 HE5 HB5 HRB hcv hce hsub HBD
              go_wp2_with (fail)
              go_loopg [16] (zs.length) (fun kq v16 wr => ∃ (q : Nat) (ys : List Int), v16 = .int .i64 q ∧ Aside0 (q + kq = zs.length) ∧ q ≤ zs.length ∧ Aside0 (ys.length = zs.length) ∧ Aside0 (Kd.R (Kd.int .u8) 5 wr wc.heap.size (fun k => wc.heap.size ≤ k ∧ k < w5.heap.size) (.slice Ab zs.length cb) ys) ∧ Aside0 (IsD w1.heap.size okD wr gd room sa.length zs) ∧ Aside0 (RefD.IsE w1.heap.size okE wr ge room sa re) ∧ Aside0 (Below w1.heap.size w1 wr))
              case atStart => exact ⟨0, zs, rfl, ⟨by omega⟩, Nat.zero_le _, ⟨rfl⟩, HRB9, HD9, HE9, HB9⟩
              case round =>
                clear HRB9 HD9 HE9 HB9
                obtain ⟨q, ys, rfl, HJ, hq, HY, HR, HD, HE, HB⟩ := hrel
                by_cases hlq : q < zs.length
                · obtain ⟨ad2, e2, _⟩ := Kd.at_int (Kd.R_reads' HR.out).2.2 (q : Int) (by omega) (by rw [HY.out]; omega)
                  cases e2
                  obtain ⟨gb, rfl⟩ := Kd.R_head HR.out
                  obtain ⟨hcell, hfz⟩ := Kd.R_celln 0 HR.out (q : Int) (by omega) (by omega)
                  rw [Int.toNat_natCast] at hcell hfz
                  have HGB := Aside0.mk (HR.out.1 gb (by simp [Value.ownBlock]))
                  have hset : Kept wr (wr.setCell ⟨gb, q, none⟩ (.int .u8 ((rdOf 0 ys (q : Int) + 1) % 256))) (fun k => k = gb) := (Kept.refl wr (fun k => k = gb)).setCell (p := ⟨gb, q, none⟩) (.inl rfl) _
                  have HD2 := Aside0.mk (HD.out.kept hset (fun k hk h => by have g1 := (HP1.out k hk).2.1; have g2 := HGB.out.1; omega))
                  have HE2 := Aside0.mk (HE.out.kept hset (fun k hk h => by have g1 := (HP2.out k hk).2; have g2 := HGB.out.1; omega))
                  have HB2 := Aside0.mk (below_set (j := q) (v := .int .u8 ((rdOf 0 ys (q : Int) + 1) % 256)) HB.out (Nat.le_trans HWC.out HGB.out.1))
                  have HR2 := Aside0.mk (show Kd.R (Kd.int .u8) 5 (wr.setCell ⟨gb, q, none⟩ (.int .u8 ((rdOf 0 ys (q : Int) + 1) % 256))) wc.heap.size (fun k => wc.heap.size ≤ k ∧ k < w5.heap.size) (.slice (some ⟨gb, 0, none⟩) zs.length cb) (ys.set q ((rdOf 0 ys (q : Int) + 1) % 256)) by
                    have := Kd.R_putn HR.out (q : Int) ((rdOf 0 ys (q : Int) + 1) % 256); rwa [Int.toNat_natCast] at this)
                  clear hset
                  go_wp2
                  go_roundg (zs.length - (q + 1))
                  case measure => have := HJ.out; omega
                  case rel => exact ⟨q + 1, _, by go_num, ⟨by omega⟩, by omega, ⟨by rw [List.length_set]; exact HY.out⟩, HR2, HD2, HE2, HB2⟩
                · go_wp2
                  go_roundg (l0.length - (i + 1))
                  case measure => have := HQ.out; omega
                  case rel => exact ⟨i + 1, sa, re, by go_num, ⟨by omega⟩, by omega, ⟨St.of (fun k h h2 => (HP1.out k h).2.2 h2) HD.out HE.out HB.out hr rfl HZS.out⟩⟩
    · go_wp2
      go_ret
      exact ⟨rfl, below_step HB1.out HBW.out⟩

set_option maxHeartbeats 4000000 in
set_option maxRecDepth 100000 in
theorem many (room : Int) (A0 : Option Addr) (c0 n : Nat) (w : World) (h : 60 < n) :
    Calls Try.prog 6 #[.int .i64 room, .slice A0 n c0] w fun e w' => e = .returned (.bool true) ∧ Below w.heap.size w w' := by
  go_enter Try.func6, Try.ntmps6
  go_wp2_with fail
  refine Calls.mono (Awake.awake _) ?_
  rintro e w1 ⟨rfl, hB⟩
  have HB := Aside0.mk hB
  clear hB
  go_wp2_with fail
  refine Calls.mono (Awake.awake _) ?_
  rintro e w2 ⟨rfl, hB⟩
  have HB2 := Aside0.mk (below_step HB.out hB)
  clear hB HB
  go_wp2
  go_ret
  exact ⟨rfl, HB2.out⟩
set_option maxHeartbeats 4000000 in
set_option maxRecDepth 100000 in
theorem bad (room : Int) (A0 : Option Addr) (c0 n : Nat) (w : World) (h : n ≤ 60) (hr : room < 0 ∨ 1073741824 < room) :
    Calls Try.prog 6 #[.int .i64 room, .slice A0 n c0] w fun e w' => e = .returned (.bool true) ∧ Below w.heap.size w w' := by
  have h0' : decide (60 < (n : Int)) = false := decide_eq_false (by omega)
  have HN := Aside0.mk (fun w => new_bad room w hr)
  rcases hr with hr | hr
  · go_enter Try.func6, Try.ntmps6
    go_wp2_with fail
    refine Calls.mono (Awake.awake _) ?_
    rintro e w1 ⟨rfl, hB⟩
    have HB := Aside0.mk hB
    clear hB
    go_wp2_with fail
    refine Calls.mono (HN.out _) ?_
    rintro e w2 ⟨rfl, rfl⟩
    go_wp2
    go_ret
    exact ⟨rfl, HB.out⟩
  · have hr0 : ¬ room < 0 := by omega
    go_enter Try.func6, Try.ntmps6
    go_wp2_with fail
    refine Calls.mono (Awake.awake _) ?_
    rintro e w1 ⟨rfl, hB⟩
    have HB := Aside0.mk hB
    clear hB
    go_wp2_with fail
    refine Calls.mono (HN.out _) ?_
    rintro e w2 ⟨rfl, rfl⟩
    go_wp2
    go_ret
    exact ⟨rfl, HB.out⟩
theorem walk (room : Int) (A0 : Option Addr) (c0 : Nat) (l0 : List (Int × Int × List (List Int))) (w : World) (hC0 : Kd.C kA w A0 l0.length l0) :
    Calls Try.prog 6 #[.int .i64 room, .slice A0 l0.length c0] w fun e w' => e = .returned (.bool true) ∧ Below w.heap.size w w' := by
  by_cases h : 60 < l0.length
  · exact many room A0 c0 _ w h
  by_cases hr : room < 0 ∨ 1073741824 < room
  · exact bad room A0 c0 _ w (by omega) hr
  · exact main_ room A0 c0 l0 w hC0 (by omega) (by omega) (by omega)

end Go.Proofs.Ytabiloklphjeiaa.Acts
