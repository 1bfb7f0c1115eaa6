/-
  ArenaActs' walk.
-/
import Derived.Test.YtlmeeafppigphaaProg
import Derived.Test.YtlmeeafppigphaaAMap
import Derived.Test.YtlmeeafppigphaaArena
import Derived.Test.YtlmeeafppigphaaAFree
import Derived.Test.YtlmeeafppigphaaAFree2
import Derived.Test.YtlmeeafppigphaaRegH
import Derived.Test.YtlmeeafppigphaaAPlain
import Derived.Test.YtlmeeafppigphaaAMany
import Derived.Test.YtlmeeafppigphaaAMany2
import Derived.Test.YtlmeeafppigphaaAPlain2
import Derived.Test.YtlmeeafppigphaaAAwake
import Derived.Test.YtlmeeafppigphaaAOnce0
import Derived.Test.YtlmeeafppigphaaAMany0
import Derived.Test.YtlmeeafppigphaaARef1
import Derived.Test.YtlmeeafppigphaaARef2
import Derived.Test.YtlmeeafppigphaaARef3
import Derived.Test.YtlmeeafppigphaaARef4
import Derived.Test.YtlmeeafppigphaaAActs0
import Derived.Test.YtlmeeafppigphaaAActs1
import Derived.Test.YtlmeeafppigphaaPArenaActsx0
import Derived.Test.YtlmeeafppigphaaPArenaActsx2
import Derived.Below
import Derived.Deep.Draws
import Derived.Deep.AppendLies
import Derived.Maps.AppendAt
import Derived.OwnWalk
import Derived.Laws.BytesArg
import Derived.Laws.MakeOwn
import Derived.Laws.OwnMore
import Derived.Deep.OwnRows
import Derived.Tactics
import Derived.Lib.ConvBytes
import Derived.Laws.Slices
import Derived.WalkKit
import Derived.KernelRfl
import Derived.RowKit3
import Derived.Deep.LoopGhost
import Derived.Deep.QuietTactic
import Derived.BigQuiet
import Derived.WideLaws
import Derived.Deep.DeepCutAuto
import Derived.Deep.CutBlock
import Derived.Deep.RegionHeld3
import Derived.Laws.Rows
import Derived.Lib.AppendStr
import Derived.ArgAppend
import Derived.Laws.IdiomCopy
import Derived.OrdersHeld
import Derived.Laws.BitsLemmas
import Derived.RowKit
import Derived.Lib.SliceRun
import Derived.Test.YtlmeeafppigphaaWWords
import Derived.Test.YtlmeeafppigphaaWLast
import Derived.Test.YtlmeeafppigphaaWTab
import Derived.Test.YtlmeeafppigphaaWFour
import Derived.Test.YtlmeeafppigphaaWQPut
import Derived.Test.YtlmeeafppigphaaWApart
import Derived.Test.YtlmeeafppigphaaWArr
import Derived.Test.YtlmeeafppigphaaWZeros
import Derived.Test.YtlmeeafppigphaaWFoot
import Derived.Test.YtlmeeafppigphaaWKept
import Derived.Test.YtlmeeafppigphaaWShare
import Derived.Test.YtlmeeafppigphaaWN
import Derived.Test.YtlmeeafppigphaaWFootNe
import Derived.Test.YtlmeeafppigphaaWAt
import Derived.Test.YtlmeeafppigphaaWEqStruct
import Derived.Test.YtlmeeafppigphaaWRepsOne
import Derived.Test.YtlmeeafppigphaaWInv
import Derived.Test.YtlmeeafppigphaaWInvWords
import Derived.Test.YtlmeeafppigphaaWGuard
import Derived.Test.YtlmeeafppigphaaWNEv
import Derived.Test.YtlmeeafppigphaaWMore
namespace Go.Proofs.Ytlmeeafppigphaa.AActs
open Go.RowKit Go.Proofs.YtlmeeafppigphaaW.PrintWords Go.Proofs.YtlmeeafppigphaaW.PrintLast Go.Proofs.YtlmeeafppigphaaW.PrintMore
set_option linter.unusedVariables false
set_option linter.unusedSimpArgs false
open Go.Proofs.Ytlmeeafppigphaa.AMap (Wf)
open Arena AFree AFree2 APlain AMany AMany2 APlain2 AOnce0 AMany0 ARef1 ARef2 ARef3 ARef4 AActs0 AActs1
/-- An act: kind, number, handles. -/
def kA : Kd (Int × Int × List H) := Kd.pair (Kd.int .i64) (Kd.pair (Kd.int .i64) (Kd.slice 30 kH))
def actAt (xs : List (Int × Int × List H)) (i : Int) : Int × Int × List H := xs.getD i.toNat (0, 0, [])
theorem at_act {w : World} {A : Option Addr} {n : Nat} {xs : List (Int × Int × List H)} (h : Kd.C kA w A n xs) (i : Int) (h0 : 0 ≤ i) (h1 : i < n) :
    ∃ ad A0 c0, A = some ad ∧ w.cell? (ad.add (i.toNat * 3)) = some (.int .i64 (actAt xs i).1) ∧ w.cell? ⟨(ad.add (i.toNat * 3)).block, (ad.add (i.toNat * 3)).off + 1, none⟩ = some (.int .i64 (actAt xs i).2.1) ∧
      w.cell? ⟨(ad.add (i.toNat * 3)).block, (ad.add (i.toNat * 3)).off + 2, none⟩ = some (.slice A0 (actAt xs i).2.2.length c0) ∧ (actAt xs i).2.2.length ≤ c0 ∧ Kd.C kH w A0 (actAt xs i).2.2.length (actAt xs i).2.2 := by
  obtain ⟨ad, c, e, _, hK, hc0⟩ := Kd.C_get h (0, 0, []) i h0 h1
  have hc : ∀ j u, c[j]? = some u → w.cell? (ad.add (i.toNat * 3 + j)) = some u := hc0
  obtain ⟨_, _, rfl, rfl, ⟨_, _, rfl, rfl, ⟨A0, c0, rfl, l0, g0⟩⟩⟩ := hK
  exact ⟨ad, A0, c0, e, hc 0 _ rfl, by rw [← add_field _ _ 1 (by omega)]; exact hc 1 _ rfl, by rw [← add_field _ _ 2 (by omega)]; exact hc 2 _ rfl, l0, g0⟩
theorem act_nat (xs : List (Int × Int × List H)) (i : Nat) (h : i < xs.length) : actAt xs (i : Int) = xs[i] := by simp [actAt, h]

set_option maxHeartbeats 4000000 in
set_option maxRecDepth 100000 in
theorem many_acts (room : Int) (A : Option Addr) (c : Nat) (l : List (Int × Int × List H)) (hl : 60 < l.length) (w : World) :
    Calls Try.prog 6 #[.int .i64 room, .slice A l.length c] w fun e w' => e = .returned (.bool true) ∧ Below w.heap.size w w' := by
  have hl2 : (60 : Int) < (l.length : Int) := by omega
  go_enter Try.func6, Try.ntmps6
  go_wp2_with fail
  refine Calls.mono (AAwake.awake _) ?_
  rintro e w1 ⟨rfl, hb⟩
  have HB := Aside0.mk hb
  clear hb
  go_wp2_with fail
  refine Calls.mono (AAwake.awake _) ?_
  rintro e w2 ⟨rfl, hb⟩
  have HB2 := Aside0.mk (below_step HB.out hb)
  clear hb
  go_wp2
  go_ret
  exact ⟨rfl, HB2.out⟩
set_option maxHeartbeats 4000000 in
set_option maxRecDepth 100000 in
theorem bad_room (room : Int) (A : Option Addr) (c : Nat) (l : List (Int × Int × List H)) (hl : ¬ 60 < l.length) (hr : room < 0 ∨ 1048576 < room) (w : World) :
    Calls Try.prog 6 #[.int .i64 room, .slice A l.length c] w fun e w' => e = .returned (.bool true) ∧ Below w.heap.size w w' := by
  have hl2 : decide ((60 : Int) < (l.length : Int)) = false := decide_eq_false (by omega)
  by_cases h0 : room < 0
  · have h0' : decide (room < 0) = true := decide_eq_true h0
    go_enter Try.func6, Try.ntmps6
    go_wp2_with fail
    refine Calls.mono (AAwake.awake _) ?_
    rintro e w1 ⟨rfl, hb⟩
    have HB := Aside0.mk hb
    clear hb
    go_wp2_with fail
    refine Calls.mono (new_bad room w1 hr) ?_
    rintro e w2 ⟨rfl, hw2⟩
    rw [hw2]
    clear hw2
    go_wp2
    go_ret
    exact ⟨rfl, HB.out⟩
  · have h0' : decide (room < 0) = false := decide_eq_false h0
    have h1' : decide (1048576 < room) = true := decide_eq_true (by omega)
    go_enter Try.func6, Try.ntmps6
    go_wp2_with fail
    refine Calls.mono (AAwake.awake _) ?_
    rintro e w1 ⟨rfl, hb⟩
    have HB := Aside0.mk hb
    clear hb
    go_wp2_with fail
    refine Calls.mono (new_bad room w1 hr) ?_
    rintro e w2 ⟨rfl, hw2⟩
    rw [hw2]
    clear hw2
    go_wp2
    go_ret
    exact ⟨rfl, HB.out⟩

set_option maxHeartbeats 8000000 in
set_option maxRecDepth 100000 in
theorem main_ (room : Int) (A : Option Addr) (c : Nat) (l : List (Int × Int × List H)) (w : World) (hC : Kd.C kA w A l.length l) (hl : l.length ≤ 60) (r0 : 0 ≤ room) (r1 : room ≤ 1048576) (hw : ∀ a, a ∈ l → ∀ h, h ∈ a.2.2 → Wf h.f0) :
    Calls Try.prog 6 #[.int .i64 room, .slice A l.length c] w fun e w' => e = .returned (.bool true) ∧ Below w.heap.size w w' := by
  have HC := Aside0.mk hC
  have HW := Aside0.mk hw
  clear hC hw
  have hl2 : decide ((60 : Int) < (l.length : Int)) = false := decide_eq_false (by omega)
  have r0' : decide (room < 0) = false := decide_eq_false (by omega)
  have r1' : decide (1048576 < room) = false := decide_eq_false (by omega)
  obtain ⟨K, hK, hK1⟩ : ∃ K : Nat, room % 40 = (K : Int) ∧ K < 40 := ⟨(room % 40).toNat, by omega, by omega⟩
  have HK := Aside0.mk hK
  clear hK
  go_enter Try.func6, Try.ntmps6
  go_wp2_with fail
  refine Calls.mono (AAwake.awake _) ?_
  rintro e w1 ⟨rfl, hb⟩
  have HB := Aside0.mk hb
  have HC1 := Aside0.mk (Kd.C_below HC.out hb)
  clear hb
  go_wp2_with fail
  rw [HK.out]
  refine Calls.mono (new_ok (K : Int) w1 (by omega) (by omega)) ?_
  rintro e w2 ⟨rfl, hI, hb⟩
  have HI := Aside0.mk hI
  have HB2 := Aside0.mk hb
  clear hI hb
  go_wp2_with fail
  refine Calls.mono (rnew K (by omega) w2) ?_
  rintro e w3 ⟨rfl, hE, hb⟩
  have hbase := HB2.out.size
  have HST := Aside0.mk (show St w1 w3 (w1.heap.size + 2) w2.heap.size 0 ⟨(K : Int), fun _ => 0, fun _ => false, 0, [], 0⟩ (initF K) [] (fun k => w1.heap.size ≤ k ∧ k ≤ w1.heap.size + 2) (fun k => w2.heap.size ≤ k ∧ k < w3.heap.size) from
    ⟨HI.out.below hb, (show IsE w1.heap.size _ _ _ _ _ from by
      obtain ⟨Af, cf, At, ct, okf, okt, g1, g2, g3, g4, g5, g6, g7⟩ := hE
      exact ⟨Af, cf, At, ct, okf, okt, g1, g2, ⟨Nat.le_trans hbase g3.1, g3.2⟩, g4, g5, Kd.R_lower g6 hbase, Kd.R_lower g7 hbase⟩), fun q h h2 => by have := HI.out.lt h; omega, below_step HB2.out hb⟩)
  have HRI := Aside0.mk (RInv_new (K : Int) K rfl (by omega))
  obtain ⟨ga, hga⟩ : ∃ g, g = w1.heap.size + 2 := ⟨_, rfl⟩
  obtain ⟨r, hr⟩ : ∃ g, g = w2.heap.size := ⟨_, rfl⟩
  rw [← hga, ← hr] at HST ⊢
  clear hE hb hbase HI HB2 hga hr
  go_wp2_with fail
  go_loopg [11] (l.length) (fun kq v11 wr => ∃ (i n : Nat) (s : Ar) (fl tk : List H) (okA okE : Nat → Prop), v11 = .int .i64 i ∧ Aside0 (i + kq = l.length) ∧ i ≤ l.length ∧ Aside0 (RInv n s fl tk) ∧ Aside0 (s.room = (K : Int)) ∧ Aside0 (n ≤ i * 1000000) ∧ Aside0 (St w1 wr ga r n s fl tk okA okE))
  case atStart => exact ⟨0, 0, _, _, _, _, _, rfl, ⟨by omega⟩, Nat.zero_le _, HRI, ⟨rfl⟩, ⟨Nat.le_refl _⟩, HST⟩
  case round =>
    clear HST HRI
    obtain ⟨i, n, s, fl, tk, okA, okE, rfl, HQ, hi, HRI, HRO, HN, HST⟩ := hrel
    have HBW := Aside0.mk HST.out.2.2.2
    by_cases hlt : i < l.length
    · obtain ⟨ad, A1, c1, e1, hx0, hx1, hx2, hl1, hCb⟩ := at_act HC1.out (i : Int) (by omega) (by omega)
      have hwf := HW.out _ (List.getElem_mem hlt)
      rw [act_nat l i hlt] at hx0 hx1 hx2 hl1 hCb
      rw [Int.toNat_natCast] at hx0 hx1 hx2
      obtain ⟨⟨kd, m, hs⟩, hx⟩ : ∃ x, x = l[i] := ⟨_, rfl⟩
      rw [← hx] at hx0 hx1 hx2 hl1 hCb hwf
      dsimp only at hx0 hx1 hx2 hl1 hCb hwf
      have HCB := Aside0.mk hCb
      have HL1 := Aside0.mk hl1
      have HWF := Aside0.mk (show ∀ j (h : j < hs.length), Wf (hs[j]).f0 from fun j h => hwf _ (List.getElem_mem h))
      clear hx hwf hCb hl1
      replace hx0 := pw_cell_below HBW.out hx0
      replace hx1 := pw_cell_below HBW.out hx1
      replace hx2 := pw_cell_below HBW.out hx2
      cases e1
      by_cases hbig : 30 < hs.length
      · go_wp2
        go_ret
        exact ⟨rfl, below_step HB.out (ins1 HBW.out HBW.out.size _)⟩
      · go_upto_block 2 with fail
        obtain ⟨gx, hgx⟩ : ∃ gx, gx = wr.heap.size := ⟨_, rfl⟩
        obtain ⟨wx, hwx⟩ : ∃ wx, wx = wr.alloc (.cells #[.int .i64 kd, .int .i64 m, .slice A1 hs.length c1] 47) := ⟨_, rfl⟩
        have hbx : wx.heap[gx]? = some (.cells #[.int .i64 kd, .int .i64 m, .slice A1 hs.length c1] 47 (0, 0)) := by rw [hwx, hgx]; exact heap_alloc_new wr _
        have HSX := Aside0.mk (show St w1 wx ga r n s fl tk (fun k => okA k ∧ w1.heap.size ≤ k) (fun k => okE k ∧ w1.heap.size ≤ k) by rw [hwx]; exact (St.bound HST.out).below (below_alloc (Below.refl _ _) _))
        have HGX := Aside0.mk (show ∀ q, (okA q ∧ w1.heap.size ≤ q) ∨ (okE q ∧ w1.heap.size ≤ q) → q ≠ gx from fun q hq e => by have := HST.out.lt (hq.imp And.left And.left); omega)
        have HHS := Aside0.mk (show ∀ W', Kept wx W' (fun q => (okA q ∧ w1.heap.size ≤ q) ∨ (okE q ∧ w1.heap.size ≤ q)) → Kd.C kH W' A1 hs.length hs from Kd.C_kept_came heap_kH HCB.out HSX.out.2.2.2 (fun q hq => hq.elim And.right And.right))
        obtain ⟨ka, hka⟩ : ∃ k : Nat → Prop, k = (fun k => okA k ∧ w1.heap.size ≤ k) := ⟨_, rfl⟩
        obtain ⟨ke, hke⟩ : ∃ k : Nat → Prop, k = (fun k => okE k ∧ w1.heap.size ≤ k) := ⟨_, rfl⟩
        have hkx : (fun q => (okA q ∧ w1.heap.size ≤ q) ∨ (okE q ∧ w1.heap.size ≤ q)) = (fun q => ka q ∨ ke q) := by rw [hka, hke]
        rw [hkx, ] at HHS
        rw [← hka, ← hke] at HSX
        replace HGX := Aside0.mk (show ∀ q, ka q ∨ ke q → q ≠ gx from fun q hq => HGX.out q (by rw [hka, hke] at hq; exact hq))
        rw [← hgx, ← hwx]
        have HBX := Aside0.mk hbx
        have hz0 : wx.cell? ⟨gx, 0, none⟩ = some (.int .i64 kd) := (blk_cell hbx 0).trans rfl
        have hz1 : wx.cell? ⟨gx, 1, none⟩ = some (.int .i64 m) := (blk_cell hbx 1).trans rfl
        have hz2 : wx.cell? ⟨gx, 2, none⟩ = some (.slice A1 hs.length c1) := (blk_cell hbx 2).trans rfl
        clear hka hke hkx hgx hwx hbx hx0 hx1 hx2 HST HBW
        clear okA okE
        go_cut [13, 80] (fun v13 v80 wc => v13 = .bool true ∧ ∃ (n : Nat) (s : Ar) (fl tk : List H) (okA okE : Nat → Prop), Aside0 (RInv n s fl tk) ∧ Aside0 (s.room = (K : Int)) ∧ Aside0 (n ≤ (i + 1) * 1000000) ∧ Aside0 (St w1 wc ga r n s fl tk okA okE) ∧ Aside0 (wc.heap[gx]? = some (.cells #[.int .i64 kd, .int .i64 m, .slice A1 hs.length c1] 47 (0, 0))))
        case first =>
          by_cases k0 : kd = 0
          · have k0i : (kd == 0) = true := by simp [k0]
            cases htk : takeA s with
            | none =>
              have hfl := RInv_none HRI.out htk
              have HFL := Aside0.mk hfl
              clear hfl
              go_wp2_with fail
              refine Calls.mono (take_none ga n ka w1 wx HSX.out.1 htk) ?_
              rintro e w5 ⟨rfl, hb5⟩
              obtain ⟨w6, hw6⟩ : ∃ w6, w6 = w5.alloc (.cells #[.int .i64 0, .int .i64 0] 30) := ⟨_, rfl⟩
              have hbe : Below wx.heap.size wx w6 := by rw [hw6]; exact below_step hb5 (below_alloc (Below.refl _ _) _)
              have hn6 : w6.heap[w5.heap.size]? = some (.cells #[.int .i64 0, .int .i64 0] 30 (0, 0)) := by rw [hw6]; exact heap_alloc_new _ _
              have HBE := Aside0.mk hbe
              go_wp2_with fail
              rw [← hw6]
              clear hw6 hb5
              refine Calls.mono (rmany_full r fl tk ke w1 w6 (HSX.out.2.1.below hbe) 1 (by decide) (by rw [HFL.out]; decide)) ?_
              rintro e w7 ⟨rfl, hw7⟩
              rw [hw7]
              clear hw7
              have hq0 : w6.cell? ⟨w5.heap.size, 0, none⟩ = some (.int .i64 0) := (blk_cell hn6 0).trans rfl
              have hq1 : w6.cell? ⟨w5.heap.size, 1, none⟩ = some (.int .i64 0) := (blk_cell hn6 1).trans rfl
              clear hn6 hbe
              go_wp2_with fail
              go_quiet (fail)
              go_wp2_with fail
              go_meet
              case rel =>
                have hx := pw_below_drewN HBE.out nq
                exact ⟨rfl, n, s, fl, tk, ka, ke, HRI, HRO, ⟨Nat.le_trans HN.out (Nat.mul_le_mul_right _ (Nat.le_succ i))⟩, ⟨HSX.out.below hx⟩, ⟨blk_below HBX.out hx⟩⟩
            | some p =>
              obtain ⟨⟨hx_, hy_⟩, s'⟩ := p
              obtain ⟨fl', rfl, r2⟩ := RInv_take HRI.out htk
              have HR2 := Aside0.mk r2
              have HRO2 := Aside0.mk (show s'.room = (K : Int) from (Inv_take HRI.out.inv htk).2.room.trans HRO.out)
              have HTK := Aside0.mk htk
              have HLN := Aside0.mk (show (⟨hx_, hy_⟩ :: fl' : List H).length ≤ 100000 ∧ tk.length ≤ 100000 by have h1 := HRI.out.fll; have h2 := HRI.out.ln; have h3 := HRO.out; have h4 := HRI.out.inv.ct; have h5 := HRI.out.inv.f1; omega)
              clear r2 htk
              go_wp2_with fail
              refine Calls.mono (take_some ga n ka w1 wx HSX.out.1 HSX.out.2.2.2 HRI.out.inv HTK.out) ?_
              rintro e w5 ⟨rfl, hI5, hb5, hk5⟩
              obtain ⟨w6, hw6⟩ : ∃ w6, w6 = w5.alloc (.cells #[.int .i64 hx_, .int .i64 hy_] 30) := ⟨_, rfl⟩
              have hbe : Below w5.heap.size w5 w6 := by rw [hw6]; exact below_alloc (Below.refl _ _) _
              have hn6 : w6.heap[w5.heap.size]? = some (.cells #[.int .i64 hx_, .int .i64 hy_] 30 (0, 0)) := by rw [hw6]; exact heap_alloc_new _ _
              have hbx6 := blk_below (blk_kept HBX.out hk5 (fun h => HGX.out gx (.inl h) rfl)) hbe
              have HA6 := Aside0.mk (hI5.below hbe)
              have HE6 := Aside0.mk ((HSX.out.2.1.kept hk5 (fun q h1 h2 => HSX.out.2.2.1 q h2 h1)).below hbe)
              have HB6 := Aside0.mk (below_step hb5 hbe)
              have HBX6 := Aside0.mk hbx6
              have HN6 := Aside0.mk hn6
              have HSZ := Aside0.mk (show wx.heap.size ≤ w5.heap.size ∧ w5.heap.size < w6.heap.size from ⟨hk5.1, blk_lt hn6⟩)
              clear hbx6 hn6 hbe hI5 hb5 hk5
              dsimp only
              go_wp2_with fail
              rw [← hw6]
              clear hw6
              refine Calls.mono (show Calls Try.prog 17 #[.pointer (some ⟨r, 0, none⟩), .int .i64 1] w6 _ from rmany_ok r (⟨hx_, hy_⟩ :: fl') tk ke w1 w6 HE6.out HB6.out 1 (by simp) HLN.out.1 HLN.out.2) ?_
              rintro e w7 ⟨vo, ok', okO, rfl, hR, hE7, hb7, hk7, ho7, hO7⟩
              have hR : Kd.R kH 30 w7 w1.heap.size okO vo [⟨hx_, hy_⟩] := hR
              obtain ⟨Ao, co, rfl⟩ := Kd.R_slice hR
              have hE7 : IsE w1.heap.size ok' w7 r fl' (tk ++ [⟨hx_, hy_⟩]) := hE7
              have HS7 := Aside0.mk (show St w1 w7 ga r n s' fl' (tk ++ [⟨hx_, hy_⟩]) ka ok' from ⟨HA6.out.kept hk7 (fun q h1 h2 => HSX.out.2.2.1 q h1 h2), hE7, fun q h1 h2 => (ho7 q h2).elim (HSX.out.2.2.1 q h1) (fun h3 => by have := HA6.out.lt h1; omega), hb7⟩)
              have hn7 := blk_kept HN6.out hk7 (fun h => by have := HSX.out.2.1.lt h; have := HSZ.out; omega)
              have HBX7 := Aside0.mk (blk_kept HBX6.out hk7 (fun h => HGX.out gx (.inr h) rfl))
              have hq0 : w7.cell? ⟨w5.heap.size, 0, none⟩ = some (.int .i64 hx_) := (blk_cell hn7 0).trans rfl
              have hq1 : w7.cell? ⟨w5.heap.size, 1, none⟩ = some (.int .i64 hy_) := (blk_cell hn7 1).trans rfl
              obtain ⟨ado, eo, ho0, ho1⟩ := PArenaActs.at_T30 (Kd.R_reads' hR).2.2 0 (by decide) (by simp)
              cases eo
              have hu30 := Try.underlying30
              clear hn7 hR hE7 hb7 hk7 ho7 hO7 HA6 HE6 HB6 HN6 HBX6
              simp [PArenaActs.rd_T30] at ho0 ho1
              have hp0 := ho0
              have hp1 := ho1
              rw [show ado.add 0 = ado from by simp [Addr.add]] at hp0 hp1
              go_wp2_with fail
              go_quiet (fail)
              go_wp2_with fail
              go_meet
              case rel =>
                have hx := pw_below_drewN (Below.refl w7.heap.size w7) nq
                exact ⟨rfl, n, s', fl', tk ++ [⟨hx_, hy_⟩], ka, ok', HR2, HRO2, ⟨Nat.le_trans HN.out (Nat.mul_le_mul_right _ (Nat.le_succ i))⟩, ⟨HS7.out.below hx⟩, ⟨blk_below HBX7.out hx⟩⟩
          · by_cases k1 : kd = 1
            · have k1i : (kd == 1) = true := by simp [k1]
              go_wp2_with fail
              refine Calls.mono (many_both HSX.out HRI.out (by rw [HRO.out]; omega) m) ?_
              rintro e w5 ⟨f, ls, B1, d1, rfl, hk5, hls, hcall⟩
              have hbx5 := blk_kept HBX.out hk5 (fun h => HGX.out gx h rfl)
              have hy1 : w5.cell? ⟨gx, 1, none⟩ = some (.int .i64 m) := (blk_cell hbx5 1).trans rfl
              have HCALL := Aside0.mk hcall
              have HLS := Aside0.mk hls
              clear hbx5 hk5 hcall hls
              go_wp2_with fail
              refine Calls.mono HCALL.out ?_
              rintro e w7 ⟨B2, d2, s', fl', tk', okE', rfl, hR, hroom, hS, ⟨h1, h2, h3, h4⟩, hk7⟩
              have HR7 := Aside0.mk hR
              have HRO7 := Aside0.mk (hroom.trans HRO.out)
              have HS7 := Aside0.mk hS
              have HBX7 := Aside0.mk (blk_kept HBX.out hk7 (fun h => HGX.out gx h rfl))
              have HC7 := Aside0.mk (⟨h1, h2, h3, h4⟩ : Kd.C kH w7 B1 ls.length ls ∧ ls.length ≤ d1 ∧ Kd.C kH w7 B2 ls.length ls ∧ ls.length ≤ d2)
              clear hR hroom hS h1 h2 h3 h4 hk7 HCALL
              go_wp2_with fail
              refine Calls.mono (PArenaActs.cobweblaw05_same.calls (ls.length + 1) B1 d1 ls B2 d2 ls true w7 HC7.out.1 HC7.out.2.1 HC7.out.2.2.1 HC7.out.2.2.2 (same_self ls (by have := HLS.out; omega))) ?_
              rintro e w8 ⟨rfl, hd⟩
              have HD := Aside0.mk hd.below
              clear hd
              go_wp2_with fail
              go_meet
              case rel => exact ⟨rfl, n, s', fl', tk', ka, okE', HR7, HRO7, ⟨Nat.le_trans HN.out (Nat.mul_le_mul_right _ (Nat.le_succ i))⟩, ⟨HS7.out.below HD.out⟩, ⟨blk_below HBX7.out HD.out⟩⟩
            · by_cases k2 : kd = 2
              · have k2i : (kd == 2) = true := by simp [k2]
                go_wp2_with fail
                have HSD := Aside0.mk (HSX.out.below (below_drew1 (Below.refl wx.heap.size wx)))
                have s28 : wx.drew.cell? ⟨gx, 2, none⟩ = some (.slice A1 hs.length c1) := hz2
                have hhl : hs.length ≤ 30 := by omega
                refine RegH.startH (fun W => W.cell? ⟨gx, 2, none⟩ = some (.slice A1 hs.length c1)) (by kernel_rfl) rfl (s28) (fun hS => ?_)
                (refine RegH.tkH (i := 0) (d := 142) (oi := ⟨_, _, _, _, _, _⟩) (v := ?_) rfl rfl (by kernel_rfl) (by kernel_rfl) (by kernel_rfl) (fun _ _ _ h => h) (Or.inl ⟨by rfl, ?_⟩) hS ?_; rotate_left; (intro w hSw; (try dsimp only at hSw); go_simp); try (with_reducible rfl))
                try simp only [Act.put, List.setIfInBounds_toArray, List.set_cons_zero, List.set_cons_succ]
                (refine RegH.tkH (i := 1) (d := 143) (oi := ⟨_, _, _, _, _, _⟩) (v := ?_) rfl rfl (by kernel_rfl) (by kernel_rfl) (by kernel_rfl) (fun _ _ _ h => h) (Or.inl ⟨by rfl, ?_⟩) hS ?_; rotate_left; (intro w hSw; (try dsimp only at hSw); go_simp); try (with_reducible rfl))
                try simp only [Act.put, List.setIfInBounds_toArray, List.set_cons_zero, List.set_cons_succ]
                (refine RegH.tkH (i := 2) (d := 144) (oi := ⟨_, _, _, _, _, _⟩) (v := ?_) rfl rfl (by kernel_rfl) (by kernel_rfl) (by kernel_rfl) (fun _ _ _ h => h) (Or.inl ⟨by rfl, ?_⟩) hS ?_; rotate_left; (intro w hSw; (try dsimp only at hSw); go_simp); try (with_reducible rfl))
                try simp only [Act.put, List.setIfInBounds_toArray, List.set_cons_zero, List.set_cons_succ]
                (refine RegH.tkH (i := 4) (d := 146) (oi := ⟨_, _, _, _, _, _⟩) (v := ?_) rfl rfl (by kernel_rfl) (by kernel_rfl) (by kernel_rfl) (fun _ _ _ h => h) (Or.inl ⟨by rfl, ?_⟩) hS ?_; rotate_left; (intro w hSw; (try dsimp only at hSw); go_simp); try (with_reducible rfl))
                try simp only [Act.put, List.setIfInBounds_toArray, List.set_cons_zero, List.set_cons_succ]
                (refine RegH.tkH (i := 5) (d := 147) (oi := ⟨_, _, _, _, _, _⟩) (v := ?_) rfl rfl (by kernel_rfl) (by kernel_rfl) (by kernel_rfl) (fun _ _ _ h => h) (Or.inl ⟨by rfl, ?_⟩) hS ?_; rotate_left; (intro w hSw; (try dsimp only at hSw); go_simp); try (with_reducible rfl))
                try simp only [Act.put, List.setIfInBounds_toArray, List.set_cons_zero, List.set_cons_succ]
                (refine RegH.tkH (i := 6) (d := 148) (oi := ⟨_, _, _, _, _, _⟩) (v := ?_) rfl rfl (by kernel_rfl) (by kernel_rfl) (by kernel_rfl) (fun _ _ _ h => h) (Or.inl ⟨by rfl, ?_⟩) hS ?_; rotate_left; (intro w hSw; (try dsimp only at hSw); go_simp); try (with_reducible rfl))
                try simp only [Act.put, List.setIfInBounds_toArray, List.set_cons_zero, List.set_cons_succ]
                refine RegH.oneH (i := 3) (o := ⟨_, _, _, _, _, _⟩) (by kernel_rfl) rfl (fun K hK => ?_)
                go_simp
                refine Calls.mono (free_both HSD.out HRI.out (by rw [HRO.out]; omega) A1 c1 hs (fun W' hk => HHS.out W' hk) HWF.out (by omega) (by have := HN.out; omega)) ?_
                rintro e w6 ⟨f, rfl, hk6, hcall⟩
                have hg6 := (blk_cell (blk_kept (W := wx.drew) HBX.out hk6 (fun h => HGX.out gx h rfl)) 2).trans rfl
                have HCALL := Aside0.mk hcall
                clear hcall hk6
                go_wp2_with (fail)
                refine hK.out _ _ (hg6) (fun hS => ?_)
                clear hK K
                try simp only [Act.put, List.setIfInBounds_toArray, List.set_cons_zero, List.set_cons_succ]
                refine RegH.oneH (i := 7) (o := ⟨_, _, _, _, _, _⟩) (by kernel_rfl) rfl (fun K hK => ?_)
                go_simp
                refine Calls.mono HCALL.out ?_
                rintro e w7 ⟨rfl, s', n', fl', tk', okA', okE', hR, hroom, hn, hS7, hk7⟩
                have HR7 := Aside0.mk hR
                have HRO7 := Aside0.mk (hroom.trans HRO.out)
                have HN7 := Aside0.mk (show n' ≤ (i + 1) * 1000000 by have h1 := HN.out; rw [Nat.add_mul, Nat.one_mul]; omega)
                have HS7 := Aside0.mk hS7
                have hb7 := blk_kept (W := wx.drew) HBX.out hk7 (fun h => HGX.out gx h rfl)
                have hg7 := (blk_cell hb7 2).trans rfl
                have HBX7 := Aside0.mk hb7
                clear hR hroom hn hS7 hk7 HCALL hb7
                go_wp2_with (fail)
                refine hK.out _ _ (hg7) (fun hS => ?_)
                clear hK K
                try simp only [Act.put, List.setIfInBounds_toArray, List.set_cons_zero, List.set_cons_succ]
                refine RegH.oneH (i := 8) (o := ⟨_, _, _, _, _, _⟩) (by kernel_rfl) rfl (fun K hK => ?_)
                go_simp
                refine hK.out _ _ (hS) (fun hS => ?_)
                clear hK K
                try simp only [Act.put, List.setIfInBounds_toArray, List.set_cons_zero, List.set_cons_succ]
                refine RegH.oneH (i := 9) (o := ⟨_, _, _, _, _, _⟩) (by kernel_rfl) rfl (fun K hK => ?_)
                go_simp
                refine hK.out _ _ (hS) (fun hS => ?_)
                clear hK K
                try simp only [Act.put, List.setIfInBounds_toArray, List.set_cons_zero, List.set_cons_succ]
                refine wpAnyH_done (by kernel_rfl) ?_ _
                go_wp2_with fail
                go_meet
                case rel => exact ⟨rfl, n', s', fl', tk', okA', okE', HR7, HRO7, HN7, HS7, HBX7⟩
              · by_cases k3 : kd = 3
                · have k3i : (kd == 3) = true := by simp [k3]
                  go_wp2_with fail
                  have hhl : hs.length ≤ 30 := by omega
                  have htl : tk.length ≤ 1000 := by have h1 := HRI.out.ln; have h3 := HRO.out; have h4 := HRI.out.inv.ct; have h5 := HRI.out.inv.f1; omega
                  refine Calls.mono (named_ r fl tk A1 c1 hs ke w1 wx HSX.out.2.1 HSX.out.2.2.2 (HHS.out wx (Kept.refl _ _)) (by omega) htl) ?_
                  rintro e w5 ⟨vo, rfl, hR, hll, hb5⟩
                  obtain ⟨L, hL⟩ : ∃ L, L = namedL tk hs := ⟨_, rfl⟩
                  have HLW := Aside0.mk (show ∀ i (h : i < L.length), Wf (L[i]).f0 from fun i h => by
                    have hm : L[i] ∈ tk := namedL_mem (by rw [← hL]; exact List.getElem_mem h)
                    have h1 := (HRI.out.bnd hm).1
                    have h3 := HRO.out
                    exact AMap.wf_of (by omega) (by omega))
                  rw [← hL] at hR hll
                  obtain ⟨Ao, co, rfl⟩ := Kd.R_slice hR
                  have HS5 := Aside0.mk (HSX.out.below hb5)
                  have HLR := Aside0.mk (show ∀ W', Kept w5 W' (fun q => ka q ∨ ke q) → Kd.C kH W' Ao L.length L from Kd.C_kept_own hR (fun q h1 h2 => by have := HSX.out.lt h2; omega))
                  have HLL := Aside0.mk hll
                  have HBX5 := Aside0.mk (blk_below HBX.out hb5)
                  have HK5 := Aside0.mk hb5
                  clear hL hR hll hb5
                  go_wp2_with fail
                  refine Calls.mono (free_both HS5.out HRI.out (by rw [HRO.out]; omega) Ao co L HLR.out HLW.out HLL.out (by have := HN.out; omega)) ?_
                  rintro e w6 ⟨f, rfl, hk6, hcall⟩
                  have HCALL := Aside0.mk hcall
                  clear hcall hk6
                  go_wp2_with fail
                  refine Calls.mono HCALL.out ?_
                  rintro e w7 ⟨rfl, s', n', fl', tk', okA', okE', hR, hroom, hn, hS, hk7⟩
                  have HR7 := Aside0.mk hR
                  have HRO7 := Aside0.mk (hroom.trans HRO.out)
                  have HN7 := Aside0.mk (show n' ≤ (i + 1) * 1000000 by have h1 := HN.out; have h2 := HLL.out; rw [Nat.add_mul, Nat.one_mul]; omega)
                  have HS7 := Aside0.mk hS
                  have HBX7 := Aside0.mk (blk_kept HBX5.out hk7 (fun h => HGX.out gx h rfl))
                  clear hR hroom hn hS hk7 HCALL
                  go_wp2_with fail
                  go_meet
                  case rel => exact ⟨by simp, n', s', fl', tk', okA', okE', HR7, HRO7, HN7, HS7, HBX7⟩
                · go_wp2_with fail
                  go_meet
                  case rel => exact ⟨rfl, n, s, fl, tk, ka, ke, HRI, HRO, ⟨Nat.le_trans HN.out (Nat.mul_le_mul_right _ (Nat.le_succ i))⟩, HSX, HBX⟩
        clear HRI HRO HN HSX HGX HHS HBX hz0 hz1 hz2 ka ke
        obtain ⟨rfl, n, s, fl, tk, okA, okE, HRI, HRO, HN, HST, HBX⟩ := hcut
        obtain ⟨wo, hwo⟩ : ∃ wo : World, wo = wc := ⟨_, rfl⟩
        subst hwo
        have HIA := Aside0.mk HST.out.1
        have HIE := Aside0.mk HST.out.2.1
        obtain ⟨Af, cf, At, ct, okf, okt, hb, hL, hr, h1, h2, hf, ht⟩ := HIE.out
        have HBK := Aside0.mk hb
        have HRT := Aside0.mk ht
        have HCNT := Aside0.mk (show (s.cnt : Int) = (tk.length : Int) by rw [HRI.out.ln])
        have HTL := Aside0.mk (show tk.length ≤ 1000 by have h1 := HRI.out.ln; have h3 := HRO.out; have h4 := HRI.out.inv.ct; have h5 := HRI.out.inv.f1; omega)
        have hc1 : ∀ W, Below wo.heap.size wo W → W.cell? ⟨r, 1, none⟩ = some (.slice At tk.length ct) := fun W h => cellE1 (blk_below HBK.out h)
        clear hb hL hr h1 h2 hf ht
        go_wp2_with fail
        refine RegH.startH (fun W => Below wo.heap.size wo W) (by kernel_rfl) rfl (below_drew1 (Below.refl _ _)) (fun hS => ?_)
        (refine RegH.tkH (i := 0) (d := 164) (oi := ⟨_, _, _, _, _, _⟩) (v := ?_) rfl rfl (by kernel_rfl) (by kernel_rfl) (by kernel_rfl) (fun _ _ _ h => h) (Or.inl ⟨by rfl, ?_⟩) hS ?_; rotate_left; (intro w hSw; (try dsimp only at hSw); go_simp); try (with_reducible rfl))
        try simp only [Act.put, List.setIfInBounds_toArray, List.set_cons_zero, List.set_cons_succ]
        (refine RegH.tkH (i := 1) (d := 165) (oi := ⟨_, _, _, _, _, _⟩) (v := ?_) rfl rfl (by kernel_rfl) (by kernel_rfl) (by kernel_rfl) (fun _ _ _ h => h) (Or.inl ⟨by rfl, ?_⟩) hS ?_; rotate_left; (intro w hSw; (try dsimp only at hSw); go_simp); try (with_reducible rfl))
        try simp only [Act.put, List.setIfInBounds_toArray, List.set_cons_zero, List.set_cons_succ]
        (refine RegH.tkH (i := 2) (d := 166) (oi := ⟨_, _, _, _, _, _⟩) (v := ?_) rfl rfl (by kernel_rfl) (by kernel_rfl) (by kernel_rfl) (fun _ _ _ h => h) (Or.inl ⟨by rfl, ?_⟩) hS ?_; rotate_left; (intro w hSw; (try dsimp only at hSw); go_simp); try (with_reducible rfl))
        try simp only [Act.put, List.setIfInBounds_toArray, List.set_cons_zero, List.set_cons_succ]
        (refine RegH.tkH (i := 3) (d := 167) (oi := ⟨_, _, _, _, _, _⟩) (v := ?_) rfl rfl (by kernel_rfl) (by kernel_rfl) (by kernel_rfl) (fun _ _ _ h => h) (Or.inl ⟨by rfl, ?_⟩) hS ?_; rotate_left; (intro w hSw; (try dsimp only at hSw); go_simp); try (with_reducible rfl))
        try simp only [Act.put, List.setIfInBounds_toArray, List.set_cons_zero, List.set_cons_succ]
        (refine RegH.tkH (i := 5) (d := 169) (oi := ⟨_, _, _, _, _, _⟩) (v := ?_) rfl rfl (by kernel_rfl) (by kernel_rfl) (by kernel_rfl) (fun _ _ _ h => h) (Or.inl ⟨by rfl, ?_⟩) hS ?_; rotate_left; (intro w hSw; (try dsimp only at hSw); go_simp); try (with_reducible rfl))
        try simp only [Act.put, List.setIfInBounds_toArray, List.set_cons_zero, List.set_cons_succ]
        (refine RegH.tkH (i := 6) (d := 170) (oi := ⟨_, _, _, _, _, _⟩) (v := ?_) rfl rfl (by kernel_rfl) (by kernel_rfl) (by kernel_rfl) (fun _ _ _ h => h) (Or.inl ⟨by rfl, ?_⟩) hS ?_; rotate_left; (intro w hSw; (try dsimp only at hSw); go_simp); try (with_reducible rfl))
        try simp only [Act.put, List.setIfInBounds_toArray, List.set_cons_zero, List.set_cons_succ]
        (refine RegH.tkH (i := 7) (d := 171) (oi := ⟨_, _, _, _, _, _⟩) (v := ?_) rfl rfl (by kernel_rfl) (by kernel_rfl) (by kernel_rfl) (fun _ _ _ h => h) (Or.inl ⟨by rfl, ?_⟩) hS ?_; rotate_left; (intro w hSw; (try dsimp only at hSw); go_simp); try (with_reducible rfl))
        try simp only [Act.put, List.setIfInBounds_toArray, List.set_cons_zero, List.set_cons_succ]
        (refine RegH.tkH (i := 8) (d := 172) (oi := ⟨_, _, _, _, _, _⟩) (v := ?_) rfl rfl (by kernel_rfl) (by kernel_rfl) (by kernel_rfl) (fun _ _ _ h => h) (Or.inl ⟨by rfl, ?_⟩) hS ?_; rotate_left; (intro w hSw; (try dsimp only at hSw); go_simp); try (with_reducible rfl))
        try simp only [Act.put, List.setIfInBounds_toArray, List.set_cons_zero, List.set_cons_succ]
        (refine RegH.tkH (i := 9) (d := 173) (oi := ⟨_, _, _, _, _, _⟩) (v := ?_) rfl rfl (by kernel_rfl) (by kernel_rfl) (by kernel_rfl) (fun _ _ _ h => h) (Or.inl ⟨by rfl, ?_⟩) hS ?_; rotate_left; (intro w hSw; (try dsimp only at hSw); go_simp); try (with_reducible rfl))
        try simp only [Act.put, List.setIfInBounds_toArray, List.set_cons_zero, List.set_cons_succ]
        refine RegH.oneH (i := 4) (o := ⟨_, _, _, _, _, _⟩) (by kernel_rfl) rfl (fun K hK => ?_)
        go_simp
        refine Calls.mono (len ga n s okA w1 _ (HIA.out.below hS)) ?_
        rintro e v ⟨rfl, hv⟩
        rw [hv, HCNT.out]
        go_wp2_with (fail)
        refine hK.out _ _ (hS) (fun hS => ?_)
        clear hK K
        try simp only [Act.put, List.setIfInBounds_toArray, List.set_cons_zero, List.set_cons_succ]
        refine RegH.oneH (i := 10) (o := ⟨_, _, _, _, _, _⟩) (by kernel_rfl) rfl (fun K hK => ?_)
        go_simp
        refine hK.out _ _ (hS) (fun hS => ?_)
        clear hK K
        try simp only [Act.put, List.setIfInBounds_toArray, List.set_cons_zero, List.set_cons_succ]
        refine RegH.oneH (i := 11) (o := ⟨_, _, _, _, _, _⟩) (by kernel_rfl) rfl (fun K hK => ?_)
        go_simp
        refine hK.out _ _ (hS) (fun hS => ?_)
        clear hK K
        try simp only [Act.put, List.setIfInBounds_toArray, List.set_cons_zero, List.set_cons_succ]
        refine RegH.oneH (i := 12) (o := ⟨_, _, _, _, _, _⟩) (by kernel_rfl) rfl (fun K hK => ?_)
        go_simp
        refine hK.out _ _ (hS) (fun hS => ?_)
        clear hK K
        try simp only [Act.put, List.setIfInBounds_toArray, List.set_cons_zero, List.set_cons_succ]
        (refine RegH.tkH (i := 13) (d := 177) (oi := ⟨_, _, _, _, _, _⟩) (v := ?_) rfl rfl (by kernel_rfl) (by kernel_rfl) (by kernel_rfl) (fun _ _ _ h => h) (Or.inl ⟨by rfl, ?_⟩) hS ?_; rotate_left; (intro w hSw; (try dsimp only at hSw); go_simp); try (with_reducible rfl))
        try simp only [Act.put, List.setIfInBounds_toArray, List.set_cons_zero, List.set_cons_succ]
        (refine RegH.tkH (i := 15) (d := 179) (oi := ⟨_, _, _, _, _, _⟩) (v := ?_) rfl rfl (by kernel_rfl) (by kernel_rfl) (by kernel_rfl) (fun _ _ _ h => h) (Or.inl ⟨by rfl, ?_⟩) hS ?_; rotate_left; (intro w hSw; (try dsimp only at hSw); go_simp); try (with_reducible rfl))
        try simp only [Act.put, List.setIfInBounds_toArray, List.set_cons_zero, List.set_cons_succ]
        refine RegH.oneH (i := 14) (o := ⟨_, _, _, _, _, _⟩) (by kernel_rfl) rfl (fun K hK => ?_)
        go_simp
        refine Calls.mono (room_ ga n s okA w1 _ (HIA.out.below hS)) ?_
        rintro e v ⟨rfl, hv⟩
        rw [hv, HRO.out]
        go_wp2_with (fail)
        refine hK.out _ _ (hS) (fun hS => ?_)
        clear hK K
        try simp only [Act.put, List.setIfInBounds_toArray, List.set_cons_zero, List.set_cons_succ]
        refine RegH.oneH (i := 16) (o := ⟨_, _, _, _, _, _⟩) (by kernel_rfl) rfl (fun K hK => ?_)
        go_simp
        refine hK.out _ _ (hS) (fun hS => ?_)
        clear hK K
        try simp only [Act.put, List.setIfInBounds_toArray, List.set_cons_zero, List.set_cons_succ]
        refine RegH.oneH (i := 17) (o := ⟨_, _, _, _, _, _⟩) (by kernel_rfl) rfl (fun K hK => ?_)
        go_simp
        refine hK.out _ _ (hS) (fun hS => ?_)
        clear hK K
        try simp only [Act.put, List.setIfInBounds_toArray, List.set_cons_zero, List.set_cons_succ]
        refine wpAnyH_done (by kernel_rfl) ?_ _
        clear hc1
        have hhl : hs.length ≤ 30 := by omega
        go_wp2_with fail
        go_loopg [23] (hs.length) (fun kq v23 wr => ∃ (j : Nat), v23 = .int .i64 j ∧ Aside0 (j + kq = hs.length) ∧ j ≤ hs.length ∧ Aside0 (Below wo.heap.size wo wr))
        case atStart => exact ⟨0, rfl, ⟨by omega⟩, Nat.zero_le _, ⟨hS⟩⟩
        case round =>
          clear hS
          obtain ⟨j, rfl, HJ, hj, HBQ⟩ := hrel
          obtain ⟨wz, hwz⟩ : ∃ wz : World, wz = wr := ⟨_, rfl⟩
          subst hwz
          have hg0 : ∀ W, Below wz.heap.size wz W → W.cell? ⟨gx, 2, none⟩ = some (.slice A1 hs.length c1) := fun W h => (blk_cell (blk_below (blk_below HBX.out HBQ.out) h) 2).trans rfl
          have hg2 := hg0 wz (Below.refl _ _)
          by_cases hjl : j < hs.length
          · have HCZ := Aside0.mk (Kd.C_below HCB.out (below_step HST.out.2.2.2 HBQ.out))
            obtain ⟨ad2, e2, -, -⟩ := PArenaActs.at_T30 HCZ.out (j : Int) (by omega) (by omega)
            obtain ⟨⟨x, y⟩, hz⟩ : ∃ z, z = hs[j] := ⟨_, rfl⟩
            have hcx : ∀ W, Below wz.heap.size wz W → W.cell? (ad2.add (j * 2)) = some (.int .i64 x) ∧ W.cell? ⟨(ad2.add (j * 2)).block, (ad2.add (j * 2)).off + 1, none⟩ = some (.int .i64 y) := fun W h => by
              obtain ⟨ad3, e3, h0, h1⟩ := PArenaActs.at_T30 (Kd.C_below HCZ.out h) (j : Int) (by omega) (by omega)
              rw [e2] at e3
              cases e3
              rw [hd_nat hs j hjl, Int.toNat_natCast, ← hz] at h0 h1
              exact ⟨h0, h1⟩
            have hx0 : ∀ W, Below wz.heap.size wz W → W.cell? (ad2.add (j * 2)) = some (.int .i64 x) := fun W h => (hcx W h).1
            have hx1 : ∀ W, Below wz.heap.size wz W → W.cell? ⟨(ad2.add (j * 2)).block, (ad2.add (j * 2)).off + 1, none⟩ = some (.int .i64 y) := fun W h => (hcx W h).2
            have HWX := Aside0.mk (show Wf x from by have h := HWF.out j hjl; rw [← hz] at h; exact h)
            have HLV := Aside0.mk (show inH tk ⟨x, y⟩ = (s.taken x && decide (s.gens x = y)) from HRI.out.live _)
            have hjb : (j : Int) < (hs.length : Int) := by omega
            have hu30 := Try.underlying30
            clear hz hcx
            cases e2
            go_wp2_with fail
            refine RegH.startH (fun W => Below wz.heap.size wz W) (by kernel_rfl) rfl (below_drew1 (Below.refl _ _)) (fun hS => ?_)
            (refine RegH.tkH (i := 0) (d := 189) (oi := ⟨_, _, _, _, _, _⟩) (v := ?_) rfl rfl (by kernel_rfl) (by kernel_rfl) (by kernel_rfl) (fun _ _ _ h => h) (Or.inl ⟨by rfl, ?_⟩) hS ?_; rotate_left; (intro w hSw; (try dsimp only at hSw); go_simp); try (with_reducible rfl))
            try simp only [Act.put, List.setIfInBounds_toArray, List.set_cons_zero, List.set_cons_succ]
            (refine RegH.tkH (i := 1) (d := 190) (oi := ⟨_, _, _, _, _, _⟩) (v := ?_) rfl rfl (by kernel_rfl) (by kernel_rfl) (by kernel_rfl) (fun _ _ _ h => h) (Or.inl ⟨by rfl, ?_⟩) hS ?_; rotate_left; (intro w hSw; (try dsimp only at hSw); go_simp); try (with_reducible rfl))
            try simp only [Act.put, List.setIfInBounds_toArray, List.set_cons_zero, List.set_cons_succ]
            (refine RegH.tkH (i := 2) (d := 191) (oi := ⟨_, _, _, _, _, _⟩) (v := ?_) rfl rfl (by kernel_rfl) (by kernel_rfl) (by kernel_rfl) (fun _ _ _ h => h) (Or.inl ⟨by rfl, ?_⟩) hS ?_; rotate_left; (intro w hSw; (try dsimp only at hSw); go_simp); try (with_reducible rfl))
            try simp only [Act.put, List.setIfInBounds_toArray, List.set_cons_zero, List.set_cons_succ]
            (refine RegH.tkH (i := 3) (d := 192) (oi := ⟨_, _, _, _, _, _⟩) (v := ?_) rfl rfl (by kernel_rfl) (by kernel_rfl) (by kernel_rfl) (fun _ _ _ h => h) (Or.inl ⟨by rfl, ?_⟩) hS ?_; rotate_left; (intro w hSw; (try dsimp only at hSw); go_simp); try (with_reducible rfl))
            try simp only [Act.put, List.setIfInBounds_toArray, List.set_cons_zero, List.set_cons_succ]
            (refine RegH.tkH (i := 4) (d := 193) (oi := ⟨_, _, _, _, _, _⟩) (v := ?_) rfl rfl (by kernel_rfl) (by kernel_rfl) (by kernel_rfl) (fun _ _ _ h => h) (Or.inl ⟨by rfl, ?_⟩) hS ?_; rotate_left; (intro w hSw; (try dsimp only at hSw); go_simp); try (with_reducible rfl))
            try simp only [Act.put, List.setIfInBounds_toArray, List.set_cons_zero, List.set_cons_succ]
            (refine RegH.tkH (i := 5) (d := 194) (oi := ⟨_, _, _, _, _, _⟩) (v := ?_) rfl rfl (by kernel_rfl) (by kernel_rfl) (by kernel_rfl) (fun _ _ _ h => h) (Or.inl ⟨by rfl, ?_⟩) hS ?_; rotate_left; (intro w hSw; (try dsimp only at hSw); go_simp); try (with_reducible rfl))
            try simp only [Act.put, List.setIfInBounds_toArray, List.set_cons_zero, List.set_cons_succ]
            (refine RegH.tkH (i := 7) (d := 196) (oi := ⟨_, _, _, _, _, _⟩) (v := ?_) rfl rfl (by kernel_rfl) (by kernel_rfl) (by kernel_rfl) (fun _ _ _ h => h) (Or.inl ⟨by rfl, ?_⟩) hS ?_; rotate_left; (intro w hSw; (try dsimp only at hSw); go_simp); try (with_reducible rfl))
            try simp only [Act.put, List.setIfInBounds_toArray, List.set_cons_zero, List.set_cons_succ]
            (refine RegH.tkH (i := 8) (d := 197) (oi := ⟨_, _, _, _, _, _⟩) (v := ?_) rfl rfl (by kernel_rfl) (by kernel_rfl) (by kernel_rfl) (fun _ _ _ h => h) (Or.inl ⟨by rfl, ?_⟩) hS ?_; rotate_left; (intro w hSw; (try dsimp only at hSw); go_simp); try (with_reducible rfl))
            try simp only [Act.put, List.setIfInBounds_toArray, List.set_cons_zero, List.set_cons_succ]
            (refine RegH.tkH (i := 9) (d := 198) (oi := ⟨_, _, _, _, _, _⟩) (v := ?_) rfl rfl (by kernel_rfl) (by kernel_rfl) (by kernel_rfl) (fun _ _ _ h => h) (Or.inl ⟨by rfl, ?_⟩) hS ?_; rotate_left; (intro w hSw; (try dsimp only at hSw); go_simp); try (with_reducible rfl))
            try simp only [Act.put, List.setIfInBounds_toArray, List.set_cons_zero, List.set_cons_succ]
            (refine RegH.tkH (i := 10) (d := 199) (oi := ⟨_, _, _, _, _, _⟩) (v := ?_) rfl rfl (by kernel_rfl) (by kernel_rfl) (by kernel_rfl) (fun _ _ _ h => h) (Or.inl ⟨by rfl, ?_⟩) hS ?_; rotate_left; (intro w hSw; (try dsimp only at hSw); go_simp); try (with_reducible rfl))
            try simp only [Act.put, List.setIfInBounds_toArray, List.set_cons_zero, List.set_cons_succ]
            (refine RegH.tkH (i := 11) (d := 200) (oi := ⟨_, _, _, _, _, _⟩) (v := ?_) rfl rfl (by kernel_rfl) (by kernel_rfl) (by kernel_rfl) (fun _ _ _ h => h) (Or.inl ⟨by rfl, ?_⟩) hS ?_; rotate_left; (intro w hSw; (try dsimp only at hSw); go_simp); try (with_reducible rfl))
            try simp only [Act.put, List.setIfInBounds_toArray, List.set_cons_zero, List.set_cons_succ]
            (refine RegH.tkH (i := 12) (d := 201) (oi := ⟨_, _, _, _, _, _⟩) (v := ?_) rfl rfl (by kernel_rfl) (by kernel_rfl) (by kernel_rfl) (fun _ _ _ h => h) (Or.inl ⟨by rfl, ?_⟩) hS ?_; rotate_left; (intro w hSw; (try dsimp only at hSw); go_simp); try (with_reducible rfl))
            try simp only [Act.put, List.setIfInBounds_toArray, List.set_cons_zero, List.set_cons_succ]
            refine RegH.oneH (i := 6) (o := ⟨_, _, _, _, _, _⟩) (by kernel_rfl) rfl (fun K hK => ?_)
            go_simp
            refine Calls.mono (Arena.live ga n s x y HWX.out okA w1 _ (HIA.out.below (below_step HBQ.out hS))) ?_
            rintro e v ⟨rfl, hb⟩
            have hS := below_step hS hb
            go_wp2_with (fail)
            refine hK.out _ _ (hS) (fun hS => ?_)
            clear hK K
            try simp only [Act.put, List.setIfInBounds_toArray, List.set_cons_zero, List.set_cons_succ]
            refine RegH.oneH (i := 13) (o := ⟨_, _, _, _, _, _⟩) (by kernel_rfl) rfl (fun K hK => ?_)
            go_simp
            refine Calls.mono (rlive r fl tk ⟨x, y⟩ okE w1 _ (HIE.out.below (below_step HBQ.out hS)) (by have := HTL.out; omega)) ?_
            rintro e v ⟨rfl, hb⟩
            rw [HLV.out]
            have hS := below_step hS hb
            go_wp2_with (fail)
            refine hK.out _ _ (hS) (fun hS => ?_)
            clear hK K
            try simp only [Act.put, List.setIfInBounds_toArray, List.set_cons_zero, List.set_cons_succ]
            refine RegH.oneH (i := 14) (o := ⟨_, _, _, _, _, _⟩) (by kernel_rfl) rfl (fun K hK => ?_)
            go_simp
            refine hK.out _ _ (hS) (fun hS => ?_)
            clear hK K
            try simp only [Act.put, List.setIfInBounds_toArray, List.set_cons_zero, List.set_cons_succ]
            refine wpAnyH_done (by kernel_rfl) ?_ _
            go_wp2_with fail
            go_roundg (hs.length - (j + 1))
            case measure => have := HJ.out; omega
            case rel => exact ⟨j + 1, by go_num, ⟨by have := HJ.out; omega⟩, by omega, ⟨below_step HBQ.out hS⟩⟩
          · have hjj : j = hs.length := by omega
            subst hjj
            have htl : tk.length ≤ 1000 := HTL.out
            go_wp2_with fail
            go_loopg [24] (tk.length) (fun kq v24 wr => ∃ (k : Nat), v24 = .int .i64 k ∧ Aside0 (k + kq = tk.length) ∧ k ≤ tk.length ∧ Aside0 (Below wo.heap.size wo wr))
            case atStart => exact ⟨0, rfl, ⟨by omega⟩, Nat.zero_le _, HBQ⟩
            case round =>
              clear HBQ hg0 hg2
              obtain ⟨k, rfl, HKK, hk, HBQ⟩ := hrel
              have hc1 := cellE1 (blk_below HBK.out HBQ.out)
              by_cases hkl : k < tk.length
              · obtain ⟨ad2, e2, hx0, hx1⟩ := PArenaActs.at_T30 (Kd.C_below (Kd.R_reads' HRT.out).2.2 HBQ.out) (k : Int) (by omega) (by omega)
                rw [hd_nat tk k hkl, Int.toNat_natCast] at hx0 hx1
                have hm := List.getElem_mem hkl
                have hlv : (s.taken tk[k].f0 && decide (s.gens tk[k].f0 = tk[k].f1)) = true := (HRI.out.mt _).1 hm
                have hbd := (HRI.out.bnd hm).1
                obtain ⟨⟨x, y⟩, hz⟩ : ∃ z, z = tk[k] := ⟨_, rfl⟩
                rw [← hz] at hx0 hx1 hlv hbd
                dsimp only at hx0 hx1 hlv hbd
                have HWX := Aside0.mk (show Wf x from by have h3 := HRO.out; exact AMap.wf_of (by omega) (by omega))
                have HLV := Aside0.mk hlv
                clear hm hlv hbd hz
                cases e2
                go_wp2_with fail
                refine Calls.mono (Arena.live ga n s x y HWX.out okA w1 wr (HIA.out.below HBQ.out)) ?_
                rintro e w5 ⟨rfl, hb5⟩
                rw [HLV.out]
                have HB5 := Aside0.mk (below_step HBQ.out hb5)
                clear hb5
                go_wp2
                go_roundg (tk.length - (k + 1))
                case measure => have := HKK.out; omega
                case rel => exact ⟨k + 1, by go_num, ⟨by have := HKK.out; omega⟩, by omega, HB5⟩
              · have hkk : k = tk.length := by omega
                subst hkk
                go_wp2
                go_roundg (l.length - (i + 1))
                case measure => have := HQ.out; omega
                case rel => exact ⟨i + 1, n, s, fl, tk, okA, okE, by go_num, ⟨by have := HQ.out; omega⟩, by omega, HRI, HRO, HN, ⟨HST.out.below HBQ.out⟩⟩
    · go_wp2
      go_ret
      exact ⟨rfl, below_step HB.out HBW.out⟩

end Go.Proofs.Ytlmeeafppigphaa.AActs
