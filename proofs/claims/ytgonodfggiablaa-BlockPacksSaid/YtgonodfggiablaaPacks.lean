/-
  BlockPacks' walk on its one way of true answers; conditions: what the calls come to, and that the argument can be read.
-/
import Derived.Test.YtgonodfggiablaaQBlockPacksx2
import Derived.Test.YtgonodfggiablaaQBlockPacksx3
import Derived.Test.YtgonodfggiablaaQBlockPacksx4
import Derived.Test.YtgonodfggiablaaQBlockPacksx5
import Derived.Test.YtgonodfggiablaaQBlockPacksx6
import Derived.Test.YtgonodfggiablaaQBlockPacksx7
import Derived.Test.YtgonodfggiablaaQBlockPacksx10
namespace Go.Proofs.Ytgonodfggiablaa.Packs
open Go.RowKit Go.Proofs.Ytgonodfggiablaa.QBlockPacks Go.Proofs.YtgonodfggiablaaW.PrintWords Go.Proofs.YtgonodfggiablaaW.PrintLast Go.Proofs.YtgonodfggiablaaW.PrintMore
set_option linter.unusedVariables false
set_option linter.unusedSimpArgs false

set_option maxHeartbeats 1000000 in
set_option maxRecDepth 100000 in
theorem core (k : Nat) (A0 : Option Addr) (c0 : Nat) (l0 : List S30) (w : World) (hr0 : Kd.C k30 w A0 l0.length l0) (hc0 : l0.length ≤ c0) (bs : List Int) (xs : List S30) (hm : bs.length ≤ 1000000)
    (A5 : Aside0 (cobweblaw08_small.f k l0 = some true)) (A6 : Aside0 (block_Pack.f k l0 = some (bs, 0))) (A7 : Aside0 (cobwebref08_All.f k l0 = some bs)) (A8 : Aside0 (block_Size.f k l0 = some (bs.length : Int)))
    (A9 : Aside0 (block_Scan.f k bs = some (xs, (bs.length : Int)))) (A10 : Aside0 (cobwebref08_Same.f xs l0 = some true)) :
    Calls Try.prog 7 #[.slice A0 l0.length c0] w fun e w' => e = .returned (.bool true) ∧ Below w.heap.size w w' := by
  have HR0 := Aside0.mk hr0
  have HC0 := Aside0.mk hc0
  clear hr0 hc0
  have HB := Aside0.mk (Below.refl w.heap.size w)
  go_enter Try.func7, Try.ntmps7
  go_upto_region 4 with (first
    | (go_at_call 8; refine (awake_any _).mono ?_; rintro e w1 ⟨rfl, hb⟩; have n0_ := Aside0.mk (below_step (by repeat (first | (with_reducible first | exact HB.out | apply below_alloc | apply pw_below_drewN | apply below_drew1) | exact HB.out)) hb); clear HB; have HB := n0_; clear n0_; (try clear hb))
    | (go_at_call 11; refine Calls.mono (cobweblaw08_small.calls k _ _ l0 true _ (by repeat (first | exact (Kd.C_below HR0.out HB.out) | (with_reducible refine Kd.C_alloc ?_ _) | (with_reducible refine Kd.C_drewN ?_ _) | (with_reducible refine Kd.C_drew ?_))) HC0.out A5.out) ?_; rintro e w' ⟨rfl, ⟨nd, rfl⟩⟩)
    | (go_at_call 12; refine Calls.mono (block_Pack.calls k _ _ l0 bs 0 _ (by repeat (first | exact (Kd.C_below HR0.out HB.out) | (with_reducible refine Kd.C_alloc ?_ _) | (with_reducible refine Kd.C_drewN ?_ _) | (with_reducible refine Kd.C_drew ?_))) HC0.out A6.out) ?_; rintro e w2 ⟨v0, rfl, hR, hb⟩; obtain ⟨Ab, cb, rfl⟩ := Kd.R_slice hR; have HS := Aside0.mk (Kd.R_reads' hR).2.2; have HSC := Aside0.mk (Kd.R_reads' hR).2.1; have n0_ := Aside0.mk (below_step (by repeat (first | (with_reducible first | exact HB.out | apply below_alloc | apply pw_below_drewN | apply below_drew1) | exact HB.out)) hb); clear HB; have HB := n0_; clear n0_ hb hR))
  go_cut [36] (fun v36 wc => v36 = .bool false ∧ Aside0 (Below w2.heap.size w2 wc))
  case first =>
    obtain ⟨tx, htx⟩ : ∃ t, t = strOfNums bs := ⟨_, rfl⟩
    have hcv := fun n => Kd.C_string (P := Try.prog) (A := Ab) (c := cb) Try.underlying24 Try.underlying5 Try.underlying9 (Kd.C_drewN HS.out n)
    have hcv0 := Kd.C_string (P := Try.prog) (A := Ab) (c := cb) Try.underlying24 Try.underlying5 Try.underlying9 (HS.out)
    have hcvd := Kd.C_string (P := Try.prog) (A := Ab) (c := cb) Try.underlying24 Try.underlying5 Try.underlying9 (Kd.C_drew HS.out)
    rw [← htx] at hcv hcv0 hcvd
    have HTX := Aside0.mk htx
    clear htx
    go_region_with (first
      | (go_at_call 19; refine Calls.mono (cobwebref08_All.calls k _ _ l0 bs _ (by repeat (first | exact HS.out | exact (Kd.C_below HR0.out HB.out) | (with_reducible refine Kd.C_alloc ?_ _) | (with_reducible refine Kd.C_drewN ?_ _) | (with_reducible refine Kd.C_drew ?_) | (refine Kd.C_below ?_ (by assumption)))) HC0.out A7.out) ?_; rintro e w3 ⟨v3, rfl, hR3, hb3⟩; obtain ⟨Aa, ca, rfl⟩ := Kd.R_slice hR3; have hS3 := (Kd.R_reads' hR3).2.2; have hB3 : Kd.C (Kd.int .u8) w3 Ab bs.length bs := Kd.C_below (by repeat (first | exact HS.out | (with_reducible refine Kd.C_alloc ?_ _) | (with_reducible refine Kd.C_drewN ?_ _) | (with_reducible refine Kd.C_drew ?_) | (refine Kd.C_below ?_ (by assumption)))) hb3; have hcvA := fun n => Kd.C_string (P := Try.prog) (A := Aa) (c := ca) Try.underlying24 Try.underlying5 Try.underlying9 (Kd.C_drewN hS3 n); have hcvB := fun n => Kd.C_string (P := Try.prog) (A := Ab) (c := cb) Try.underlying24 Try.underlying5 Try.underlying9 (Kd.C_drewN hB3 n); have hcvA0 := Kd.C_string (P := Try.prog) (A := Aa) (c := ca) Try.underlying24 Try.underlying5 Try.underlying9 hS3; have hcvB0 := Kd.C_string (P := Try.prog) (A := Ab) (c := cb) Try.underlying24 Try.underlying5 Try.underlying9 hB3; have hcvAd := Kd.C_string (P := Try.prog) (A := Aa) (c := ca) Try.underlying24 Try.underlying5 Try.underlying9 (Kd.C_drew hS3); have hcvBd := Kd.C_string (P := Try.prog) (A := Ab) (c := cb) Try.underlying24 Try.underlying5 Try.underlying9 (Kd.C_drew hB3); rw [← HTX.out] at hcvA hcvB hcvA0 hcvB0 hcvAd hcvBd; clear hR3 hS3 hB3)
      | (go_at_call 14; refine Calls.mono (block_Size.calls k _ _ l0 _ _ (by repeat (first | exact HS.out | exact (Kd.C_below HR0.out HB.out) | (with_reducible refine Kd.C_alloc ?_ _) | (with_reducible refine Kd.C_drewN ?_ _) | (with_reducible refine Kd.C_drew ?_) | (refine Kd.C_below ?_ (by assumption)))) HC0.out A8.out) ?_; rintro e w4 ⟨rfl, hb4⟩))
    all_goals
      go_wp2
      go_meet
      case rel => exact ⟨by first | rfl | (simp; done), ⟨(by repeat (first | exact Below.refl _ _ | apply below_alloc | apply pw_below_drewN | apply below_drew1 | (refine below_step ?_ (by assumption))))⟩⟩
  case rest =>
    obtain ⟨rfl, HB2⟩ := hcut
    have HBc := Aside0.mk (below_step HB.out HB2.out)
    have HSc := Aside0.mk (Kd.C_below HS.out HB2.out)
    clear HB HS HB2
    have HB := HBc
    have HS := HSc
    clear HBc HSc
    go_wp2_with (first
      | (go_at_call 17; refine Calls.mono (block_Scan.calls k _ _ bs xs _ _ (by repeat (first | exact HS.out | exact (Kd.C_below HR0.out HB.out) | (with_reducible refine Kd.C_alloc ?_ _) | (with_reducible refine Kd.C_drewN ?_ _) | (with_reducible refine Kd.C_drew ?_) | (refine Kd.C_below ?_ (by assumption)))) HSC.out A9.out) ?_; rintro e w5 ⟨v5, rfl, hR5, hb5⟩; obtain ⟨Ax, cx, rfl⟩ := Kd.S_slice hR5; have HX := Aside0.mk (Kd.S_reads' hR5).2.2; have HXC := Aside0.mk (Kd.S_reads' hR5).2.1; have HB5 := Aside0.mk (below_step (by repeat (first | (with_reducible first | exact HB.out | apply below_alloc | apply pw_below_drewN | apply below_drew1) | exact HB.out)) hb5); clear hR5 hb5)
      | (go_at_call 13; refine Calls.mono (cobwebref08_Same.calls _ _ xs _ _ l0 true _ (by repeat (first | exact HX.out | (with_reducible refine Kd.C_drewN ?_ _))) HXC.out (by repeat (first | exact (Kd.C_below HR0.out HB5.out) | (with_reducible refine Kd.C_drewN ?_ _))) HC0.out A10.out) ?_; rintro e w' ⟨rfl, ⟨nd6, rfl⟩⟩))
    go_ret
    exact ⟨by first | rfl | (simp; done), by repeat (first | exact HB5.out | apply pw_below_drewN)⟩

set_option maxHeartbeats 1000000 in
set_option maxRecDepth 100000 in
/-- Blocks that are too many, or too long. -/
theorem off (k : Nat) (A0 : Option Addr) (c0 : Nat) (l0 : List S30) (w : World) (hr0 : Kd.C k30 w A0 l0.length l0) (hc0 : l0.length ≤ c0) (A5 : Aside0 (cobweblaw08_small.f k l0 = some false)) :
    Calls Try.prog 7 #[.slice A0 l0.length c0] w fun e w' => e = .returned (.bool true) ∧ Below w.heap.size w w' := by
  have HR0 := Aside0.mk hr0
  have HC0 := Aside0.mk hc0
  clear hr0 hc0
  have HB := Aside0.mk (Below.refl w.heap.size w)
  go_enter Try.func7, Try.ntmps7
  go_wp2_with (first
    | (go_at_call 8; refine (awake_any _).mono ?_; rintro e w1 ⟨rfl, hb⟩; have n0_ := Aside0.mk (below_step (by repeat (first | (with_reducible first | exact HB.out | apply below_alloc | apply pw_below_drewN | apply below_drew1) | exact HB.out)) hb); clear HB; have HB := n0_; clear n0_; (try clear hb))
    | (go_at_call 11; refine Calls.mono (cobweblaw08_small.calls k _ _ l0 false _ (by repeat (first | exact (Kd.C_below HR0.out HB.out) | (with_reducible refine Kd.C_alloc ?_ _) | (with_reducible refine Kd.C_drewN ?_ _) | (with_reducible refine Kd.C_drew ?_))) HC0.out A5.out) ?_; rintro e w' ⟨rfl, ⟨nd, rfl⟩⟩))
  go_ret
  exact ⟨by first | rfl | (simp; done), by repeat (first | exact HB.out | apply pw_below_drewN)⟩
end Go.Proofs.Ytgonodfggiablaa.Packs
