/-
  An arena's state and its walks: New, Len, Room, Live, Take.
-/
import Derived.Test.YtlmeeafppigphaaProg
import Derived.Test.YtlmeeafppigphaaAMap
import Derived.Laws.ResultCell
import Derived.Below
import Derived.Deep.Draws
import Derived.Deep.AppendLies
import Derived.Maps.AppendAt
import Derived.OwnWalk
import Derived.Laws.BytesArg
import Derived.Laws.MakeOwn
import Derived.Laws.OwnMore
import Derived.Deep.OwnRows
import Derived.Tactics
import Derived.Lib.ConvBytes
import Derived.Laws.Slices
import Derived.WalkKit
import Derived.KernelRfl
import Derived.RowKit3
import Derived.Deep.LoopGhost
import Derived.Deep.QuietTactic
import Derived.BigQuiet
import Derived.WideLaws
import Derived.Deep.DeepCutAuto
import Derived.Deep.CutBlock
import Derived.Deep.RegionHeld3
import Derived.Laws.Rows
import Derived.Lib.AppendStr
import Derived.ArgAppend
import Derived.Laws.IdiomCopy
import Derived.OrdersHeld
import Derived.Laws.BitsLemmas
import Derived.RowKit
import Derived.Lib.SliceRun
import Derived.Test.YtlmeeafppigphaaWWords
import Derived.Test.YtlmeeafppigphaaWLast
import Derived.Test.YtlmeeafppigphaaWTab
import Derived.Test.YtlmeeafppigphaaWFour
import Derived.Test.YtlmeeafppigphaaWQPut
import Derived.Test.YtlmeeafppigphaaWApart
import Derived.Test.YtlmeeafppigphaaWArr
import Derived.Test.YtlmeeafppigphaaWZeros
import Derived.Test.YtlmeeafppigphaaWFoot
import Derived.Test.YtlmeeafppigphaaWKept
import Derived.Test.YtlmeeafppigphaaWShare
import Derived.Test.YtlmeeafppigphaaWN
import Derived.Test.YtlmeeafppigphaaWFootNe
import Derived.Test.YtlmeeafppigphaaWAt
import Derived.Test.YtlmeeafppigphaaWEqStruct
import Derived.Test.YtlmeeafppigphaaWRepsOne
import Derived.Test.YtlmeeafppigphaaWInv
import Derived.Test.YtlmeeafppigphaaWInvWords
import Derived.Test.YtlmeeafppigphaaWGuard
import Derived.Test.YtlmeeafppigphaaWNEv
import Derived.Test.YtlmeeafppigphaaWMore
namespace Go.Proofs.Ytlmeeafppigphaa.Arena
open Go.RowKit Go.Proofs.YtlmeeafppigphaaW.PrintWords Go.Proofs.YtlmeeafppigphaaW.PrintLast Go.Proofs.YtlmeeafppigphaaW.PrintMore
set_option linter.unusedVariables false
set_option linter.unusedSimpArgs false
open Go.Proofs.Ytlmeeafppigphaa.AMap (GM TM Wf up)

/-- What an arena holds. -/
structure Ar where
  room : Int
  gens : Int → Int
  taken : Int → Bool
  cnt : Nat
  free : List Int
  fresh : Int

/-- An arena at block g with its two maps and its row; n: how often its generations were written; what it owns lies among ok, behind base. -/
def IsB (base : Nat) (ok : Nat → Prop) (W : World) (g n : Nat) (s : Ar) (b1 b2 : Nat) (A : Option Addr) (c : Nat) : Prop :=
  W.heap[g]? = some (.cells #[.int .i64 s.room, .map (some b1), .map (some b2), .slice A s.free.length c, .int .i64 s.fresh] 57 (0, 0)) ∧ (∀ k, ok k → k < W.heap.size) ∧
    (base ≤ g ∧ ok g) ∧ (base ≤ b1 ∧ ok b1) ∧ (base ≤ b2 ∧ ok b2) ∧ (b1 ≠ g ∧ b2 ≠ g ∧ b1 ≠ b2) ∧ GM W b1 n s.gens ∧ TM W b2 s.taken s.cnt ∧
    Kd.R (Kd.int .i64) 3 W base (fun k => ok k ∧ k ≠ g ∧ k ≠ b1 ∧ k ≠ b2) (.slice A s.free.length c) s.free
def IsA (base : Nat) (ok : Nat → Prop) (W : World) (g n : Nat) (s : Ar) : Prop := ∃ b1 b2 A c, IsB base ok W g n s b1 b2 A c

section
variable {base : Nat} {ok ok' S : Nat → Prop} {W W' : World} {g n b1 b2 c : Nat} {A : Option Addr} {s : Ar}
theorem GM_kept {b m : Nat} {f : Int → Int} (h : GM W b m f) (hk : Kept W W' S) (hS : ¬ S b) : GM W' b m f := h.at (hk.2 b h.lt hS)
theorem TM_kept {b m : Nat} {f : Int → Bool} (h : TM W b f m) (hk : Kept W W' S) (hS : ¬ S b) : TM W' b f m := h.at (hk.2 b h.lt hS)
theorem GM.below {b m : Nat} {f : Int → Int} (h : GM W b m f) (hb : Below W.heap.size W W') : GM W' b m f := GM_kept h (Kept.of_below hb (fun _ => False)) id
theorem TM.below {b m : Nat} {f : Int → Bool} (h : TM W b f m) (hb : Below W.heap.size W W') : TM W' b f m := TM_kept h (Kept.of_below hb (fun _ => False)) id
theorem IsB.kept (h : IsB base ok W g n s b1 b2 A c) (hk : Kept W W' S) (hS : ∀ k, ok k → ¬ S k) : IsB base ok W' g n s b1 b2 A c := by
  obtain ⟨hb, hL, hg, h1, h2, hn, hG, hT, hr⟩ := h
  exact ⟨blk_kept hb hk (hS g hg.2), fun k hk' => Nat.lt_of_lt_of_le (hL k hk') hk.1, hg, h1, h2, hn, GM_kept hG hk (hS _ h1.2), TM_kept hT hk (hS _ h2.2), Kd.R_kept hr hk (fun k hk => hS k hk.1)⟩
theorem IsB.below (h : IsB base ok W g n s b1 b2 A c) (hw : Below W.heap.size W W') : IsB base ok W' g n s b1 b2 A c :=
  h.kept (Kept.of_below hw (fun _ => False)) (fun _ _ h => h)
theorem IsA.kept (h : IsA base ok W g n s) (hk : Kept W W' S) (hS : ∀ k, ok k → ¬ S k) : IsA base ok W' g n s := by
  obtain ⟨b1, b2, A, c, h⟩ := h
  exact ⟨b1, b2, A, c, h.kept hk hS⟩
theorem IsA.below (h : IsA base ok W g n s) (hw : Below W.heap.size W W') : IsA base ok W' g n s :=
  h.kept (Kept.of_below hw (fun _ => False)) (fun _ _ h => h)
theorem IsA.drewN (h : IsA base ok W g n s) (m : Nat) : IsA base ok (W.drewN m) g n s := h.kept ((Kept.refl W (fun _ => False)).drewN m) (fun _ _ h => h)
theorem IsA.drew (h : IsA base ok W g n s) : IsA base ok W.drew g n s := h.kept ((Kept.refl W (fun _ => False)).drew) (fun _ _ h => h)
theorem IsA.mono (h : IsA base ok W g n s) (hm : ∀ k, ok k → ok' k) (hL' : ∀ k, ok' k → k < W.heap.size) : IsA base ok' W g n s := by
  obtain ⟨b1, b2, A, c, hb, hL, hg, h1, h2, hn, hG, hT, hr⟩ := h
  exact ⟨b1, b2, A, c, hb, hL', ⟨hg.1, hm _ hg.2⟩, ⟨h1.1, hm _ h1.2⟩, ⟨h2.1, hm _ h2.2⟩, hn, hG, hT, Kd.R_mono hr (fun k hk => ⟨hm k hk.1, hk.2⟩)⟩
theorem IsA.far (h : IsA base ok W g n s) {p : Addr} (hp : ¬ ok p.block) (u : Value) : IsA base ok (W.setCell p u) g n s :=
  h.kept (S := fun k => k = p.block) ((Kept.refl W (fun k => k = p.block)).setCell (p := p) (.inl rfl) u) (fun k hk e => hp (by rw [← e]; exact hk))
theorem IsA.ge (h : IsA base ok W g n s) : base ≤ g := by
  obtain ⟨b1, b2, A, c, hb, hL, hg, _⟩ := h
  exact hg.1
theorem IsA.lt (h : IsA base ok W g n s) {k : Nat} (hk : ok k) : k < W.heap.size := by
  obtain ⟨b1, b2, A, c, hb, hL, hg, _⟩ := h
  exact hL k hk
theorem IsA.own (h : IsA base ok W g n s) : ok g := by
  obtain ⟨b1, b2, A, c, hb, hL, hg, _⟩ := h
  exact hg.2
theorem IsB.set_fresh (h : IsB base ok W g n s b1 b2 A c) (x : Int) : IsB base ok (W.setCell ⟨g, 4, none⟩ (.int .i64 x)) g n { s with fresh := x } b1 b2 A c := by
  obtain ⟨hb, hL, hg, h1, h2, hn, hG, hT, hr⟩ := h
  exact ⟨by simpa using blk_set hb 4 (.int .i64 x), fun k hk => by simpa using hL k hk, hg, h1, h2, hn, hG.at (Below.heap_setCell _ _ _ _ hn.1), hT.at (Below.heap_setCell _ _ _ _ hn.2.1), Kd.R_far hr (fun k hk => hk.2.1) _⟩
theorem IsB.set_row {m : Nat} (h : IsB base ok W g n s b1 b2 A c) (hm : m ≤ s.free.length) : IsB base ok (W.setCell ⟨g, 3, none⟩ (.slice A m c)) g n { s with free := s.free.take m } b1 b2 A c := by
  obtain ⟨hb, hL, hg, h1, h2, hn, hG, hT, hr⟩ := h
  refine ⟨?_, fun k hk => by simpa using hL k hk, hg, h1, h2, hn, hG.at (Below.heap_setCell _ _ _ _ hn.1), hT.at (Below.heap_setCell _ _ _ _ hn.2.1), ?_⟩
  · dsimp only
    rw [List.length_take, Nat.min_eq_left hm]
    simpa using blk_set hb 3 (.slice A m c)
  · dsimp only
    rw [List.length_take, Nat.min_eq_left hm]
    exact Kd.R_far (Kd.R_take hr hm) (fun k hk => hk.2.1) _
theorem IsB.put2 {t' : Int → Bool} {c' : Nat} (h : IsB base ok W g n s b1 b2 A c) (hg' : W.grownBy W' (some b2)) (hT' : TM W' b2 t' c') : IsB base ok W' g n { s with taken := t', cnt := c' } b1 b2 A c ∧ Kept W W' (fun k => k = b2) := by
  obtain ⟨hb, hL, hg, h1, h2, hn, hG, hT, hr⟩ := h
  have hk : Kept W W' (fun k => k = b2) := Kept.of_grown hg' (Kept.refl _ _) (fun k e => .inl (by injection e with e; exact e.symm))
  exact ⟨⟨blk_kept hb hk (fun e => hn.2.1 e.symm), fun k hk' => Nat.lt_of_lt_of_le (hL k hk') hk.1, hg, h1, h2, hn, GM_kept hG hk hn.2.2, hT', Kd.R_kept hr hk (fun k hk => hk.2.2.2)⟩, hk⟩
theorem IsB.put1 {f' : Int → Int} {n' : Nat} (h : IsB base ok W g n s b1 b2 A c) (hg' : W.grownBy W' (some b1)) (hG' : GM W' b1 n' f') : IsB base ok W' g n' { s with gens := f' } b1 b2 A c ∧ Kept W W' (fun k => k = b1) := by
  obtain ⟨hb, hL, hg, h1, h2, hn, hG, hT, hr⟩ := h
  have hk : Kept W W' (fun k => k = b1) := Kept.of_grown hg' (Kept.refl _ _) (fun k e => .inl (by injection e with e; exact e.symm))
  exact ⟨⟨blk_kept hb hk (fun e => hn.1 e.symm), fun k hk' => Nat.lt_of_lt_of_le (hL k hk') hk.1, hg, h1, h2, hn, hG', TM_kept hT hk (fun e => hn.2.2 e.symm), Kd.R_kept hr hk (fun k hk => hk.2.2.1)⟩, hk⟩
end

theorem cellA0 {W : World} {g : Nat} {a b c d e : Value} (h : W.heap[g]? = some (.cells #[a, b, c, d, e] 57 (0, 0))) : W.cell? ⟨g, 0, none⟩ = some a := (blk_cell h 0).trans rfl
theorem cellA1 {W : World} {g : Nat} {a b c d e : Value} (h : W.heap[g]? = some (.cells #[a, b, c, d, e] 57 (0, 0))) : W.cell? ⟨g, 1, none⟩ = some b := (blk_cell h 1).trans rfl
theorem cellA2 {W : World} {g : Nat} {a b c d e : Value} (h : W.heap[g]? = some (.cells #[a, b, c, d, e] 57 (0, 0))) : W.cell? ⟨g, 2, none⟩ = some c := (blk_cell h 2).trans rfl
theorem cellA3 {W : World} {g : Nat} {a b c d e : Value} (h : W.heap[g]? = some (.cells #[a, b, c, d, e] 57 (0, 0))) : W.cell? ⟨g, 3, none⟩ = some d := (blk_cell h 3).trans rfl
theorem cellA4 {W : World} {g : Nat} {a b c d e : Value} (h : W.heap[g]? = some (.cells #[a, b, c, d, e] 57 (0, 0))) : W.cell? ⟨g, 4, none⟩ = some e := (blk_cell h 4).trans rfl

set_option maxHeartbeats 1000000 in
set_option maxRecDepth 100000 in
theorem room_ (g n : Nat) (s : Ar) (ok : Nat → Prop) (w0 w : World) (hI : IsA w0.heap.size ok w g n s) :
    Calls Try.prog 20 #[.pointer (some ⟨g, 0, none⟩)] w fun e w' => e = .returned (.int .i64 s.room) ∧ w' = w := by
  obtain ⟨b1, b2, A, c, hb, -⟩ := hI
  have hc0 := cellA0 hb
  clear hb
  go_enter Try.func20, Try.ntmps20
  go_wp2
  go_ret
  exact ⟨rfl, rfl⟩

set_option maxHeartbeats 1000000 in
set_option maxRecDepth 100000 in
theorem len (g n : Nat) (s : Ar) (ok : Nat → Prop) (w0 w : World) (hI : IsA w0.heap.size ok w g n s) :
    Calls Try.prog 12 #[.pointer (some ⟨g, 0, none⟩)] w fun e w' => e = .returned (.int .i64 (s.cnt : Nat)) ∧ w' = w := by
  obtain ⟨b1, b2, A, c, hb, hL, hg, h1, h2, hn, hG, hT, hr⟩ := hI
  have hc2 := cellA2 hb
  have hl := hT.len 3
  clear hb hL hg h1 h2 hn hG hT hr
  go_enter Try.func12, Try.ntmps12
  go_wp2
  go_ret
  exact ⟨rfl, rfl⟩

theorem mk_map (t : TypeId) : ∀ w : World, (Instr.makeMap t none).run Try.prog w = .ok (.map (some w.heap.size)) (w.alloc (.map #[] 0)) := fun _ => rfl

set_option maxHeartbeats 2000000 in
set_option maxRecDepth 100000 in
theorem new_bad (room : Int) (w : World) (h : room < 0 ∨ 1048576 < room) :
    Calls Try.prog 8 #[.int .i64 room] w fun e w' => e = .returned (.tuple #[.pointer none, .int .i64 2]) ∧ w' = w := by
  by_cases h1 : room < 0
  · go_enter Try.func8, Try.ntmps8
    go_wp2
    refine bodyPost_ret (results_tmp2 rfl _ _ _) rfl ?_
    exact ⟨rfl, rfl⟩
  · have h2 : 1048576 < room := by omega
    go_enter Try.func8, Try.ntmps8
    go_wp2
    refine bodyPost_ret (results_tmp2 rfl _ _ _) rfl ?_
    exact ⟨rfl, rfl⟩

set_option maxHeartbeats 2000000 in
set_option maxRecDepth 100000 in
theorem new_ok (room : Int) (w : World) (h1 : ¬ room < 0) (h2 : ¬ 1048576 < room) :
    Calls Try.prog 8 #[.int .i64 room] w fun e w' => e = .returned (.tuple #[.pointer (some ⟨w.heap.size + 2, 0, none⟩), .int .i64 0]) ∧ IsA w.heap.size (fun k => w.heap.size ≤ k ∧ k ≤ w.heap.size + 2) w' (w.heap.size + 2) 0 ⟨room, fun _ => 0, fun _ => false, 0, [], 0⟩ ∧ Below w.heap.size w w' := by
  have m1 := mk_map 55
  have m2 := mk_map 40
  go_enter Try.func8, Try.ntmps8
  go_wp2
  refine bodyPost_ret (results_tmp2 rfl _ _ _) rfl ?_
  refine ⟨rfl, ⟨w.heap.size, w.heap.size + 1, none, 0, ?_, fun k hk => by (have := hk.2; simp; omega), ⟨by omega, by omega, by omega⟩, ⟨by omega, by omega, by omega⟩, ⟨by omega, by omega, by omega⟩, ⟨by omega, by omega, by omega⟩, ?_, ?_, Kd.R_nil _ _ _ _ _⟩, below_alloc (below_alloc (below_alloc (Below.refl _ _) _) _) _⟩
  · simpa using heap_alloc_new ((w.alloc (.map #[] 0)).alloc (.map #[] 0)) _
  · exact (GM.below (GM.below (AMap.GM.made w) (below_alloc (Below.refl _ _) _)) (below_alloc (Below.refl _ _) _))
  · exact by simpa using TM.below (AMap.TM.made (w.alloc (.map #[] 0))) (below_alloc (Below.refl _ _) _)

set_option maxHeartbeats 2000000 in
set_option maxRecDepth 100000 in
theorem live (g n : Nat) (s : Ar) (k v : Int) (hk : Wf k) (ok : Nat → Prop) (w0 w : World) (hI : IsA w0.heap.size ok w g n s) :
    Calls Try.prog 11 #[.pointer (some ⟨g, 0, none⟩), .agg #[.int .i64 k, .int .i64 v]] w fun e w' => e = .returned (.bool (s.taken k && decide (s.gens k = v))) ∧ Below w.heap.size w w' := by
  have HB0 := Aside0.mk (below_alloc (Below.refl w.heap.size w) (.cells #[.int .i64 k, .int .i64 v] 30))
  have HI := Aside0.mk (hI.below HB0.out)
  clear hI
  obtain ⟨b1, b2, A, c, hb, hL, hg, h1, h2, hn, hG, hT, hr⟩ := HI.out
  have hc1 := cellA1 hb
  have hc2 := cellA2 hb
  have hl1 := fun m => AMap.GM.look (W := (w.alloc (.cells #[.int .i64 k, .int .i64 v] 30)).drewN m) (hG.at rfl) hk
  have hl2 := fun m => AMap.TM.look (W := (w.alloc (.cells #[.int .i64 k, .int .i64 v] 30)).drewN m) (hT.at rfl) hk
  clear hb hL hg h1 h2 hn hG hT hr
  by_cases ht : s.taken k = true
  · rw [ht] at hl2
    rw [ht]
    go_enter Try.func11, Try.ntmps11
    go_wp2_with (fail)
    go_quiet (fail)
    go_wp2
    go_ret
    exact ⟨by first | (simp; done) | (simp; rfl), by first | exact HB0.out | exact pw_below_drewN HB0.out _ | exact below_drew1 HB0.out⟩
  · have ht : s.taken k = false := by simpa using ht
    rw [ht] at hl2
    rw [ht]
    go_enter Try.func11, Try.ntmps11
    go_wp2_with (fail)
    go_quiet (fail)
    go_wp2
    go_ret
    exact ⟨by first | (simp; done) | (simp; rfl), by first | exact HB0.out | exact pw_below_drewN HB0.out _ | exact below_drew1 HB0.out⟩

theorem res2 {fn : Func} {p u : Tmp} (h : fn.results = #[.cell p 30, .tmp u]) (tmps : Array Value) (w : World) (g : Nat) (t : TypeId) (a b e : Int)
    (hp : tmps.getD p undef = .pointer (some ⟨g, 0, none⟩)) (hu : tmps.getD u undef = .int .i64 e) (hg : w.heap[g]? = some (.cells #[.int .i64 a, .int .i64 b] t (0, 0))) :
    (results fn tmps).run Try.prog w = .ok (.tuple #[.agg #[.int .i64 a, .int .i64 b], .int .i64 e]) w := by
  have hi : (Try.prog.info? 30).map (·.size) = some 2 := by kernel_rfl
  rw [results_cell_tmp h, hp, hu]
  simp [asAddr, run_loadVar_row w g t 30 _ (0, 0) _ hg Try.underlying30 rfl hi, Result.andThen]

/-- What Take puts on a slot. -/
def tk (s : Ar) (k : Int) : Ar := { s with taken := up s.taken k true, cnt := if s.taken k then s.cnt else s.cnt + 1 }
abbrev R30 (a b e : Int) : Ending := .returned (.tuple #[.agg #[.int .i64 a, .int .i64 b], .int .i64 e])

set_option maxHeartbeats 2000000 in
set_option maxRecDepth 100000 in
theorem take_full (g n : Nat) (s : Ar) (ok : Nat → Prop) (w0 w : World) (hI : IsA w0.heap.size ok w g n s) (hf : s.free = []) (hr : s.fresh = s.room) :
    Calls Try.prog 9 #[.pointer (some ⟨g, 0, none⟩)] w fun e w' => e = R30 0 0 50 ∧ Below w.heap.size w w' := by
  have HB0 := Aside0.mk (below_alloc (Below.refl w.heap.size w) (.cells #[.int .i64 0, .int .i64 0] 30))
  have HI := Aside0.mk (hI.below HB0.out)
  clear hI
  obtain ⟨b1, b2, A, c, hb, -⟩ := HI.out
  rw [hf, ← hr] at hb
  have hc0 := cellA0 hb
  have hc3 := cellA3 hb
  have hc4 := cellA4 hb
  clear hb HI hf hr
  go_enter Try.func9, Try.ntmps9
  go_wp2_with (fail)
  refine bodyPost_ret (res2 rfl _ _ w.heap.size 30 0 0 50 rfl rfl ?_) rfl ⟨rfl, HB0.out⟩
  simpa using heap_alloc_new w _

set_option maxHeartbeats 2000000 in
set_option maxRecDepth 100000 in
theorem take_fresh (g n : Nat) (s : Ar) (ok : Nat → Prop) (w0 w : World) (hI : IsA w0.heap.size ok w g n s) (hB : Below w0.heap.size w0 w) (hf : s.free = []) (hr : s.fresh ≠ s.room) (h0 : 0 ≤ s.fresh) (h1 : s.fresh < 1000000000) (hc : s.cnt < 1000000000) :
    Calls Try.prog 9 #[.pointer (some ⟨g, 0, none⟩)] w fun e w' => e = R30 s.fresh (s.gens s.fresh) 0 ∧ IsA w0.heap.size ok w' g n (tk { s with fresh := s.fresh + 1 } s.fresh) ∧ Below w0.heap.size w0 w' ∧ Kept w w' ok := by
  have HB0 := Aside0.mk (below_alloc (Below.refl w.heap.size w) (.cells #[.int .i64 0, .int .i64 0] 30))
  have hsz := hB.size
  have HB := Aside0.mk (below_step hB HB0.out)
  clear hB
  obtain ⟨b1, b2, A, c, hI0⟩ := hI
  have hL := hI0.2.1
  have hog := hI0.2.2.1
  have ho2 := hI0.2.2.2.2.1
  have hnG : ¬ ok w.heap.size := fun h => Nat.lt_irrefl _ (hL _ h)
  have hI1 := hI0.below HB0.out
  have hb := hI1.1
  have hI2 := hI1.set_fresh (s.fresh + 1)
  have hcf := hI2.2.2.2.2.2.2.2.1
  obtain ⟨w2, hrun, hT', hgr⟩ := hcf.put hc (k := s.fresh) (AMap.wf_of (by omega) (by omega))
  have ⟨hI3, hk3⟩ := hI2.put2 hgr hT'
  have hb3 := hI3.1
  have hlk := hI3.2.2.2.2.2.2.1.look (k := s.fresh) (AMap.wf_of (by omega) (by omega))
  rw [hf] at hb hb3
  have hc0 := cellA0 hb
  have hc2 := cellA2 hI2.1
  have hc3 := cellA3 hb
  have hc4 := cellA4 hb
  have hf4 := blk_frozen hb 4
  have hd1 := cellA1 hb3
  have hg2 : w2.heap[w.heap.size]? = some (.cells #[.int .i64 0, .int .i64 0] 30 (0, 0)) :=
    blk_kept ((Below.heap_setCell _ _ _ _ (fun e => hnG (by rw [e]; exact hog.2))).trans (heap_alloc_new w _)) hk3 (fun e => hnG (by rw [e]; exact ho2.2))
  have hz0 := blk_frozen hg2 0
  have hz1 := blk_frozen hg2 1
  have hy0 : w2.cell? ⟨w.heap.size, 0, none⟩ = some (.int .i64 0) := (blk_cell hg2 0).trans rfl
  have hy1 : w2.cell? ⟨w.heap.size, 1, none⟩ = some (.int .i64 0) := (blk_cell hg2 1).trans rfl
  have HI := Aside0.mk (IsA.far (IsA.far ⟨b1, b2, A, c, hI3⟩ (p := ⟨w.heap.size, 0, none⟩) hnG (.int .i64 s.fresh)) (p := ⟨w.heap.size, 1, none⟩) hnG (.int .i64 (s.gens s.fresh)))
  have HK := Aside0.mk ((((((Kept.refl w ok).alloc (.cells #[.int .i64 0, .int .i64 0] 30)).setCell (p := ⟨g, 4, none⟩) (.inl hog.2) (.int .i64 (s.fresh + 1))).then_ hk3 (fun k e => .inl (by subst e; exact ho2.2))).setCell (p := ⟨w.heap.size, 0, none⟩) (.inr (Nat.le_refl _)) (.int .i64 s.fresh)).setCell (p := ⟨w.heap.size, 1, none⟩) (.inr (Nat.le_refl _)) (.int .i64 (s.gens s.fresh)))
  have HB2 := Aside0.mk (below_set (j := 1) (v := .int .i64 (s.gens s.fresh)) (below_set (j := 0) (v := .int .i64 s.fresh) ((below_set (j := 4) (v := .int .i64 (s.fresh + 1)) HB.out hog.1).grown hgr (by simp; omega) (fun k e => by injection e with e; subst e; exact ho2.1)) hsz) hsz)
  have HR := Aside0.mk (blk_set (blk_set hg2 0 (.int .i64 s.fresh)) 1 (.int .i64 (s.gens s.fresh)))
  clear hb hb3 hI0 hI1 hI2 hI3 hcf hT' hgr hk3 HB hg2
  clear hL hog ho2 hnG hsz HB0 hf
  go_enter Try.func9, Try.ntmps9
  go_wp2_with (fail)
  refine bodyPost_ret (res2 rfl _ _ w.heap.size 30 s.fresh (s.gens s.fresh) 0 rfl rfl ?_) rfl ⟨rfl, HI.out, HB2.out, HK.out⟩
  simpa using HR.out

theorem info3 : (Try.prog.info? 3).map (·.size) = some 1 := by kernel_rfl
theorem info3' : ∃ i, Try.prog.info? 3 = some i ∧ i.size = 1 := by
  obtain ⟨i, hi, hz⟩ := Option.map_eq_some_iff.1 info3
  exact ⟨i, hi, hz⟩

set_option maxHeartbeats 2000000 in
set_option maxRecDepth 100000 in
theorem take_free (g n : Nat) (s : Ar) (ok : Nat → Prop) (w0 w : World) (hI : IsA w0.heap.size ok w g n s) (hB : Below w0.heap.size w0 w) (xs : List Int) (x : Int) (hf : s.free = xs ++ [x]) (hx : Wf x) (hm : xs.length < 1000000000) (hc : s.cnt < 1000000000) :
    Calls Try.prog 9 #[.pointer (some ⟨g, 0, none⟩)] w fun e w' => e = R30 x (s.gens x) 0 ∧ IsA w0.heap.size ok w' g n (tk { s with free := xs } x) ∧ Below w0.heap.size w0 w' ∧ Kept w w' ok := by
  have HB0 := Aside0.mk (below_alloc (Below.refl w.heap.size w) (.cells #[.int .i64 0, .int .i64 0] 30))
  have hsz := hB.size
  have HB := Aside0.mk (below_step hB HB0.out)
  clear hB
  obtain ⟨b1, b2, A, c, hI0⟩ := hI
  have hL := hI0.2.1
  have hog := hI0.2.2.1
  have ho2 := hI0.2.2.2.2.1
  have hnG : ¬ ok w.heap.size := fun h => Nat.lt_irrefl _ (hL _ h)
  have hI1 := hI0.below HB0.out
  have hb := hI1.1
  have hI2 := hI1.set_row (m := xs.length) (by rw [hf]; simp)
  have hft : s.free.take xs.length = xs := by rw [hf]; simp
  rw [hft] at hI2
  obtain ⟨-, hcap, hC⟩ := Kd.R_reads' hI1.2.2.2.2.2.2.2.2
  have hln : s.free.length = xs.length + 1 := by rw [hf]; simp
  obtain ⟨i3, hi3, hsz3⟩ := info3'
  have hcut := cut_to (P := Try.prog) 22 3 .i64 Try.underlying22 hi3 A (xs.length + 1) c (xs.length : Int) (by omega) (by omega) (by omega)
  obtain ⟨ad, hA, hcell⟩ := Kd.at_int hC (xs.length : Int) (by omega) (by omega)
  have hrd : rd s.free (xs.length : Int) = x := by rw [hf]; simp [rd]
  rw [hrd] at hcell
  subst hA
  simp only [Int.toNat_natCast] at hcut hcell
  clear hrd hi3 hsz3
  have hcf := hI2.2.2.2.2.2.2.2.1
  obtain ⟨w2, hrun, hT', hgr⟩ := hcf.put hc (k := x) hx
  have ⟨hI3, hk3⟩ := hI2.put2 hgr hT'
  have hb3 := hI3.1
  have hlk := hI3.2.2.2.2.2.2.1.look (k := x) hx
  rw [hln] at hb
  have hc2 := cellA2 hI2.1
  have hc3 := cellA3 hb
  have hc4 := cellA4 hb
  have hf3 := blk_frozen hb 3
  have hd1 := cellA1 hb3
  have hg2 : w2.heap[w.heap.size]? = some (.cells #[.int .i64 0, .int .i64 0] 30 (0, 0)) :=
    blk_kept ((Below.heap_setCell _ _ _ _ (fun e => hnG (by rw [e]; exact hog.2))).trans (heap_alloc_new w _)) hk3 (fun e => hnG (by rw [e]; exact ho2.2))
  have hz0 := blk_frozen hg2 0
  have hz1 := blk_frozen hg2 1
  have hy0 : w2.cell? ⟨w.heap.size, 0, none⟩ = some (.int .i64 0) := (blk_cell hg2 0).trans rfl
  have hy1 : w2.cell? ⟨w.heap.size, 1, none⟩ = some (.int .i64 0) := (blk_cell hg2 1).trans rfl
  have HI := Aside0.mk (IsA.far (IsA.far ⟨b1, b2, some ad, c, hI3⟩ (p := ⟨w.heap.size, 0, none⟩) hnG (.int .i64 x)) (p := ⟨w.heap.size, 1, none⟩) hnG (.int .i64 (s.gens x)))
  have HK := Aside0.mk ((((((Kept.refl w ok).alloc (.cells #[.int .i64 0, .int .i64 0] 30)).setCell (p := ⟨g, 3, none⟩) (.inl hog.2) (.slice (some ad) xs.length c)).then_ hk3 (fun k e => .inl (by subst e; exact ho2.2))).setCell (p := ⟨w.heap.size, 0, none⟩) (.inr (Nat.le_refl _)) (.int .i64 x)).setCell (p := ⟨w.heap.size, 1, none⟩) (.inr (Nat.le_refl _)) (.int .i64 (s.gens x)))
  have HB2 := Aside0.mk (below_set (j := 1) (v := .int .i64 (s.gens x)) (below_set (j := 0) (v := .int .i64 x) ((below_set (j := 3) (v := .slice (some ad) xs.length c) HB.out hog.1).grown hgr (by simp; omega) (fun k e => by injection e with e; subst e; exact ho2.1)) hsz) hsz)
  have HR := Aside0.mk (blk_set (blk_set hg2 0 (.int .i64 x)) 1 (.int .i64 (s.gens x)))
  clear hC hcap hf hft hb hb3 hI0 hI1 hI2 hI3 hcf hT' hgr hk3 HB hg2
  clear hL hog ho2 hnG hsz HB0
  go_enter Try.func9, Try.ntmps9
  go_wp2_with (fail)
  refine bodyPost_ret (res2 rfl _ _ w.heap.size 30 x (s.gens x) 0 rfl rfl ?_) rfl ⟨rfl, HI.out, HB2.out, HK.out⟩
  simpa using HR.out

end Go.Proofs.Ytlmeeafppigphaa.Arena
