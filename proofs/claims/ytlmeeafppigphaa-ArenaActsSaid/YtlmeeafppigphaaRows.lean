/-
  No cell of these rows narrows 'for every input' (looked for: loops, veiled, ifaces, maps, wideKeys, modest, calm, conditions, laid).
  DERIVED. THE GIVEN ROWS OF THIS SEAT. 4 by the template 'for every input the law returns true; each argument reads behind the call as it read before'; 0 by the template 'total and deterministic' (their statements: YtlmeeafppigphaaTotals.lean).
  GIVEN WITH THE SEED: the statements are not yours to turn. If you find one false, say at which input.
  Laid BY PROGRAM, IN A SANDBOX (cutbox-rows.mjs): the forced cells as the released guide's own fill.sh prints them over the translation 03a137010e7d5f73… (all of the seat's roots in one cut). By AI agents, Wed Nov 11 2026. No macro, syntax, notation, axiom, sorry.
-/
import Derived.Test.YtlmeeafppigphaaChecked
import GoSem.Claim
import GoSem.ClaimJoined
import GoSem.ClaimMapViews
import Derived.JoinedTies
import Derived.KernelRfl
namespace Go.Proofs.Ytlmeeafppigphaa
/- THE CELL 'sum', in the pinned program and in every row, IS THE sha256 OF THE DUMP (.gsa) THAT YtlmeeafppigphaaProg.lean LOADS. Nothing in Lean hashes anything: it is a label: what it is worth is what the hold of that sum in a sandbox is worth. -/
noncomputable def Try.pinned : Pinned := { name := "ytlmeeafppigphaa", sum := "03a137010e7d5f73a4526a36dd1149bba9aff8b8f8c6564667f3e7b262f75ef4", checked := Try.checked }
namespace Rows
def none {H : Type} : Left H := { results := [], args := [] }

/-- 'cobweblaw05.ArenaOnce': WHATEVER THE INPUT: true; the input reads as it did. -/
def arenaOnceSpec : ChangeSpec := { name := "arenaOnce", fn := fun _ => fun
  | [d1, d2] => { results := [.lit (.bool true)], args := [d1, d2] }
  | _ => none }
def arenaOnceRow : OpenClaim := { program := "ytlmeeafppigphaa", sum := "03a137010e7d5f73a4526a36dd1149bba9aff8b8f8c6564667f3e7b262f75ef4", func := "cobweb/cobweblaw05.ArenaOnce", spec := "arenaOnce", apart := false }
def ArenaOnceSaid : Prop := arenaOnceRow.holds Try.pinned (OpenSpec.ofChange arenaOnceSpec)

/-- ITS FALSE NEIGHBOUR: 'it returns false'. Refute it at one input. -/
def arenaOnceWrong : ChangeSpec := { name := "arenaOnce", fn := fun _ => fun
  | [d1, d2] => { results := [.lit (.bool false)], args := [d1, d2] }
  | _ => none }
def ArenaOnceWrongFalsely : Prop := arenaOnceRow.holds Try.pinned (OpenSpec.ofChange arenaOnceWrong)

/-- 'cobweblaw05.ArenaMany': WHATEVER THE INPUT: true; the input reads as it did. -/
def arenaManySpec : ChangeSpec := { name := "arenaMany", fn := fun _ => fun
  | [d1, d2, d3] => { results := [.lit (.bool true)], args := [d1, d2, d3] }
  | _ => none }
def arenaManyRow : OpenClaim := { program := "ytlmeeafppigphaa", sum := "03a137010e7d5f73a4526a36dd1149bba9aff8b8f8c6564667f3e7b262f75ef4", func := "cobweb/cobweblaw05.ArenaMany", spec := "arenaMany", apart := false }
def ArenaManySaid : Prop := arenaManyRow.holds Try.pinned (OpenSpec.ofChange arenaManySpec)

/-- ITS FALSE NEIGHBOUR: 'it returns false'. Refute it at one input. -/
def arenaManyWrong : ChangeSpec := { name := "arenaMany", fn := fun _ => fun
  | [d1, d2, d3] => { results := [.lit (.bool false)], args := [d1, d2, d3] }
  | _ => none }
def ArenaManyWrongFalsely : Prop := arenaManyRow.holds Try.pinned (OpenSpec.ofChange arenaManyWrong)

/-- 'cobweblaw05.ArenaTurns': WHATEVER THE INPUT: true; the input reads as it did. -/
def arenaTurnsSpec : ChangeSpec := { name := "arenaTurns", fn := fun _ => fun
  | [d1, d2] => { results := [.lit (.bool true)], args := [d1, d2] }
  | _ => none }
def arenaTurnsRow : OpenClaim := { program := "ytlmeeafppigphaa", sum := "03a137010e7d5f73a4526a36dd1149bba9aff8b8f8c6564667f3e7b262f75ef4", func := "cobweb/cobweblaw05.ArenaTurns", spec := "arenaTurns", apart := false }
def ArenaTurnsSaid : Prop := arenaTurnsRow.holds Try.pinned (OpenSpec.ofChange arenaTurnsSpec)

/-- ITS FALSE NEIGHBOUR: 'it returns false'. Refute it at one input. -/
def arenaTurnsWrong : ChangeSpec := { name := "arenaTurns", fn := fun _ => fun
  | [d1, d2] => { results := [.lit (.bool false)], args := [d1, d2] }
  | _ => none }
def ArenaTurnsWrongFalsely : Prop := arenaTurnsRow.holds Try.pinned (OpenSpec.ofChange arenaTurnsWrong)

/-- 'cobweblaw05.ArenaActs': WHATEVER THE INPUT: true; the input reads as it did. -/
def arenaActsSpec : ChangeSpec := { name := "arenaActs", fn := fun _ => fun
  | [d1, d2] => { results := [.lit (.bool true)], args := [d1, d2] }
  | _ => none }
def arenaActsRow : OpenClaim := { program := "ytlmeeafppigphaa", sum := "03a137010e7d5f73a4526a36dd1149bba9aff8b8f8c6564667f3e7b262f75ef4", func := "cobweb/cobweblaw05.ArenaActs", spec := "arenaActs", apart := false }
def ArenaActsSaid : Prop := arenaActsRow.holds Try.pinned (OpenSpec.ofChange arenaActsSpec)

/-- ITS FALSE NEIGHBOUR: 'it returns false'. Refute it at one input. -/
def arenaActsWrong : ChangeSpec := { name := "arenaActs", fn := fun _ => fun
  | [d1, d2] => { results := [.lit (.bool false)], args := [d1, d2] }
  | _ => none }
def ArenaActsWrongFalsely : Prop := arenaActsRow.holds Try.pinned (OpenSpec.ofChange arenaActsWrong)

/- THE SECOND FORM. 'bulk': how many values and letters a reading holds, each counted each time it is reached (what is shared counts as often as it is met; a slice's spare places count too). A statement '..UptoSaid' is the law's where the arguments, and the package variables that the reading takes, are together of bulk at most 1048576: NARROWER than '..Said'. Prove '..Said' where nothing that the law and all that it calls make is longer than what came in: it says more and counts as full. Else prove '..UptoSaid'. A law counts once. -/
mutual
def uptoBulk {H : Type} : DataW H → Nat
  | .lit (.string bytes) => bytes.length + 1
  | .lit _ => 1
  | .nil => 1
  | .ptr d => uptoBulk d + 1
  | .slice elems spare => uptoBulkAll elems + uptoBulkAll spare + 1
  | .agg parts => uptoBulkAll parts + 1
  | .iface _ d => uptoBulk d + 1
  | .map entries => uptoBulkEntries entries + 1
  | .held _ => 1
def uptoBulkAll {H : Type} : List (DataW H) → Nat
  | [] => 0
  | d :: r => uptoBulk d + uptoBulkAll r
def uptoBulkEntries {H : Type} : List (Lit × DataW H) → Nat
  | [] => 0
  | x :: r => uptoBulkEntry x + uptoBulkEntries r
def uptoBulkEntry {H : Type} : Lit × DataW H → Nat
  | (.string bytes, d) => bytes.length + uptoBulk d + 1
  | (_, d) => uptoBulk d + 1
 end
def uptoSmall : (H : Type) → List (DataW H) → Bool := fun _ ds => decide (uptoBulkAll ds ≤ 1048576)
def OpenSpec.upto (s : _root_.Go.ChangeSpec) : _root_.Go.OpenSpec := { _root_.Go.OpenSpec.ofChange s with cond := some uptoSmall }

/-- 'cobweblaw05.ArenaOnce', WHERE WHAT IT READS IS OF BULK AT MOST 1048576: true; the input reads as it did. -/
def arenaOnceUptoRow : OpenClaim := { program := "ytlmeeafppigphaa", sum := "03a137010e7d5f73a4526a36dd1149bba9aff8b8f8c6564667f3e7b262f75ef4", func := "cobweb/cobweblaw05.ArenaOnce", spec := "arenaOnce", apart := false, narrowed := true }
def ArenaOnceUptoSaid : Prop := arenaOnceUptoRow.holds Try.pinned (OpenSpec.upto arenaOnceSpec)

/-- 'cobweblaw05.ArenaMany', WHERE WHAT IT READS IS OF BULK AT MOST 1048576: true; the input reads as it did. -/
def arenaManyUptoRow : OpenClaim := { program := "ytlmeeafppigphaa", sum := "03a137010e7d5f73a4526a36dd1149bba9aff8b8f8c6564667f3e7b262f75ef4", func := "cobweb/cobweblaw05.ArenaMany", spec := "arenaMany", apart := false, narrowed := true }
def ArenaManyUptoSaid : Prop := arenaManyUptoRow.holds Try.pinned (OpenSpec.upto arenaManySpec)

/-- 'cobweblaw05.ArenaTurns', WHERE WHAT IT READS IS OF BULK AT MOST 1048576: true; the input reads as it did. -/
def arenaTurnsUptoRow : OpenClaim := { program := "ytlmeeafppigphaa", sum := "03a137010e7d5f73a4526a36dd1149bba9aff8b8f8c6564667f3e7b262f75ef4", func := "cobweb/cobweblaw05.ArenaTurns", spec := "arenaTurns", apart := false, narrowed := true }
def ArenaTurnsUptoSaid : Prop := arenaTurnsUptoRow.holds Try.pinned (OpenSpec.upto arenaTurnsSpec)

/-- 'cobweblaw05.ArenaActs', WHERE WHAT IT READS IS OF BULK AT MOST 1048576: true; the input reads as it did. -/
def arenaActsUptoRow : OpenClaim := { program := "ytlmeeafppigphaa", sum := "03a137010e7d5f73a4526a36dd1149bba9aff8b8f8c6564667f3e7b262f75ef4", func := "cobweb/cobweblaw05.ArenaActs", spec := "arenaActs", apart := false, narrowed := true }
def ArenaActsUptoSaid : Prop := arenaActsUptoRow.holds Try.pinned (OpenSpec.upto arenaActsSpec)

end Rows
end Go.Proofs.Ytlmeeafppigphaa
