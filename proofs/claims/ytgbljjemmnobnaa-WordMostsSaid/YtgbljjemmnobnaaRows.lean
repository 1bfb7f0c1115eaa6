/-
  No cell of these rows narrows 'for every input' (looked for: loops, veiled, ifaces, maps, wideKeys, modest, calm, conditions, laid).
  DERIVED. THE GIVEN ROWS OF THIS SEAT. 6 by the template 'for every input the law returns true; each argument reads behind the call as it read before'; 0 by the template 'total and deterministic' (their statements: YtgbljjemmnobnaaTotals.lean).
  GIVEN WITH THE SEED: the statements are not yours to turn. If you find one false, say at which input.
  Laid BY PROGRAM, IN A SANDBOX (cutbox-rows.mjs): the forced cells as the released guide's own fill.sh prints them over the translation 4d30c0ea915b819b… (all of the seat's roots in one cut). By AI agents, Wed Nov 11 2026. No macro, syntax, notation, axiom, sorry.
-/
import Derived.Test.YtgbljjemmnobnaaChecked
import GoSem.Claim
import GoSem.ClaimJoined
import GoSem.ClaimMapViews
import Derived.JoinedTies
import Derived.KernelRfl
namespace Go.Proofs.Ytgbljjemmnobnaa
/- THE CELL 'sum', in the pinned program and in every row, IS THE sha256 OF THE DUMP (.gsa) THAT YtgbljjemmnobnaaProg.lean LOADS. Nothing in Lean hashes anything: it is a label: what it is worth is what the hold of that sum in a sandbox is worth. -/
noncomputable def Try.pinned : Pinned := { name := "ytgbljjemmnobnaa", sum := "4d30c0ea915b819b44893efd4790651cfec47a6279b1eb225d259c89398ed232", checked := Try.checked }
namespace Rows
def none {H : Type} : Left H := { results := [], args := [] }

/-- 'cobweblaw04.WordOrders': WHATEVER THE INPUT: true; the input reads as it did. -/
def wordOrdersSpec : ChangeSpec := { name := "wordOrders", fn := fun _ => fun
  | [d1, d2] => { results := [.lit (.bool true)], args := [d1, d2] }
  | _ => none }
def wordOrdersRow : OpenClaim := { program := "ytgbljjemmnobnaa", sum := "4d30c0ea915b819b44893efd4790651cfec47a6279b1eb225d259c89398ed232", func := "cobweb/cobweblaw04.WordOrders", spec := "wordOrders", apart := false }
def WordOrdersSaid : Prop := wordOrdersRow.holds Try.pinned (OpenSpec.ofChange wordOrdersSpec)

/-- ITS FALSE NEIGHBOUR: 'it returns false'. Refute it at one input. -/
def wordOrdersWrong : ChangeSpec := { name := "wordOrders", fn := fun _ => fun
  | [d1, d2] => { results := [.lit (.bool false)], args := [d1, d2] }
  | _ => none }
def WordOrdersWrongFalsely : Prop := wordOrdersRow.holds Try.pinned (OpenSpec.ofChange wordOrdersWrong)

/-- 'cobweblaw04.WordLocks': WHATEVER THE INPUT: true; the input reads as it did. -/
def wordLocksSpec : ChangeSpec := { name := "wordLocks", fn := fun _ => fun
  | [d1, d2] => { results := [.lit (.bool true)], args := [d1, d2] }
  | _ => none }
def wordLocksRow : OpenClaim := { program := "ytgbljjemmnobnaa", sum := "4d30c0ea915b819b44893efd4790651cfec47a6279b1eb225d259c89398ed232", func := "cobweb/cobweblaw04.WordLocks", spec := "wordLocks", apart := false }
def WordLocksSaid : Prop := wordLocksRow.holds Try.pinned (OpenSpec.ofChange wordLocksSpec)

/-- ITS FALSE NEIGHBOUR: 'it returns false'. Refute it at one input. -/
def wordLocksWrong : ChangeSpec := { name := "wordLocks", fn := fun _ => fun
  | [d1, d2] => { results := [.lit (.bool false)], args := [d1, d2] }
  | _ => none }
def WordLocksWrongFalsely : Prop := wordLocksRow.holds Try.pinned (OpenSpec.ofChange wordLocksWrong)

/-- 'cobweblaw04.WordPacks': WHATEVER THE INPUT: true; the input reads as it did. -/
def wordPacksSpec : ChangeSpec := { name := "wordPacks", fn := fun _ => fun
  | [d1, d2] => { results := [.lit (.bool true)], args := [d1, d2] }
  | _ => none }
def wordPacksRow : OpenClaim := { program := "ytgbljjemmnobnaa", sum := "4d30c0ea915b819b44893efd4790651cfec47a6279b1eb225d259c89398ed232", func := "cobweb/cobweblaw04.WordPacks", spec := "wordPacks", apart := false }
def WordPacksSaid : Prop := wordPacksRow.holds Try.pinned (OpenSpec.ofChange wordPacksSpec)

/-- ITS FALSE NEIGHBOUR: 'it returns false'. Refute it at one input. -/
def wordPacksWrong : ChangeSpec := { name := "wordPacks", fn := fun _ => fun
  | [d1, d2] => { results := [.lit (.bool false)], args := [d1, d2] }
  | _ => none }
def WordPacksWrongFalsely : Prop := wordPacksRow.holds Try.pinned (OpenSpec.ofChange wordPacksWrong)

/-- 'cobweblaw04.WordRuns': WHATEVER THE INPUT: true; the input reads as it did. -/
def wordRunsSpec : ChangeSpec := { name := "wordRuns", fn := fun _ => fun
  | [d1, d2] => { results := [.lit (.bool true)], args := [d1, d2] }
  | _ => none }
def wordRunsRow : OpenClaim := { program := "ytgbljjemmnobnaa", sum := "4d30c0ea915b819b44893efd4790651cfec47a6279b1eb225d259c89398ed232", func := "cobweb/cobweblaw04.WordRuns", spec := "wordRuns", apart := false }
def WordRunsSaid : Prop := wordRunsRow.holds Try.pinned (OpenSpec.ofChange wordRunsSpec)

/-- ITS FALSE NEIGHBOUR: 'it returns false'. Refute it at one input. -/
def wordRunsWrong : ChangeSpec := { name := "wordRuns", fn := fun _ => fun
  | [d1, d2] => { results := [.lit (.bool false)], args := [d1, d2] }
  | _ => none }
def WordRunsWrongFalsely : Prop := wordRunsRow.holds Try.pinned (OpenSpec.ofChange wordRunsWrong)

/-- 'cobweblaw04.WordMosts': WHATEVER THE INPUT: true; the input reads as it did. -/
def wordMostsSpec : ChangeSpec := { name := "wordMosts", fn := fun _ => fun
  | [d1, d2, d3] => { results := [.lit (.bool true)], args := [d1, d2, d3] }
  | _ => none }
def wordMostsRow : OpenClaim := { program := "ytgbljjemmnobnaa", sum := "4d30c0ea915b819b44893efd4790651cfec47a6279b1eb225d259c89398ed232", func := "cobweb/cobweblaw04.WordMosts", spec := "wordMosts", apart := false }
def WordMostsSaid : Prop := wordMostsRow.holds Try.pinned (OpenSpec.ofChange wordMostsSpec)

/-- ITS FALSE NEIGHBOUR: 'it returns false'. Refute it at one input. -/
def wordMostsWrong : ChangeSpec := { name := "wordMosts", fn := fun _ => fun
  | [d1, d2, d3] => { results := [.lit (.bool false)], args := [d1, d2, d3] }
  | _ => none }
def WordMostsWrongFalsely : Prop := wordMostsRow.holds Try.pinned (OpenSpec.ofChange wordMostsWrong)

/-- 'cobweblaw04.WordNexts': WHATEVER THE INPUT: true; the input reads as it did. -/
def wordNextsSpec : ChangeSpec := { name := "wordNexts", fn := fun _ => fun
  | [d1, d2, d3] => { results := [.lit (.bool true)], args := [d1, d2, d3] }
  | _ => none }
def wordNextsRow : OpenClaim := { program := "ytgbljjemmnobnaa", sum := "4d30c0ea915b819b44893efd4790651cfec47a6279b1eb225d259c89398ed232", func := "cobweb/cobweblaw04.WordNexts", spec := "wordNexts", apart := false }
def WordNextsSaid : Prop := wordNextsRow.holds Try.pinned (OpenSpec.ofChange wordNextsSpec)

/-- ITS FALSE NEIGHBOUR: 'it returns false'. Refute it at one input. -/
def wordNextsWrong : ChangeSpec := { name := "wordNexts", fn := fun _ => fun
  | [d1, d2, d3] => { results := [.lit (.bool false)], args := [d1, d2, d3] }
  | _ => none }
def WordNextsWrongFalsely : Prop := wordNextsRow.holds Try.pinned (OpenSpec.ofChange wordNextsWrong)

/- THE SECOND FORM. 'bulk': how many values and letters a reading holds, each counted each time it is reached (what is shared counts as often as it is met; a slice's spare places count too). A statement '..UptoSaid' is the law's where the arguments, and the package variables that the reading takes, are together of bulk at most 1048576: NARROWER than '..Said'. Prove '..Said' where nothing that the law and all that it calls make is longer than what came in: it says more and counts as full. Else prove '..UptoSaid'. A law counts once. -/
mutual
def uptoBulk {H : Type} : DataW H → Nat
  | .lit (.string bytes) => bytes.length + 1
  | .lit _ => 1
  | .nil => 1
  | .ptr d => uptoBulk d + 1
  | .slice elems spare => uptoBulkAll elems + uptoBulkAll spare + 1
  | .agg parts => uptoBulkAll parts + 1
  | .iface _ d => uptoBulk d + 1
  | .map entries => uptoBulkEntries entries + 1
  | .held _ => 1
def uptoBulkAll {H : Type} : List (DataW H) → Nat
  | [] => 0
  | d :: r => uptoBulk d + uptoBulkAll r
def uptoBulkEntries {H : Type} : List (Lit × DataW H) → Nat
  | [] => 0
  | x :: r => uptoBulkEntry x + uptoBulkEntries r
def uptoBulkEntry {H : Type} : Lit × DataW H → Nat
  | (.string bytes, d) => bytes.length + uptoBulk d + 1
  | (_, d) => uptoBulk d + 1
 end
def uptoSmall : (H : Type) → List (DataW H) → Bool := fun _ ds => decide (uptoBulkAll ds ≤ 1048576)
def OpenSpec.upto (s : _root_.Go.ChangeSpec) : _root_.Go.OpenSpec := { _root_.Go.OpenSpec.ofChange s with cond := some uptoSmall }

/-- 'cobweblaw04.WordOrders', WHERE WHAT IT READS IS OF BULK AT MOST 1048576: true; the input reads as it did. -/
def wordOrdersUptoRow : OpenClaim := { program := "ytgbljjemmnobnaa", sum := "4d30c0ea915b819b44893efd4790651cfec47a6279b1eb225d259c89398ed232", func := "cobweb/cobweblaw04.WordOrders", spec := "wordOrders", apart := false, narrowed := true }
def WordOrdersUptoSaid : Prop := wordOrdersUptoRow.holds Try.pinned (OpenSpec.upto wordOrdersSpec)

/-- 'cobweblaw04.WordLocks', WHERE WHAT IT READS IS OF BULK AT MOST 1048576: true; the input reads as it did. -/
def wordLocksUptoRow : OpenClaim := { program := "ytgbljjemmnobnaa", sum := "4d30c0ea915b819b44893efd4790651cfec47a6279b1eb225d259c89398ed232", func := "cobweb/cobweblaw04.WordLocks", spec := "wordLocks", apart := false, narrowed := true }
def WordLocksUptoSaid : Prop := wordLocksUptoRow.holds Try.pinned (OpenSpec.upto wordLocksSpec)

/-- 'cobweblaw04.WordPacks', WHERE WHAT IT READS IS OF BULK AT MOST 1048576: true; the input reads as it did. -/
def wordPacksUptoRow : OpenClaim := { program := "ytgbljjemmnobnaa", sum := "4d30c0ea915b819b44893efd4790651cfec47a6279b1eb225d259c89398ed232", func := "cobweb/cobweblaw04.WordPacks", spec := "wordPacks", apart := false, narrowed := true }
def WordPacksUptoSaid : Prop := wordPacksUptoRow.holds Try.pinned (OpenSpec.upto wordPacksSpec)

/-- 'cobweblaw04.WordRuns', WHERE WHAT IT READS IS OF BULK AT MOST 1048576: true; the input reads as it did. -/
def wordRunsUptoRow : OpenClaim := { program := "ytgbljjemmnobnaa", sum := "4d30c0ea915b819b44893efd4790651cfec47a6279b1eb225d259c89398ed232", func := "cobweb/cobweblaw04.WordRuns", spec := "wordRuns", apart := false, narrowed := true }
def WordRunsUptoSaid : Prop := wordRunsUptoRow.holds Try.pinned (OpenSpec.upto wordRunsSpec)

/-- 'cobweblaw04.WordMosts', WHERE WHAT IT READS IS OF BULK AT MOST 1048576: true; the input reads as it did. -/
def wordMostsUptoRow : OpenClaim := { program := "ytgbljjemmnobnaa", sum := "4d30c0ea915b819b44893efd4790651cfec47a6279b1eb225d259c89398ed232", func := "cobweb/cobweblaw04.WordMosts", spec := "wordMosts", apart := false, narrowed := true }
def WordMostsUptoSaid : Prop := wordMostsUptoRow.holds Try.pinned (OpenSpec.upto wordMostsSpec)

/-- 'cobweblaw04.WordNexts', WHERE WHAT IT READS IS OF BULK AT MOST 1048576: true; the input reads as it did. -/
def wordNextsUptoRow : OpenClaim := { program := "ytgbljjemmnobnaa", sum := "4d30c0ea915b819b44893efd4790651cfec47a6279b1eb225d259c89398ed232", func := "cobweb/cobweblaw04.WordNexts", spec := "wordNexts", apart := false, narrowed := true }
def WordNextsUptoSaid : Prop := wordNextsUptoRow.holds Try.pinned (OpenSpec.upto wordNextsSpec)

end Rows
end Go.Proofs.Ytgbljjemmnobnaa
