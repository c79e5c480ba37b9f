/-
  No cell of these rows narrows 'for every input' (looked for: loops, veiled, ifaces, maps, wideKeys, modest, calm, conditions, laid).
  DERIVED. THE GIVEN ROWS OF THIS SEAT. 4 by the template 'for every input the law returns true; each argument reads behind the call as it read before'; 0 by the template 'total and deterministic' (their statements: YtahonoeiamjgbaaTotals.lean).
  GIVEN WITH THE SEED: the statements are not yours to turn. If you find one false, say at which input.
  Laid BY PROGRAM, IN A SANDBOX (cutbox-rows.mjs): the forced cells as the released guide's own fill.sh prints them over the translation b7e21a1e916bd518… (all of the seat's roots in one cut). By AI agents, Wed Nov 11 2026. No macro, syntax, notation, axiom, sorry.
-/
import Derived.Test.YtahonoeiamjgbaaChecked
import GoSem.Claim
import GoSem.ClaimJoined
import GoSem.ClaimMapViews
import Derived.JoinedTies
import Derived.KernelRfl
namespace Go.Proofs.Ytahonoeiamjgbaa
/- THE CELL 'sum', in the pinned program and in every row, IS THE sha256 OF THE DUMP (.gsa) THAT YtahonoeiamjgbaaProg.lean LOADS. Nothing in Lean hashes anything: it is a label: what it is worth is what the hold of that sum in a sandbox is worth. -/
noncomputable def Try.pinned : Pinned := { name := "ytahonoeiamjgbaa", sum := "b7e21a1e916bd518945fafd5c81f191acb2e76b54032cc14fe765031ee4df906", checked := Try.checked }
namespace Rows
def none {H : Type} : Left H := { results := [], args := [] }

/-- 'odysseylaw17.LedgerOnce': WHATEVER THE INPUT: true; the input reads as it did. -/
def ledgerOnceSpec : ChangeSpec := { name := "ledgerOnce", fn := fun _ => fun
  | [d1, d2, d3] => { results := [.lit (.bool true)], args := [d1, d2, d3] }
  | _ => none }
def ledgerOnceRow : OpenClaim := { program := "ytahonoeiamjgbaa", sum := "b7e21a1e916bd518945fafd5c81f191acb2e76b54032cc14fe765031ee4df906", func := "odyssey/odysseylaw17.LedgerOnce", spec := "ledgerOnce", unfollowed := true, recurses := true, plainKeys := false, apart := false }
def LedgerOnceSaid : Prop := ledgerOnceRow.holds Try.pinned (OpenSpec.ofChange ledgerOnceSpec)

/-- ITS FALSE NEIGHBOUR: 'it returns false'. Refute it at one input. -/
def ledgerOnceWrong : ChangeSpec := { name := "ledgerOnce", fn := fun _ => fun
  | [d1, d2, d3] => { results := [.lit (.bool false)], args := [d1, d2, d3] }
  | _ => none }
def LedgerOnceWrongFalsely : Prop := ledgerOnceRow.holds Try.pinned (OpenSpec.ofChange ledgerOnceWrong)

/-- 'odysseylaw17.LedgerKeys': WHATEVER THE INPUT: true; the input reads as it did. -/
def ledgerKeysSpec : ChangeSpec := { name := "ledgerKeys", fn := fun _ => fun
  | [d1, d2, d3] => { results := [.lit (.bool true)], args := [d1, d2, d3] }
  | _ => none }
def ledgerKeysRow : OpenClaim := { program := "ytahonoeiamjgbaa", sum := "b7e21a1e916bd518945fafd5c81f191acb2e76b54032cc14fe765031ee4df906", func := "odyssey/odysseylaw17.LedgerKeys", spec := "ledgerKeys", unfollowed := true, recurses := true, plainKeys := false, apart := false }
def LedgerKeysSaid : Prop := ledgerKeysRow.holds Try.pinned (OpenSpec.ofChange ledgerKeysSpec)

/-- ITS FALSE NEIGHBOUR: 'it returns false'. Refute it at one input. -/
def ledgerKeysWrong : ChangeSpec := { name := "ledgerKeys", fn := fun _ => fun
  | [d1, d2, d3] => { results := [.lit (.bool false)], args := [d1, d2, d3] }
  | _ => none }
def LedgerKeysWrongFalsely : Prop := ledgerKeysRow.holds Try.pinned (OpenSpec.ofChange ledgerKeysWrong)

/-- 'odysseylaw17.LedgerMarks': WHATEVER THE INPUT: true; the input reads as it did. -/
def ledgerMarksSpec : ChangeSpec := { name := "ledgerMarks", fn := fun _ => fun
  | [d1, d2] => { results := [.lit (.bool true)], args := [d1, d2] }
  | _ => none }
def ledgerMarksRow : OpenClaim := { program := "ytahonoeiamjgbaa", sum := "b7e21a1e916bd518945fafd5c81f191acb2e76b54032cc14fe765031ee4df906", func := "odyssey/odysseylaw17.LedgerMarks", spec := "ledgerMarks", unfollowed := true, recurses := true, plainKeys := false, apart := false }
def LedgerMarksSaid : Prop := ledgerMarksRow.holds Try.pinned (OpenSpec.ofChange ledgerMarksSpec)

/-- ITS FALSE NEIGHBOUR: 'it returns false'. Refute it at one input. -/
def ledgerMarksWrong : ChangeSpec := { name := "ledgerMarks", fn := fun _ => fun
  | [d1, d2] => { results := [.lit (.bool false)], args := [d1, d2] }
  | _ => none }
def LedgerMarksWrongFalsely : Prop := ledgerMarksRow.holds Try.pinned (OpenSpec.ofChange ledgerMarksWrong)

/-- 'odysseylaw17.LedgerAgain': WHATEVER THE INPUT: true; the input reads as it did. -/
def ledgerAgainSpec : ChangeSpec := { name := "ledgerAgain", fn := fun _ => fun
  | [d1, d2, d3] => { results := [.lit (.bool true)], args := [d1, d2, d3] }
  | _ => none }
def ledgerAgainRow : OpenClaim := { program := "ytahonoeiamjgbaa", sum := "b7e21a1e916bd518945fafd5c81f191acb2e76b54032cc14fe765031ee4df906", func := "odyssey/odysseylaw17.LedgerAgain", spec := "ledgerAgain", unfollowed := true, recurses := true, plainKeys := false, apart := false }
def LedgerAgainSaid : Prop := ledgerAgainRow.holds Try.pinned (OpenSpec.ofChange ledgerAgainSpec)

/-- ITS FALSE NEIGHBOUR: 'it returns false'. Refute it at one input. -/
def ledgerAgainWrong : ChangeSpec := { name := "ledgerAgain", fn := fun _ => fun
  | [d1, d2, d3] => { results := [.lit (.bool false)], args := [d1, d2, d3] }
  | _ => none }
def LedgerAgainWrongFalsely : Prop := ledgerAgainRow.holds Try.pinned (OpenSpec.ofChange ledgerAgainWrong)

/- THE SECOND FORM. 'bulk': how many values and letters a reading holds, each counted each time it is reached (what is shared counts as often as it is met; a slice's spare places count too). A statement '..UptoSaid' is the law's where the arguments, and the package variables that the reading takes, are together of bulk at most 1048576: NARROWER than '..Said'. Prove '..Said' where nothing that the law and all that it calls make is longer than what came in: it says more and counts as full. Else prove '..UptoSaid'. A law counts once. -/
mutual
def uptoBulk {H : Type} : DataW H → Nat
  | .lit (.string bytes) => bytes.length + 1
  | .lit _ => 1
  | .nil => 1
  | .ptr d => uptoBulk d + 1
  | .slice elems spare => uptoBulkAll elems + uptoBulkAll spare + 1
  | .agg parts => uptoBulkAll parts + 1
  | .iface _ d => uptoBulk d + 1
  | .map entries => uptoBulkEntries entries + 1
  | .held _ => 1
def uptoBulkAll {H : Type} : List (DataW H) → Nat
  | [] => 0
  | d :: r => uptoBulk d + uptoBulkAll r
def uptoBulkEntries {H : Type} : List (Lit × DataW H) → Nat
  | [] => 0
  | x :: r => uptoBulkEntry x + uptoBulkEntries r
def uptoBulkEntry {H : Type} : Lit × DataW H → Nat
  | (.string bytes, d) => bytes.length + uptoBulk d + 1
  | (_, d) => uptoBulk d + 1
 end
def uptoSmall : (H : Type) → List (DataW H) → Bool := fun _ ds => decide (uptoBulkAll ds ≤ 1048576)
def OpenSpec.upto (s : _root_.Go.ChangeSpec) : _root_.Go.OpenSpec := { _root_.Go.OpenSpec.ofChange s with cond := some uptoSmall }

/-- 'odysseylaw17.LedgerOnce', WHERE WHAT IT READS IS OF BULK AT MOST 1048576: true; the input reads as it did. -/
def ledgerOnceUptoRow : OpenClaim := { program := "ytahonoeiamjgbaa", sum := "b7e21a1e916bd518945fafd5c81f191acb2e76b54032cc14fe765031ee4df906", func := "odyssey/odysseylaw17.LedgerOnce", spec := "ledgerOnce", unfollowed := true, recurses := true, plainKeys := false, apart := false, narrowed := true }
def LedgerOnceUptoSaid : Prop := ledgerOnceUptoRow.holds Try.pinned (OpenSpec.upto ledgerOnceSpec)

/-- 'odysseylaw17.LedgerKeys', WHERE WHAT IT READS IS OF BULK AT MOST 1048576: true; the input reads as it did. -/
def ledgerKeysUptoRow : OpenClaim := { program := "ytahonoeiamjgbaa", sum := "b7e21a1e916bd518945fafd5c81f191acb2e76b54032cc14fe765031ee4df906", func := "odyssey/odysseylaw17.LedgerKeys", spec := "ledgerKeys", unfollowed := true, recurses := true, plainKeys := false, apart := false, narrowed := true }
def LedgerKeysUptoSaid : Prop := ledgerKeysUptoRow.holds Try.pinned (OpenSpec.upto ledgerKeysSpec)

/-- 'odysseylaw17.LedgerMarks', WHERE WHAT IT READS IS OF BULK AT MOST 1048576: true; the input reads as it did. -/
def ledgerMarksUptoRow : OpenClaim := { program := "ytahonoeiamjgbaa", sum := "b7e21a1e916bd518945fafd5c81f191acb2e76b54032cc14fe765031ee4df906", func := "odyssey/odysseylaw17.LedgerMarks", spec := "ledgerMarks", unfollowed := true, recurses := true, plainKeys := false, apart := false, narrowed := true }
def LedgerMarksUptoSaid : Prop := ledgerMarksUptoRow.holds Try.pinned (OpenSpec.upto ledgerMarksSpec)

/-- 'odysseylaw17.LedgerAgain', WHERE WHAT IT READS IS OF BULK AT MOST 1048576: true; the input reads as it did. -/
def ledgerAgainUptoRow : OpenClaim := { program := "ytahonoeiamjgbaa", sum := "b7e21a1e916bd518945fafd5c81f191acb2e76b54032cc14fe765031ee4df906", func := "odyssey/odysseylaw17.LedgerAgain", spec := "ledgerAgain", unfollowed := true, recurses := true, plainKeys := false, apart := false, narrowed := true }
def LedgerAgainUptoSaid : Prop := ledgerAgainUptoRow.holds Try.pinned (OpenSpec.upto ledgerAgainSpec)

end Rows
end Go.Proofs.Ytahonoeiamjgbaa
