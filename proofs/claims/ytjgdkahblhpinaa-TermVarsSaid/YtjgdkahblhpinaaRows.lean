/-
  No cell of these rows narrows 'for every input' (looked for: loops, veiled, ifaces, maps, wideKeys, modest, calm, conditions, laid).
  DERIVED. THE GIVEN ROWS OF THIS SEAT. 10 by the template 'for every input the law returns true; each argument reads behind the call as it read before'; 0 by the template 'total and deterministic' (their statements: YtjgdkahblhpinaaTotals.lean).
  GIVEN WITH THE SEED: the statements are not yours to turn. If you find one false, say at which input.
  Laid BY PROGRAM, IN A SANDBOX (cutbox-rows.mjs): the forced cells as the released guide's own fill.sh prints them over the translation 58658da8a60413c3… (all of the seat's roots in one cut). By AI agents, Wed Nov 11 2026. No macro, syntax, notation, axiom, sorry.
-/
import Derived.Test.YtjgdkahblhpinaaChecked
import GoSem.Claim
import GoSem.ClaimJoined
import GoSem.ClaimMapViews
import Derived.JoinedTies
import Derived.KernelRfl
namespace Go.Proofs.Ytjgdkahblhpinaa
/- THE CELL 'sum', in the pinned program and in every row, IS THE sha256 OF THE DUMP (.gsa) THAT YtjgdkahblhpinaaProg.lean LOADS. Nothing in Lean hashes anything: it is a label: what it is worth is what the hold of that sum in a sandbox is worth. -/
noncomputable def Try.pinned : Pinned := { name := "ytjgdkahblhpinaa", sum := "58658da8a60413c32d287d690b12a9ed713fcaff23a25003314895c416742fa6", checked := Try.checked }
namespace Rows
def none {H : Type} : Left H := { results := [], args := [] }

/-- 'retiarylaw03.TermKeeps': WHATEVER THE INPUT: true; the input reads as it did. -/
def termKeepsSpec : ChangeSpec := { name := "termKeeps", fn := fun _ => fun
  | [d1, d2, d3] => { results := [.lit (.bool true)], args := [d1, d2, d3] }
  | _ => none }
def termKeepsRow : OpenClaim := { program := "ytjgdkahblhpinaa", sum := "58658da8a60413c32d287d690b12a9ed713fcaff23a25003314895c416742fa6", func := "retiary/retiarylaw03.TermKeeps", spec := "termKeeps", apart := false }
def TermKeepsSaid : Prop := termKeepsRow.holds Try.pinned (OpenSpec.ofChange termKeepsSpec)

/-- ITS FALSE NEIGHBOUR: 'it returns false'. Refute it at one input. -/
def termKeepsWrong : ChangeSpec := { name := "termKeeps", fn := fun _ => fun
  | [d1, d2, d3] => { results := [.lit (.bool false)], args := [d1, d2, d3] }
  | _ => none }
def TermKeepsWrongFalsely : Prop := termKeepsRow.holds Try.pinned (OpenSpec.ofChange termKeepsWrong)

/-- 'retiarylaw01.SymRight': WHATEVER THE INPUT: true; the input reads as it did. -/
def symRightSpec : ChangeSpec := { name := "symRight", fn := fun _ => fun
  | [d] => { results := [.lit (.bool true)], args := [d] }
  | _ => none }
def symRightRow : OpenClaim := { program := "ytjgdkahblhpinaa", sum := "58658da8a60413c32d287d690b12a9ed713fcaff23a25003314895c416742fa6", func := "retiary/retiarylaw01.SymRight", spec := "symRight", apart := false }
def SymRightSaid : Prop := symRightRow.holds Try.pinned (OpenSpec.ofChange symRightSpec)

/-- ITS FALSE NEIGHBOUR: 'it returns false'. Refute it at one input. -/
def symRightWrong : ChangeSpec := { name := "symRight", fn := fun _ => fun
  | [d] => { results := [.lit (.bool false)], args := [d] }
  | _ => none }
def SymRightWrongFalsely : Prop := symRightRow.holds Try.pinned (OpenSpec.ofChange symRightWrong)

/-- 'retiarylaw03.TermRight': WHATEVER THE INPUT: true; the input reads as it did. -/
def termRightSpec : ChangeSpec := { name := "termRight", fn := fun _ => fun
  | [d1, d2] => { results := [.lit (.bool true)], args := [d1, d2] }
  | _ => none }
def termRightRow : OpenClaim := { program := "ytjgdkahblhpinaa", sum := "58658da8a60413c32d287d690b12a9ed713fcaff23a25003314895c416742fa6", func := "retiary/retiarylaw03.TermRight", spec := "termRight", apart := false }
def TermRightSaid : Prop := termRightRow.holds Try.pinned (OpenSpec.ofChange termRightSpec)

/-- ITS FALSE NEIGHBOUR: 'it returns false'. Refute it at one input. -/
def termRightWrong : ChangeSpec := { name := "termRight", fn := fun _ => fun
  | [d1, d2] => { results := [.lit (.bool false)], args := [d1, d2] }
  | _ => none }
def TermRightWrongFalsely : Prop := termRightRow.holds Try.pinned (OpenSpec.ofChange termRightWrong)

/-- 'retiarylaw01.SymMany': WHATEVER THE INPUT: true; the input reads as it did. -/
def symManySpec : ChangeSpec := { name := "symMany", fn := fun _ => fun
  | [d] => { results := [.lit (.bool true)], args := [d] }
  | _ => none }
def symManyRow : OpenClaim := { program := "ytjgdkahblhpinaa", sum := "58658da8a60413c32d287d690b12a9ed713fcaff23a25003314895c416742fa6", func := "retiary/retiarylaw01.SymMany", spec := "symMany", apart := false }
def SymManySaid : Prop := symManyRow.holds Try.pinned (OpenSpec.ofChange symManySpec)

/-- ITS FALSE NEIGHBOUR: 'it returns false'. Refute it at one input. -/
def symManyWrong : ChangeSpec := { name := "symMany", fn := fun _ => fun
  | [d] => { results := [.lit (.bool false)], args := [d] }
  | _ => none }
def SymManyWrongFalsely : Prop := symManyRow.holds Try.pinned (OpenSpec.ofChange symManyWrong)

/-- 'retiarylaw01.SymOrder': WHATEVER THE INPUT: true; the input reads as it did. -/
def symOrderSpec : ChangeSpec := { name := "symOrder", fn := fun _ => fun
  | [d] => { results := [.lit (.bool true)], args := [d] }
  | _ => none }
def symOrderRow : OpenClaim := { program := "ytjgdkahblhpinaa", sum := "58658da8a60413c32d287d690b12a9ed713fcaff23a25003314895c416742fa6", func := "retiary/retiarylaw01.SymOrder", spec := "symOrder", apart := false }
def SymOrderSaid : Prop := symOrderRow.holds Try.pinned (OpenSpec.ofChange symOrderSpec)

/-- ITS FALSE NEIGHBOUR: 'it returns false'. Refute it at one input. -/
def symOrderWrong : ChangeSpec := { name := "symOrder", fn := fun _ => fun
  | [d] => { results := [.lit (.bool false)], args := [d] }
  | _ => none }
def SymOrderWrongFalsely : Prop := symOrderRow.holds Try.pinned (OpenSpec.ofChange symOrderWrong)

/-- 'retiarylaw03.TermFits': WHATEVER THE INPUT: true; the input reads as it did. -/
def termFitsSpec : ChangeSpec := { name := "termFits", fn := fun _ => fun
  | [d1, d2, d3] => { results := [.lit (.bool true)], args := [d1, d2, d3] }
  | _ => none }
def termFitsRow : OpenClaim := { program := "ytjgdkahblhpinaa", sum := "58658da8a60413c32d287d690b12a9ed713fcaff23a25003314895c416742fa6", func := "retiary/retiarylaw03.TermFits", spec := "termFits", apart := false }
def TermFitsSaid : Prop := termFitsRow.holds Try.pinned (OpenSpec.ofChange termFitsSpec)

/-- ITS FALSE NEIGHBOUR: 'it returns false'. Refute it at one input. -/
def termFitsWrong : ChangeSpec := { name := "termFits", fn := fun _ => fun
  | [d1, d2, d3] => { results := [.lit (.bool false)], args := [d1, d2, d3] }
  | _ => none }
def TermFitsWrongFalsely : Prop := termFitsRow.holds Try.pinned (OpenSpec.ofChange termFitsWrong)

/-- 'retiarylaw03.TermPuts': WHATEVER THE INPUT: true; the input reads as it did. -/
def termPutsSpec : ChangeSpec := { name := "termPuts", fn := fun _ => fun
  | [d1, d2] => { results := [.lit (.bool true)], args := [d1, d2] }
  | _ => none }
def termPutsRow : OpenClaim := { program := "ytjgdkahblhpinaa", sum := "58658da8a60413c32d287d690b12a9ed713fcaff23a25003314895c416742fa6", func := "retiary/retiarylaw03.TermPuts", spec := "termPuts", apart := false }
def TermPutsSaid : Prop := termPutsRow.holds Try.pinned (OpenSpec.ofChange termPutsSpec)

/-- ITS FALSE NEIGHBOUR: 'it returns false'. Refute it at one input. -/
def termPutsWrong : ChangeSpec := { name := "termPuts", fn := fun _ => fun
  | [d1, d2] => { results := [.lit (.bool false)], args := [d1, d2] }
  | _ => none }
def TermPutsWrongFalsely : Prop := termPutsRow.holds Try.pinned (OpenSpec.ofChange termPutsWrong)

/-- 'retiarylaw01.SymPlays': WHATEVER THE INPUT: true; the input reads as it did. -/
def symPlaysSpec : ChangeSpec := { name := "symPlays", fn := fun _ => fun
  | [d] => { results := [.lit (.bool true)], args := [d] }
  | _ => none }
def symPlaysRow : OpenClaim := { program := "ytjgdkahblhpinaa", sum := "58658da8a60413c32d287d690b12a9ed713fcaff23a25003314895c416742fa6", func := "retiary/retiarylaw01.SymPlays", spec := "symPlays", apart := false }
def SymPlaysSaid : Prop := symPlaysRow.holds Try.pinned (OpenSpec.ofChange symPlaysSpec)

/-- ITS FALSE NEIGHBOUR: 'it returns false'. Refute it at one input. -/
def symPlaysWrong : ChangeSpec := { name := "symPlays", fn := fun _ => fun
  | [d] => { results := [.lit (.bool false)], args := [d] }
  | _ => none }
def SymPlaysWrongFalsely : Prop := symPlaysRow.holds Try.pinned (OpenSpec.ofChange symPlaysWrong)

/-- 'retiarylaw01.SymKeeps': WHATEVER THE INPUT: true; the input reads as it did. -/
def symKeepsSpec : ChangeSpec := { name := "symKeeps", fn := fun _ => fun
  | [d] => { results := [.lit (.bool true)], args := [d] }
  | _ => none }
def symKeepsRow : OpenClaim := { program := "ytjgdkahblhpinaa", sum := "58658da8a60413c32d287d690b12a9ed713fcaff23a25003314895c416742fa6", func := "retiary/retiarylaw01.SymKeeps", spec := "symKeeps", apart := false }
def SymKeepsSaid : Prop := symKeepsRow.holds Try.pinned (OpenSpec.ofChange symKeepsSpec)

/-- ITS FALSE NEIGHBOUR: 'it returns false'. Refute it at one input. -/
def symKeepsWrong : ChangeSpec := { name := "symKeeps", fn := fun _ => fun
  | [d] => { results := [.lit (.bool false)], args := [d] }
  | _ => none }
def SymKeepsWrongFalsely : Prop := symKeepsRow.holds Try.pinned (OpenSpec.ofChange symKeepsWrong)

/-- 'retiarylaw03.TermVars': WHATEVER THE INPUT: true; the input reads as it did. -/
def termVarsSpec : ChangeSpec := { name := "termVars", fn := fun _ => fun
  | [d] => { results := [.lit (.bool true)], args := [d] }
  | _ => none }
def termVarsRow : OpenClaim := { program := "ytjgdkahblhpinaa", sum := "58658da8a60413c32d287d690b12a9ed713fcaff23a25003314895c416742fa6", func := "retiary/retiarylaw03.TermVars", spec := "termVars", recurses := true, apart := false }
def TermVarsSaid : Prop := termVarsRow.holds Try.pinned (OpenSpec.ofChange termVarsSpec)

/-- ITS FALSE NEIGHBOUR: 'it returns false'. Refute it at one input. -/
def termVarsWrong : ChangeSpec := { name := "termVars", fn := fun _ => fun
  | [d] => { results := [.lit (.bool false)], args := [d] }
  | _ => none }
def TermVarsWrongFalsely : Prop := termVarsRow.holds Try.pinned (OpenSpec.ofChange termVarsWrong)

/- THE SECOND FORM. 'bulk': how many values and letters a reading holds, each counted each time it is reached (what is shared counts as often as it is met; a slice's spare places count too). A statement '..UptoSaid' is the law's where the arguments, and the package variables that the reading takes, are together of bulk at most 1048576: NARROWER than '..Said'. Prove '..Said' where nothing that the law and all that it calls make is longer than what came in: it says more and counts as full. Else prove '..UptoSaid'. A law counts once. -/
mutual
def uptoBulk {H : Type} : DataW H → Nat
  | .lit (.string bytes) => bytes.length + 1
  | .lit _ => 1
  | .nil => 1
  | .ptr d => uptoBulk d + 1
  | .slice elems spare => uptoBulkAll elems + uptoBulkAll spare + 1
  | .agg parts => uptoBulkAll parts + 1
  | .iface _ d => uptoBulk d + 1
  | .map entries => uptoBulkEntries entries + 1
  | .held _ => 1
def uptoBulkAll {H : Type} : List (DataW H) → Nat
  | [] => 0
  | d :: r => uptoBulk d + uptoBulkAll r
def uptoBulkEntries {H : Type} : List (Lit × DataW H) → Nat
  | [] => 0
  | x :: r => uptoBulkEntry x + uptoBulkEntries r
def uptoBulkEntry {H : Type} : Lit × DataW H → Nat
  | (.string bytes, d) => bytes.length + uptoBulk d + 1
  | (_, d) => uptoBulk d + 1
 end
def uptoSmall : (H : Type) → List (DataW H) → Bool := fun _ ds => decide (uptoBulkAll ds ≤ 1048576)
def OpenSpec.upto (s : _root_.Go.ChangeSpec) : _root_.Go.OpenSpec := { _root_.Go.OpenSpec.ofChange s with cond := some uptoSmall }

/-- 'retiarylaw03.TermKeeps', WHERE WHAT IT READS IS OF BULK AT MOST 1048576: true; the input reads as it did. -/
def termKeepsUptoRow : OpenClaim := { program := "ytjgdkahblhpinaa", sum := "58658da8a60413c32d287d690b12a9ed713fcaff23a25003314895c416742fa6", func := "retiary/retiarylaw03.TermKeeps", spec := "termKeeps", apart := false, narrowed := true }
def TermKeepsUptoSaid : Prop := termKeepsUptoRow.holds Try.pinned (OpenSpec.upto termKeepsSpec)

/-- 'retiarylaw01.SymRight', WHERE WHAT IT READS IS OF BULK AT MOST 1048576: true; the input reads as it did. -/
def symRightUptoRow : OpenClaim := { program := "ytjgdkahblhpinaa", sum := "58658da8a60413c32d287d690b12a9ed713fcaff23a25003314895c416742fa6", func := "retiary/retiarylaw01.SymRight", spec := "symRight", apart := false, narrowed := true }
def SymRightUptoSaid : Prop := symRightUptoRow.holds Try.pinned (OpenSpec.upto symRightSpec)

/-- 'retiarylaw03.TermRight', WHERE WHAT IT READS IS OF BULK AT MOST 1048576: true; the input reads as it did. -/
def termRightUptoRow : OpenClaim := { program := "ytjgdkahblhpinaa", sum := "58658da8a60413c32d287d690b12a9ed713fcaff23a25003314895c416742fa6", func := "retiary/retiarylaw03.TermRight", spec := "termRight", apart := false, narrowed := true }
def TermRightUptoSaid : Prop := termRightUptoRow.holds Try.pinned (OpenSpec.upto termRightSpec)

/-- 'retiarylaw01.SymMany', WHERE WHAT IT READS IS OF BULK AT MOST 1048576: true; the input reads as it did. -/
def symManyUptoRow : OpenClaim := { program := "ytjgdkahblhpinaa", sum := "58658da8a60413c32d287d690b12a9ed713fcaff23a25003314895c416742fa6", func := "retiary/retiarylaw01.SymMany", spec := "symMany", apart := false, narrowed := true }
def SymManyUptoSaid : Prop := symManyUptoRow.holds Try.pinned (OpenSpec.upto symManySpec)

/-- 'retiarylaw01.SymOrder', WHERE WHAT IT READS IS OF BULK AT MOST 1048576: true; the input reads as it did. -/
def symOrderUptoRow : OpenClaim := { program := "ytjgdkahblhpinaa", sum := "58658da8a60413c32d287d690b12a9ed713fcaff23a25003314895c416742fa6", func := "retiary/retiarylaw01.SymOrder", spec := "symOrder", apart := false, narrowed := true }
def SymOrderUptoSaid : Prop := symOrderUptoRow.holds Try.pinned (OpenSpec.upto symOrderSpec)

/-- 'retiarylaw03.TermFits', WHERE WHAT IT READS IS OF BULK AT MOST 1048576: true; the input reads as it did. -/
def termFitsUptoRow : OpenClaim := { program := "ytjgdkahblhpinaa", sum := "58658da8a60413c32d287d690b12a9ed713fcaff23a25003314895c416742fa6", func := "retiary/retiarylaw03.TermFits", spec := "termFits", apart := false, narrowed := true }
def TermFitsUptoSaid : Prop := termFitsUptoRow.holds Try.pinned (OpenSpec.upto termFitsSpec)

/-- 'retiarylaw03.TermPuts', WHERE WHAT IT READS IS OF BULK AT MOST 1048576: true; the input reads as it did. -/
def termPutsUptoRow : OpenClaim := { program := "ytjgdkahblhpinaa", sum := "58658da8a60413c32d287d690b12a9ed713fcaff23a25003314895c416742fa6", func := "retiary/retiarylaw03.TermPuts", spec := "termPuts", apart := false, narrowed := true }
def TermPutsUptoSaid : Prop := termPutsUptoRow.holds Try.pinned (OpenSpec.upto termPutsSpec)

/-- 'retiarylaw01.SymPlays', WHERE WHAT IT READS IS OF BULK AT MOST 1048576: true; the input reads as it did. -/
def symPlaysUptoRow : OpenClaim := { program := "ytjgdkahblhpinaa", sum := "58658da8a60413c32d287d690b12a9ed713fcaff23a25003314895c416742fa6", func := "retiary/retiarylaw01.SymPlays", spec := "symPlays", apart := false, narrowed := true }
def SymPlaysUptoSaid : Prop := symPlaysUptoRow.holds Try.pinned (OpenSpec.upto symPlaysSpec)

/-- 'retiarylaw01.SymKeeps', WHERE WHAT IT READS IS OF BULK AT MOST 1048576: true; the input reads as it did. -/
def symKeepsUptoRow : OpenClaim := { program := "ytjgdkahblhpinaa", sum := "58658da8a60413c32d287d690b12a9ed713fcaff23a25003314895c416742fa6", func := "retiary/retiarylaw01.SymKeeps", spec := "symKeeps", apart := false, narrowed := true }
def SymKeepsUptoSaid : Prop := symKeepsUptoRow.holds Try.pinned (OpenSpec.upto symKeepsSpec)

/-- 'retiarylaw03.TermVars', WHERE WHAT IT READS IS OF BULK AT MOST 1048576: true; the input reads as it did. -/
def termVarsUptoRow : OpenClaim := { program := "ytjgdkahblhpinaa", sum := "58658da8a60413c32d287d690b12a9ed713fcaff23a25003314895c416742fa6", func := "retiary/retiarylaw03.TermVars", spec := "termVars", recurses := true, apart := false, narrowed := true }
def TermVarsUptoSaid : Prop := termVarsUptoRow.holds Try.pinned (OpenSpec.upto termVarsSpec)

end Rows
end Go.Proofs.Ytjgdkahblhpinaa
