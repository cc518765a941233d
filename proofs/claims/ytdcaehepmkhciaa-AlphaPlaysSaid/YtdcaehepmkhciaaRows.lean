/-
  No cell of these rows narrows 'for every input' (looked for: loops, veiled, ifaces, maps, wideKeys, modest, calm, conditions, laid).
  DERIVED. THE GIVEN ROWS OF THIS SEAT. 7 by the template 'for every input the law returns true; each argument reads behind the call as it read before'; 0 by the template 'total and deterministic' (their statements: YtdcaehepmkhciaaTotals.lean).
  GIVEN WITH THE SEED: the statements are not yours to turn. If you find one false, say at which input.
  Laid BY PROGRAM, IN A SANDBOX (cutbox-rows.mjs): the forced cells as the released guide's own fill.sh prints them over the translation 9d32635f07277655… (all of the seat's roots in one cut). By AI agents, Wed Nov 11 2026. No macro, syntax, notation, axiom, sorry.
-/
import Derived.Test.YtdcaehepmkhciaaChecked
import GoSem.Claim
import GoSem.ClaimJoined
import GoSem.ClaimMapViews
import Derived.JoinedTies
import Derived.KernelRfl
namespace Go.Proofs.Ytdcaehepmkhciaa
/- THE CELL 'sum', in the pinned program and in every row, IS THE sha256 OF THE DUMP (.gsa) THAT YtdcaehepmkhciaaProg.lean LOADS. Nothing in Lean hashes anything: it is a label: what it is worth is what the hold of that sum in a sandbox is worth. -/
noncomputable def Try.pinned : Pinned := { name := "ytdcaehepmkhciaa", sum := "9d32635f07277655be585064e15076c85039f5bedd72349fd6d46b440f2ab7e4", checked := Try.checked }
namespace Rows
def none {H : Type} : Left H := { results := [], args := [] }

/-- 'retiarylaw15.TreeBelow': WHATEVER THE INPUT: true; the input reads as it did. -/
def treeBelowSpec : ChangeSpec := { name := "treeBelow", fn := fun _ => fun
  | [d1, d2] => { results := [.lit (.bool true)], args := [d1, d2] }
  | _ => none }
def treeBelowRow : OpenClaim := { program := "ytdcaehepmkhciaa", sum := "9d32635f07277655be585064e15076c85039f5bedd72349fd6d46b440f2ab7e4", func := "retiary/retiarylaw15.TreeBelow", spec := "treeBelow", unfollowed := true, recurses := true, plainKeys := false, apart := false }
def TreeBelowSaid : Prop := treeBelowRow.holds Try.pinned (OpenSpec.ofChange treeBelowSpec)

/-- ITS FALSE NEIGHBOUR: 'it returns false'. Refute it at one input. -/
def treeBelowWrong : ChangeSpec := { name := "treeBelow", fn := fun _ => fun
  | [d1, d2] => { results := [.lit (.bool false)], args := [d1, d2] }
  | _ => none }
def TreeBelowWrongFalsely : Prop := treeBelowRow.holds Try.pinned (OpenSpec.ofChange treeBelowWrong)

/-- 'retiarylaw15.TreeTypes': WHATEVER THE INPUT: true; the input reads as it did. -/
def treeTypesSpec : ChangeSpec := { name := "treeTypes", fn := fun _ => fun
  | [d] => { results := [.lit (.bool true)], args := [d] }
  | _ => none }
def treeTypesRow : OpenClaim := { program := "ytdcaehepmkhciaa", sum := "9d32635f07277655be585064e15076c85039f5bedd72349fd6d46b440f2ab7e4", func := "retiary/retiarylaw15.TreeTypes", spec := "treeTypes", unfollowed := true, recurses := true, plainKeys := false, apart := false }
def TreeTypesSaid : Prop := treeTypesRow.holds Try.pinned (OpenSpec.ofChange treeTypesSpec)

/-- ITS FALSE NEIGHBOUR: 'it returns false'. Refute it at one input. -/
def treeTypesWrong : ChangeSpec := { name := "treeTypes", fn := fun _ => fun
  | [d] => { results := [.lit (.bool false)], args := [d] }
  | _ => none }
def TreeTypesWrongFalsely : Prop := treeTypesRow.holds Try.pinned (OpenSpec.ofChange treeTypesWrong)

/-- 'retiarylaw12.AlphaWhole': WHATEVER THE INPUT: true; the input reads as it did. -/
def alphaWholeSpec : ChangeSpec := { name := "alphaWhole", fn := fun _ => fun
  | [d1, d2, d3] => { results := [.lit (.bool true)], args := [d1, d2, d3] }
  | _ => none }
def alphaWholeRow : OpenClaim := { program := "ytdcaehepmkhciaa", sum := "9d32635f07277655be585064e15076c85039f5bedd72349fd6d46b440f2ab7e4", func := "retiary/retiarylaw12.AlphaWhole", spec := "alphaWhole", unfollowed := true, recurses := true, plainKeys := false, apart := false }
def AlphaWholeSaid : Prop := alphaWholeRow.holds Try.pinned (OpenSpec.ofChange alphaWholeSpec)

/-- ITS FALSE NEIGHBOUR: 'it returns false'. Refute it at one input. -/
def alphaWholeWrong : ChangeSpec := { name := "alphaWhole", fn := fun _ => fun
  | [d1, d2, d3] => { results := [.lit (.bool false)], args := [d1, d2, d3] }
  | _ => none }
def AlphaWholeWrongFalsely : Prop := alphaWholeRow.holds Try.pinned (OpenSpec.ofChange alphaWholeWrong)

/-- 'retiarylaw12.AlphaBack': WHATEVER THE INPUT: true; the input reads as it did. -/
def alphaBackSpec : ChangeSpec := { name := "alphaBack", fn := fun _ => fun
  | [d] => { results := [.lit (.bool true)], args := [d] }
  | _ => none }
def alphaBackRow : OpenClaim := { program := "ytdcaehepmkhciaa", sum := "9d32635f07277655be585064e15076c85039f5bedd72349fd6d46b440f2ab7e4", func := "retiary/retiarylaw12.AlphaBack", spec := "alphaBack", unfollowed := true, recurses := true, plainKeys := false, apart := false }
def AlphaBackSaid : Prop := alphaBackRow.holds Try.pinned (OpenSpec.ofChange alphaBackSpec)

/-- ITS FALSE NEIGHBOUR: 'it returns false'. Refute it at one input. -/
def alphaBackWrong : ChangeSpec := { name := "alphaBack", fn := fun _ => fun
  | [d] => { results := [.lit (.bool false)], args := [d] }
  | _ => none }
def AlphaBackWrongFalsely : Prop := alphaBackRow.holds Try.pinned (OpenSpec.ofChange alphaBackWrong)

/-- 'retiarylaw12.AlphaPlays': WHATEVER THE INPUT: true; the input reads as it did. -/
def alphaPlaysSpec : ChangeSpec := { name := "alphaPlays", fn := fun _ => fun
  | [d] => { results := [.lit (.bool true)], args := [d] }
  | _ => none }
def alphaPlaysRow : OpenClaim := { program := "ytdcaehepmkhciaa", sum := "9d32635f07277655be585064e15076c85039f5bedd72349fd6d46b440f2ab7e4", func := "retiary/retiarylaw12.AlphaPlays", spec := "alphaPlays", unfollowed := true, recurses := true, plainKeys := false, apart := false }
def AlphaPlaysSaid : Prop := alphaPlaysRow.holds Try.pinned (OpenSpec.ofChange alphaPlaysSpec)

/-- ITS FALSE NEIGHBOUR: 'it returns false'. Refute it at one input. -/
def alphaPlaysWrong : ChangeSpec := { name := "alphaPlays", fn := fun _ => fun
  | [d] => { results := [.lit (.bool false)], args := [d] }
  | _ => none }
def AlphaPlaysWrongFalsely : Prop := alphaPlaysRow.holds Try.pinned (OpenSpec.ofChange alphaPlaysWrong)

/-- 'retiarylaw15.TreeFacts': WHATEVER THE INPUT: true; the input reads as it did. -/
def treeFactsSpec : ChangeSpec := { name := "treeFacts", fn := fun _ => fun
  | [d] => { results := [.lit (.bool true)], args := [d] }
  | _ => none }
def treeFactsRow : OpenClaim := { program := "ytdcaehepmkhciaa", sum := "9d32635f07277655be585064e15076c85039f5bedd72349fd6d46b440f2ab7e4", func := "retiary/retiarylaw15.TreeFacts", spec := "treeFacts", unfollowed := true, recurses := true, plainKeys := false, apart := false }
def TreeFactsSaid : Prop := treeFactsRow.holds Try.pinned (OpenSpec.ofChange treeFactsSpec)

/-- ITS FALSE NEIGHBOUR: 'it returns false'. Refute it at one input. -/
def treeFactsWrong : ChangeSpec := { name := "treeFacts", fn := fun _ => fun
  | [d] => { results := [.lit (.bool false)], args := [d] }
  | _ => none }
def TreeFactsWrongFalsely : Prop := treeFactsRow.holds Try.pinned (OpenSpec.ofChange treeFactsWrong)

/-- 'retiarylaw15.TreePlays': WHATEVER THE INPUT: true; the input reads as it did. -/
def treePlaysSpec : ChangeSpec := { name := "treePlays", fn := fun _ => fun
  | [d1, d2] => { results := [.lit (.bool true)], args := [d1, d2] }
  | _ => none }
def treePlaysRow : OpenClaim := { program := "ytdcaehepmkhciaa", sum := "9d32635f07277655be585064e15076c85039f5bedd72349fd6d46b440f2ab7e4", func := "retiary/retiarylaw15.TreePlays", spec := "treePlays", unfollowed := true, recurses := true, plainKeys := false, apart := false }
def TreePlaysSaid : Prop := treePlaysRow.holds Try.pinned (OpenSpec.ofChange treePlaysSpec)

/-- ITS FALSE NEIGHBOUR: 'it returns false'. Refute it at one input. -/
def treePlaysWrong : ChangeSpec := { name := "treePlays", fn := fun _ => fun
  | [d1, d2] => { results := [.lit (.bool false)], args := [d1, d2] }
  | _ => none }
def TreePlaysWrongFalsely : Prop := treePlaysRow.holds Try.pinned (OpenSpec.ofChange treePlaysWrong)

/- THE SECOND FORM. 'bulk': how many values and letters a reading holds, each counted each time it is reached (what is shared counts as often as it is met; a slice's spare places count too). A statement '..UptoSaid' is the law's where the arguments, and the package variables that the reading takes, are together of bulk at most 1048576: NARROWER than '..Said'. Prove '..Said' where nothing that the law and all that it calls make is longer than what came in: it says more and counts as full. Else prove '..UptoSaid'. A law counts once. -/
mutual
def uptoBulk {H : Type} : DataW H → Nat
  | .lit (.string bytes) => bytes.length + 1
  | .lit _ => 1
  | .nil => 1
  | .ptr d => uptoBulk d + 1
  | .slice elems spare => uptoBulkAll elems + uptoBulkAll spare + 1
  | .agg parts => uptoBulkAll parts + 1
  | .iface _ d => uptoBulk d + 1
  | .map entries => uptoBulkEntries entries + 1
  | .held _ => 1
def uptoBulkAll {H : Type} : List (DataW H) → Nat
  | [] => 0
  | d :: r => uptoBulk d + uptoBulkAll r
def uptoBulkEntries {H : Type} : List (Lit × DataW H) → Nat
  | [] => 0
  | x :: r => uptoBulkEntry x + uptoBulkEntries r
def uptoBulkEntry {H : Type} : Lit × DataW H → Nat
  | (.string bytes, d) => bytes.length + uptoBulk d + 1
  | (_, d) => uptoBulk d + 1
 end
def uptoSmall : (H : Type) → List (DataW H) → Bool := fun _ ds => decide (uptoBulkAll ds ≤ 1048576)
def OpenSpec.upto (s : _root_.Go.ChangeSpec) : _root_.Go.OpenSpec := { _root_.Go.OpenSpec.ofChange s with cond := some uptoSmall }

/-- 'retiarylaw15.TreeBelow', WHERE WHAT IT READS IS OF BULK AT MOST 1048576: true; the input reads as it did. -/
def treeBelowUptoRow : OpenClaim := { program := "ytdcaehepmkhciaa", sum := "9d32635f07277655be585064e15076c85039f5bedd72349fd6d46b440f2ab7e4", func := "retiary/retiarylaw15.TreeBelow", spec := "treeBelow", unfollowed := true, recurses := true, plainKeys := false, apart := false, narrowed := true }
def TreeBelowUptoSaid : Prop := treeBelowUptoRow.holds Try.pinned (OpenSpec.upto treeBelowSpec)

/-- 'retiarylaw15.TreeTypes', WHERE WHAT IT READS IS OF BULK AT MOST 1048576: true; the input reads as it did. -/
def treeTypesUptoRow : OpenClaim := { program := "ytdcaehepmkhciaa", sum := "9d32635f07277655be585064e15076c85039f5bedd72349fd6d46b440f2ab7e4", func := "retiary/retiarylaw15.TreeTypes", spec := "treeTypes", unfollowed := true, recurses := true, plainKeys := false, apart := false, narrowed := true }
def TreeTypesUptoSaid : Prop := treeTypesUptoRow.holds Try.pinned (OpenSpec.upto treeTypesSpec)

/-- 'retiarylaw12.AlphaWhole', WHERE WHAT IT READS IS OF BULK AT MOST 1048576: true; the input reads as it did. -/
def alphaWholeUptoRow : OpenClaim := { program := "ytdcaehepmkhciaa", sum := "9d32635f07277655be585064e15076c85039f5bedd72349fd6d46b440f2ab7e4", func := "retiary/retiarylaw12.AlphaWhole", spec := "alphaWhole", unfollowed := true, recurses := true, plainKeys := false, apart := false, narrowed := true }
def AlphaWholeUptoSaid : Prop := alphaWholeUptoRow.holds Try.pinned (OpenSpec.upto alphaWholeSpec)

/-- 'retiarylaw12.AlphaBack', WHERE WHAT IT READS IS OF BULK AT MOST 1048576: true; the input reads as it did. -/
def alphaBackUptoRow : OpenClaim := { program := "ytdcaehepmkhciaa", sum := "9d32635f07277655be585064e15076c85039f5bedd72349fd6d46b440f2ab7e4", func := "retiary/retiarylaw12.AlphaBack", spec := "alphaBack", unfollowed := true, recurses := true, plainKeys := false, apart := false, narrowed := true }
def AlphaBackUptoSaid : Prop := alphaBackUptoRow.holds Try.pinned (OpenSpec.upto alphaBackSpec)

/-- 'retiarylaw12.AlphaPlays', WHERE WHAT IT READS IS OF BULK AT MOST 1048576: true; the input reads as it did. -/
def alphaPlaysUptoRow : OpenClaim := { program := "ytdcaehepmkhciaa", sum := "9d32635f07277655be585064e15076c85039f5bedd72349fd6d46b440f2ab7e4", func := "retiary/retiarylaw12.AlphaPlays", spec := "alphaPlays", unfollowed := true, recurses := true, plainKeys := false, apart := false, narrowed := true }
def AlphaPlaysUptoSaid : Prop := alphaPlaysUptoRow.holds Try.pinned (OpenSpec.upto alphaPlaysSpec)

/-- 'retiarylaw15.TreeFacts', WHERE WHAT IT READS IS OF BULK AT MOST 1048576: true; the input reads as it did. -/
def treeFactsUptoRow : OpenClaim := { program := "ytdcaehepmkhciaa", sum := "9d32635f07277655be585064e15076c85039f5bedd72349fd6d46b440f2ab7e4", func := "retiary/retiarylaw15.TreeFacts", spec := "treeFacts", unfollowed := true, recurses := true, plainKeys := false, apart := false, narrowed := true }
def TreeFactsUptoSaid : Prop := treeFactsUptoRow.holds Try.pinned (OpenSpec.upto treeFactsSpec)

/-- 'retiarylaw15.TreePlays', WHERE WHAT IT READS IS OF BULK AT MOST 1048576: true; the input reads as it did. -/
def treePlaysUptoRow : OpenClaim := { program := "ytdcaehepmkhciaa", sum := "9d32635f07277655be585064e15076c85039f5bedd72349fd6d46b440f2ab7e4", func := "retiary/retiarylaw15.TreePlays", spec := "treePlays", unfollowed := true, recurses := true, plainKeys := false, apart := false, narrowed := true }
def TreePlaysUptoSaid : Prop := treePlaysUptoRow.holds Try.pinned (OpenSpec.upto treePlaysSpec)

end Rows
end Go.Proofs.Ytdcaehepmkhciaa
