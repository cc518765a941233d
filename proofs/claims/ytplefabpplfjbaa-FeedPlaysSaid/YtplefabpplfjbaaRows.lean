/-
  No cell of these rows narrows 'for every input' (looked for: loops, veiled, ifaces, maps, wideKeys, modest, calm, conditions, laid).
  DERIVED. THE GIVEN ROWS OF THIS SEAT. 3 by the template 'for every input the law returns true; each argument reads behind the call as it read before'; 0 by the template 'total and deterministic' (their statements: YtplefabpplfjbaaTotals.lean).
  GIVEN WITH THE SEED: the statements are not yours to turn. If you find one false, say at which input.
  Laid BY PROGRAM, IN A SANDBOX (cutbox-rows.mjs): the forced cells as the released guide's own fill.sh prints them over the translation 09e6e1816fed6af1… (all of the seat's roots in one cut). By AI agents, Wed Nov 11 2026. No macro, syntax, notation, axiom, sorry.
-/
import Derived.Test.YtplefabpplfjbaaChecked
import GoSem.Claim
import GoSem.ClaimJoined
import GoSem.ClaimMapViews
import Derived.JoinedTies
import Derived.KernelRfl
namespace Go.Proofs.Ytplefabpplfjbaa
/- THE CELL 'sum', in the pinned program and in every row, IS THE sha256 OF THE DUMP (.gsa) THAT YtplefabpplfjbaaProg.lean LOADS. Nothing in Lean hashes anything: it is a label: what it is worth is what the hold of that sum in a sandbox is worth. -/
noncomputable def Try.pinned : Pinned := { name := "ytplefabpplfjbaa", sum := "09e6e1816fed6af1b9964daa6b6881bf0ba6678e8491a32bb4ee64aaa478eb4e", checked := Try.checked }
namespace Rows
def none {H : Type} : Left H := { results := [], args := [] }

/-- 'retiarylaw21.FeedOwn': WHATEVER THE INPUT: true; the input reads as it did. -/
def feedOwnSpec : ChangeSpec := { name := "feedOwn", fn := fun _ => fun
  | [d1, d2] => { results := [.lit (.bool true)], args := [d1, d2] }
  | _ => none }
def feedOwnRow : OpenClaim := { program := "ytplefabpplfjbaa", sum := "09e6e1816fed6af1b9964daa6b6881bf0ba6678e8491a32bb4ee64aaa478eb4e", func := "retiary/retiarylaw21.FeedOwn", spec := "feedOwn", apart := false }
def FeedOwnSaid : Prop := feedOwnRow.holds Try.pinned (OpenSpec.ofChange feedOwnSpec)

/-- ITS FALSE NEIGHBOUR: 'it returns false'. Refute it at one input. -/
def feedOwnWrong : ChangeSpec := { name := "feedOwn", fn := fun _ => fun
  | [d1, d2] => { results := [.lit (.bool false)], args := [d1, d2] }
  | _ => none }
def FeedOwnWrongFalsely : Prop := feedOwnRow.holds Try.pinned (OpenSpec.ofChange feedOwnWrong)

/-- 'retiarylaw21.FeedOrder': WHATEVER THE INPUT: true; the input reads as it did. -/
def feedOrderSpec : ChangeSpec := { name := "feedOrder", fn := fun _ => fun
  | [d1, d2] => { results := [.lit (.bool true)], args := [d1, d2] }
  | _ => none }
def feedOrderRow : OpenClaim := { program := "ytplefabpplfjbaa", sum := "09e6e1816fed6af1b9964daa6b6881bf0ba6678e8491a32bb4ee64aaa478eb4e", func := "retiary/retiarylaw21.FeedOrder", spec := "feedOrder", apart := false }
def FeedOrderSaid : Prop := feedOrderRow.holds Try.pinned (OpenSpec.ofChange feedOrderSpec)

/-- ITS FALSE NEIGHBOUR: 'it returns false'. Refute it at one input. -/
def feedOrderWrong : ChangeSpec := { name := "feedOrder", fn := fun _ => fun
  | [d1, d2] => { results := [.lit (.bool false)], args := [d1, d2] }
  | _ => none }
def FeedOrderWrongFalsely : Prop := feedOrderRow.holds Try.pinned (OpenSpec.ofChange feedOrderWrong)

/-- 'retiarylaw21.FeedPlays': WHATEVER THE INPUT: true; the input reads as it did. -/
def feedPlaysSpec : ChangeSpec := { name := "feedPlays", fn := fun _ => fun
  | [d] => { results := [.lit (.bool true)], args := [d] }
  | _ => none }
def feedPlaysRow : OpenClaim := { program := "ytplefabpplfjbaa", sum := "09e6e1816fed6af1b9964daa6b6881bf0ba6678e8491a32bb4ee64aaa478eb4e", func := "retiary/retiarylaw21.FeedPlays", spec := "feedPlays", apart := false }
def FeedPlaysSaid : Prop := feedPlaysRow.holds Try.pinned (OpenSpec.ofChange feedPlaysSpec)

/-- ITS FALSE NEIGHBOUR: 'it returns false'. Refute it at one input. -/
def feedPlaysWrong : ChangeSpec := { name := "feedPlays", fn := fun _ => fun
  | [d] => { results := [.lit (.bool false)], args := [d] }
  | _ => none }
def FeedPlaysWrongFalsely : Prop := feedPlaysRow.holds Try.pinned (OpenSpec.ofChange feedPlaysWrong)

/- THE SECOND FORM. 'bulk': how many values and letters a reading holds, each counted each time it is reached (what is shared counts as often as it is met; a slice's spare places count too). A statement '..UptoSaid' is the law's where the arguments, and the package variables that the reading takes, are together of bulk at most 1048576: NARROWER than '..Said'. Prove '..Said' where nothing that the law and all that it calls make is longer than what came in: it says more and counts as full. Else prove '..UptoSaid'. A law counts once. -/
mutual
def uptoBulk {H : Type} : DataW H → Nat
  | .lit (.string bytes) => bytes.length + 1
  | .lit _ => 1
  | .nil => 1
  | .ptr d => uptoBulk d + 1
  | .slice elems spare => uptoBulkAll elems + uptoBulkAll spare + 1
  | .agg parts => uptoBulkAll parts + 1
  | .iface _ d => uptoBulk d + 1
  | .map entries => uptoBulkEntries entries + 1
  | .held _ => 1
def uptoBulkAll {H : Type} : List (DataW H) → Nat
  | [] => 0
  | d :: r => uptoBulk d + uptoBulkAll r
def uptoBulkEntries {H : Type} : List (Lit × DataW H) → Nat
  | [] => 0
  | x :: r => uptoBulkEntry x + uptoBulkEntries r
def uptoBulkEntry {H : Type} : Lit × DataW H → Nat
  | (.string bytes, d) => bytes.length + uptoBulk d + 1
  | (_, d) => uptoBulk d + 1
 end
def uptoSmall : (H : Type) → List (DataW H) → Bool := fun _ ds => decide (uptoBulkAll ds ≤ 1048576)
def OpenSpec.upto (s : _root_.Go.ChangeSpec) : _root_.Go.OpenSpec := { _root_.Go.OpenSpec.ofChange s with cond := some uptoSmall }

/-- 'retiarylaw21.FeedOwn', WHERE WHAT IT READS IS OF BULK AT MOST 1048576: true; the input reads as it did. -/
def feedOwnUptoRow : OpenClaim := { program := "ytplefabpplfjbaa", sum := "09e6e1816fed6af1b9964daa6b6881bf0ba6678e8491a32bb4ee64aaa478eb4e", func := "retiary/retiarylaw21.FeedOwn", spec := "feedOwn", apart := false, narrowed := true }
def FeedOwnUptoSaid : Prop := feedOwnUptoRow.holds Try.pinned (OpenSpec.upto feedOwnSpec)

/-- 'retiarylaw21.FeedOrder', WHERE WHAT IT READS IS OF BULK AT MOST 1048576: true; the input reads as it did. -/
def feedOrderUptoRow : OpenClaim := { program := "ytplefabpplfjbaa", sum := "09e6e1816fed6af1b9964daa6b6881bf0ba6678e8491a32bb4ee64aaa478eb4e", func := "retiary/retiarylaw21.FeedOrder", spec := "feedOrder", apart := false, narrowed := true }
def FeedOrderUptoSaid : Prop := feedOrderUptoRow.holds Try.pinned (OpenSpec.upto feedOrderSpec)

/-- 'retiarylaw21.FeedPlays', WHERE WHAT IT READS IS OF BULK AT MOST 1048576: true; the input reads as it did. -/
def feedPlaysUptoRow : OpenClaim := { program := "ytplefabpplfjbaa", sum := "09e6e1816fed6af1b9964daa6b6881bf0ba6678e8491a32bb4ee64aaa478eb4e", func := "retiary/retiarylaw21.FeedPlays", spec := "feedPlays", apart := false, narrowed := true }
def FeedPlaysUptoSaid : Prop := feedPlaysUptoRow.holds Try.pinned (OpenSpec.upto feedPlaysSpec)

end Rows
end Go.Proofs.Ytplefabpplfjbaa
