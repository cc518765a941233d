/-
  NARROWER THAN 'FOR EVERY INPUT', by the rows' own cells (each row's printed sentence says how): PlainTerms: loops · PlainMore: loops · PlainJoins: loops · PlainNone: loops · PlainSteps: loops · PlainAny: loops.
  DERIVED. THE GIVEN ROWS OF THIS SEAT. 9 by the template 'for every input the law returns true; each argument reads behind the call as it read before'; 0 by the template 'total and deterministic' (their statements: YtpadfgomhojjnaaTotals.lean).
  GIVEN WITH THE SEED: the statements are not yours to turn. If you find one false, say at which input.
  Laid BY PROGRAM, IN A SANDBOX (cutbox-rows.mjs): the forced cells as the released guide's own fill.sh prints them over the translation d230d50eb8ea0369… (all of the seat's roots in one cut). By AI agents, Wed Nov 11 2026. No macro, syntax, notation, axiom, sorry.
-/
import Derived.Test.YtpadfgomhojjnaaChecked
import GoSem.Claim
import GoSem.ClaimJoined
import GoSem.ClaimMapViews
import Derived.JoinedTies
import Derived.KernelRfl
namespace Go.Proofs.Ytpadfgomhojjnaa
/- THE CELL 'sum', in the pinned program and in every row, IS THE sha256 OF THE DUMP (.gsa) THAT YtpadfgomhojjnaaProg.lean LOADS. Nothing in Lean hashes anything: it is a label: what it is worth is what the hold of that sum in a sandbox is worth. -/
noncomputable def Try.pinned : Pinned := { name := "ytpadfgomhojjnaa", sum := "d230d50eb8ea0369930f05538b7694cea3846fb91fe8c1dc78e0cac2255ab5d8", checked := Try.checked }
namespace Rows
def none {H : Type} : Left H := { results := [], args := [] }

/-- 'retiarylaw21.FeedOwn': WHATEVER THE INPUT: true; the input reads as it did. -/
def feedOwnSpec : ChangeSpec := { name := "feedOwn", fn := fun _ => fun
  | [d1, d2] => { results := [.lit (.bool true)], args := [d1, d2] }
  | _ => none }
def feedOwnRow : OpenClaim := { program := "ytpadfgomhojjnaa", sum := "d230d50eb8ea0369930f05538b7694cea3846fb91fe8c1dc78e0cac2255ab5d8", func := "retiary/retiarylaw21.FeedOwn", spec := "feedOwn", apart := false }
def FeedOwnSaid : Prop := feedOwnRow.holds Try.pinned (OpenSpec.ofChange feedOwnSpec)

/-- ITS FALSE NEIGHBOUR: 'it returns false'. Refute it at one input. -/
def feedOwnWrong : ChangeSpec := { name := "feedOwn", fn := fun _ => fun
  | [d1, d2] => { results := [.lit (.bool false)], args := [d1, d2] }
  | _ => none }
def FeedOwnWrongFalsely : Prop := feedOwnRow.holds Try.pinned (OpenSpec.ofChange feedOwnWrong)

/-- 'retiarylaw21.FeedOrder': WHATEVER THE INPUT: true; the input reads as it did. -/
def feedOrderSpec : ChangeSpec := { name := "feedOrder", fn := fun _ => fun
  | [d1, d2] => { results := [.lit (.bool true)], args := [d1, d2] }
  | _ => none }
def feedOrderRow : OpenClaim := { program := "ytpadfgomhojjnaa", sum := "d230d50eb8ea0369930f05538b7694cea3846fb91fe8c1dc78e0cac2255ab5d8", func := "retiary/retiarylaw21.FeedOrder", spec := "feedOrder", apart := false }
def FeedOrderSaid : Prop := feedOrderRow.holds Try.pinned (OpenSpec.ofChange feedOrderSpec)

/-- ITS FALSE NEIGHBOUR: 'it returns false'. Refute it at one input. -/
def feedOrderWrong : ChangeSpec := { name := "feedOrder", fn := fun _ => fun
  | [d1, d2] => { results := [.lit (.bool false)], args := [d1, d2] }
  | _ => none }
def FeedOrderWrongFalsely : Prop := feedOrderRow.holds Try.pinned (OpenSpec.ofChange feedOrderWrong)

/-- 'retiarylaw21.FeedPlays': WHATEVER THE INPUT: true; the input reads as it did. -/
def feedPlaysSpec : ChangeSpec := { name := "feedPlays", fn := fun _ => fun
  | [d] => { results := [.lit (.bool true)], args := [d] }
  | _ => none }
def feedPlaysRow : OpenClaim := { program := "ytpadfgomhojjnaa", sum := "d230d50eb8ea0369930f05538b7694cea3846fb91fe8c1dc78e0cac2255ab5d8", func := "retiary/retiarylaw21.FeedPlays", spec := "feedPlays", apart := false }
def FeedPlaysSaid : Prop := feedPlaysRow.holds Try.pinned (OpenSpec.ofChange feedPlaysSpec)

/-- ITS FALSE NEIGHBOUR: 'it returns false'. Refute it at one input. -/
def feedPlaysWrong : ChangeSpec := { name := "feedPlays", fn := fun _ => fun
  | [d] => { results := [.lit (.bool false)], args := [d] }
  | _ => none }
def FeedPlaysWrongFalsely : Prop := feedPlaysRow.holds Try.pinned (OpenSpec.ofChange feedPlaysWrong)

/-- 'retiarylaw14.PlainTerms': WHATEVER THE INPUT: true; the input reads as it did. -/
def plainTermsSpec : ChangeSpec := { name := "plainTerms", fn := fun _ => fun
  | [d1, d2] => { results := [.lit (.bool true)], args := [d1, d2] }
  | _ => none }
def plainTermsRow : OpenClaim := { program := "ytpadfgomhojjnaa", sum := "d230d50eb8ea0369930f05538b7694cea3846fb91fe8c1dc78e0cac2255ab5d8", func := "retiary/retiarylaw14.PlainTerms", spec := "plainTerms", unfollowed := true, recurses := true, loops := true, apart := false }
def PlainTermsSaid : Prop := plainTermsRow.holds Try.pinned (OpenSpec.ofChange plainTermsSpec)

/-- ITS FALSE NEIGHBOUR: 'it returns false'. Refute it at one input. -/
def plainTermsWrong : ChangeSpec := { name := "plainTerms", fn := fun _ => fun
  | [d1, d2] => { results := [.lit (.bool false)], args := [d1, d2] }
  | _ => none }
def PlainTermsWrongFalsely : Prop := plainTermsRow.holds Try.pinned (OpenSpec.ofChange plainTermsWrong)

/-- 'retiarylaw14.PlainMore': WHATEVER THE INPUT: true; the input reads as it did. -/
def plainMoreSpec : ChangeSpec := { name := "plainMore", fn := fun _ => fun
  | [d1, d2] => { results := [.lit (.bool true)], args := [d1, d2] }
  | _ => none }
def plainMoreRow : OpenClaim := { program := "ytpadfgomhojjnaa", sum := "d230d50eb8ea0369930f05538b7694cea3846fb91fe8c1dc78e0cac2255ab5d8", func := "retiary/retiarylaw14.PlainMore", spec := "plainMore", unfollowed := true, recurses := true, loops := true, apart := false }
def PlainMoreSaid : Prop := plainMoreRow.holds Try.pinned (OpenSpec.ofChange plainMoreSpec)

/-- ITS FALSE NEIGHBOUR: 'it returns false'. Refute it at one input. -/
def plainMoreWrong : ChangeSpec := { name := "plainMore", fn := fun _ => fun
  | [d1, d2] => { results := [.lit (.bool false)], args := [d1, d2] }
  | _ => none }
def PlainMoreWrongFalsely : Prop := plainMoreRow.holds Try.pinned (OpenSpec.ofChange plainMoreWrong)

/-- 'retiarylaw14.PlainJoins': WHATEVER THE INPUT: true; the input reads as it did. -/
def plainJoinsSpec : ChangeSpec := { name := "plainJoins", fn := fun _ => fun
  | [d1, d2] => { results := [.lit (.bool true)], args := [d1, d2] }
  | _ => none }
def plainJoinsRow : OpenClaim := { program := "ytpadfgomhojjnaa", sum := "d230d50eb8ea0369930f05538b7694cea3846fb91fe8c1dc78e0cac2255ab5d8", func := "retiary/retiarylaw14.PlainJoins", spec := "plainJoins", unfollowed := true, recurses := true, loops := true, apart := false }
def PlainJoinsSaid : Prop := plainJoinsRow.holds Try.pinned (OpenSpec.ofChange plainJoinsSpec)

/-- ITS FALSE NEIGHBOUR: 'it returns false'. Refute it at one input. -/
def plainJoinsWrong : ChangeSpec := { name := "plainJoins", fn := fun _ => fun
  | [d1, d2] => { results := [.lit (.bool false)], args := [d1, d2] }
  | _ => none }
def PlainJoinsWrongFalsely : Prop := plainJoinsRow.holds Try.pinned (OpenSpec.ofChange plainJoinsWrong)

/-- 'retiarylaw14.PlainNone': WHATEVER THE INPUT: true; the input reads as it did. -/
def plainNoneSpec : ChangeSpec := { name := "plainNone", fn := fun _ => fun
  | [d] => { results := [.lit (.bool true)], args := [d] }
  | _ => none }
def plainNoneRow : OpenClaim := { program := "ytpadfgomhojjnaa", sum := "d230d50eb8ea0369930f05538b7694cea3846fb91fe8c1dc78e0cac2255ab5d8", func := "retiary/retiarylaw14.PlainNone", spec := "plainNone", unfollowed := true, recurses := true, loops := true, apart := false }
def PlainNoneSaid : Prop := plainNoneRow.holds Try.pinned (OpenSpec.ofChange plainNoneSpec)

/-- ITS FALSE NEIGHBOUR: 'it returns false'. Refute it at one input. -/
def plainNoneWrong : ChangeSpec := { name := "plainNone", fn := fun _ => fun
  | [d] => { results := [.lit (.bool false)], args := [d] }
  | _ => none }
def PlainNoneWrongFalsely : Prop := plainNoneRow.holds Try.pinned (OpenSpec.ofChange plainNoneWrong)

/-- 'retiarylaw14.PlainSteps': WHATEVER THE INPUT: true; the input reads as it did. -/
def plainStepsSpec : ChangeSpec := { name := "plainSteps", fn := fun _ => fun
  | [d1, d2] => { results := [.lit (.bool true)], args := [d1, d2] }
  | _ => none }
def plainStepsRow : OpenClaim := { program := "ytpadfgomhojjnaa", sum := "d230d50eb8ea0369930f05538b7694cea3846fb91fe8c1dc78e0cac2255ab5d8", func := "retiary/retiarylaw14.PlainSteps", spec := "plainSteps", unfollowed := true, recurses := true, loops := true, apart := false }
def PlainStepsSaid : Prop := plainStepsRow.holds Try.pinned (OpenSpec.ofChange plainStepsSpec)

/-- ITS FALSE NEIGHBOUR: 'it returns false'. Refute it at one input. -/
def plainStepsWrong : ChangeSpec := { name := "plainSteps", fn := fun _ => fun
  | [d1, d2] => { results := [.lit (.bool false)], args := [d1, d2] }
  | _ => none }
def PlainStepsWrongFalsely : Prop := plainStepsRow.holds Try.pinned (OpenSpec.ofChange plainStepsWrong)

/-- 'retiarylaw14.PlainAny': WHATEVER THE INPUT: true; the input reads as it did. -/
def plainAnySpec : ChangeSpec := { name := "plainAny", fn := fun _ => fun
  | [d1, d2, d3] => { results := [.lit (.bool true)], args := [d1, d2, d3] }
  | _ => none }
def plainAnyRow : OpenClaim := { program := "ytpadfgomhojjnaa", sum := "d230d50eb8ea0369930f05538b7694cea3846fb91fe8c1dc78e0cac2255ab5d8", func := "retiary/retiarylaw14.PlainAny", spec := "plainAny", unfollowed := true, recurses := true, loops := true, apart := false }
def PlainAnySaid : Prop := plainAnyRow.holds Try.pinned (OpenSpec.ofChange plainAnySpec)

/-- ITS FALSE NEIGHBOUR: 'it returns false'. Refute it at one input. -/
def plainAnyWrong : ChangeSpec := { name := "plainAny", fn := fun _ => fun
  | [d1, d2, d3] => { results := [.lit (.bool false)], args := [d1, d2, d3] }
  | _ => none }
def PlainAnyWrongFalsely : Prop := plainAnyRow.holds Try.pinned (OpenSpec.ofChange plainAnyWrong)

/- THE SECOND FORM. 'bulk': how many values and letters a reading holds, each counted each time it is reached (what is shared counts as often as it is met; a slice's spare places count too). A statement '..UptoSaid' is the law's where the arguments, and the package variables that the reading takes, are together of bulk at most 1048576: NARROWER than '..Said'. Prove '..Said' where nothing that the law and all that it calls make is longer than what came in: it says more and counts as full. Else prove '..UptoSaid'. A law counts once. -/
mutual
def uptoBulk {H : Type} : DataW H → Nat
  | .lit (.string bytes) => bytes.length + 1
  | .lit _ => 1
  | .nil => 1
  | .ptr d => uptoBulk d + 1
  | .slice elems spare => uptoBulkAll elems + uptoBulkAll spare + 1
  | .agg parts => uptoBulkAll parts + 1
  | .iface _ d => uptoBulk d + 1
  | .map entries => uptoBulkEntries entries + 1
  | .held _ => 1
def uptoBulkAll {H : Type} : List (DataW H) → Nat
  | [] => 0
  | d :: r => uptoBulk d + uptoBulkAll r
def uptoBulkEntries {H : Type} : List (Lit × DataW H) → Nat
  | [] => 0
  | x :: r => uptoBulkEntry x + uptoBulkEntries r
def uptoBulkEntry {H : Type} : Lit × DataW H → Nat
  | (.string bytes, d) => bytes.length + uptoBulk d + 1
  | (_, d) => uptoBulk d + 1
 end
def uptoSmall : (H : Type) → List (DataW H) → Bool := fun _ ds => decide (uptoBulkAll ds ≤ 1048576)
def OpenSpec.upto (s : _root_.Go.ChangeSpec) : _root_.Go.OpenSpec := { _root_.Go.OpenSpec.ofChange s with cond := some uptoSmall }

/-- 'retiarylaw21.FeedOwn', WHERE WHAT IT READS IS OF BULK AT MOST 1048576: true; the input reads as it did. -/
def feedOwnUptoRow : OpenClaim := { program := "ytpadfgomhojjnaa", sum := "d230d50eb8ea0369930f05538b7694cea3846fb91fe8c1dc78e0cac2255ab5d8", func := "retiary/retiarylaw21.FeedOwn", spec := "feedOwn", apart := false, narrowed := true }
def FeedOwnUptoSaid : Prop := feedOwnUptoRow.holds Try.pinned (OpenSpec.upto feedOwnSpec)

/-- 'retiarylaw21.FeedOrder', WHERE WHAT IT READS IS OF BULK AT MOST 1048576: true; the input reads as it did. -/
def feedOrderUptoRow : OpenClaim := { program := "ytpadfgomhojjnaa", sum := "d230d50eb8ea0369930f05538b7694cea3846fb91fe8c1dc78e0cac2255ab5d8", func := "retiary/retiarylaw21.FeedOrder", spec := "feedOrder", apart := false, narrowed := true }
def FeedOrderUptoSaid : Prop := feedOrderUptoRow.holds Try.pinned (OpenSpec.upto feedOrderSpec)

/-- 'retiarylaw21.FeedPlays', WHERE WHAT IT READS IS OF BULK AT MOST 1048576: true; the input reads as it did. -/
def feedPlaysUptoRow : OpenClaim := { program := "ytpadfgomhojjnaa", sum := "d230d50eb8ea0369930f05538b7694cea3846fb91fe8c1dc78e0cac2255ab5d8", func := "retiary/retiarylaw21.FeedPlays", spec := "feedPlays", apart := false, narrowed := true }
def FeedPlaysUptoSaid : Prop := feedPlaysUptoRow.holds Try.pinned (OpenSpec.upto feedPlaysSpec)

/-- 'retiarylaw14.PlainTerms', WHERE WHAT IT READS IS OF BULK AT MOST 1048576: true; the input reads as it did. -/
def plainTermsUptoRow : OpenClaim := { program := "ytpadfgomhojjnaa", sum := "d230d50eb8ea0369930f05538b7694cea3846fb91fe8c1dc78e0cac2255ab5d8", func := "retiary/retiarylaw14.PlainTerms", spec := "plainTerms", unfollowed := true, recurses := true, loops := true, apart := false, narrowed := true }
def PlainTermsUptoSaid : Prop := plainTermsUptoRow.holds Try.pinned (OpenSpec.upto plainTermsSpec)

/-- 'retiarylaw14.PlainMore', WHERE WHAT IT READS IS OF BULK AT MOST 1048576: true; the input reads as it did. -/
def plainMoreUptoRow : OpenClaim := { program := "ytpadfgomhojjnaa", sum := "d230d50eb8ea0369930f05538b7694cea3846fb91fe8c1dc78e0cac2255ab5d8", func := "retiary/retiarylaw14.PlainMore", spec := "plainMore", unfollowed := true, recurses := true, loops := true, apart := false, narrowed := true }
def PlainMoreUptoSaid : Prop := plainMoreUptoRow.holds Try.pinned (OpenSpec.upto plainMoreSpec)

/-- 'retiarylaw14.PlainJoins', WHERE WHAT IT READS IS OF BULK AT MOST 1048576: true; the input reads as it did. -/
def plainJoinsUptoRow : OpenClaim := { program := "ytpadfgomhojjnaa", sum := "d230d50eb8ea0369930f05538b7694cea3846fb91fe8c1dc78e0cac2255ab5d8", func := "retiary/retiarylaw14.PlainJoins", spec := "plainJoins", unfollowed := true, recurses := true, loops := true, apart := false, narrowed := true }
def PlainJoinsUptoSaid : Prop := plainJoinsUptoRow.holds Try.pinned (OpenSpec.upto plainJoinsSpec)

/-- 'retiarylaw14.PlainNone', WHERE WHAT IT READS IS OF BULK AT MOST 1048576: true; the input reads as it did. -/
def plainNoneUptoRow : OpenClaim := { program := "ytpadfgomhojjnaa", sum := "d230d50eb8ea0369930f05538b7694cea3846fb91fe8c1dc78e0cac2255ab5d8", func := "retiary/retiarylaw14.PlainNone", spec := "plainNone", unfollowed := true, recurses := true, loops := true, apart := false, narrowed := true }
def PlainNoneUptoSaid : Prop := plainNoneUptoRow.holds Try.pinned (OpenSpec.upto plainNoneSpec)

/-- 'retiarylaw14.PlainSteps', WHERE WHAT IT READS IS OF BULK AT MOST 1048576: true; the input reads as it did. -/
def plainStepsUptoRow : OpenClaim := { program := "ytpadfgomhojjnaa", sum := "d230d50eb8ea0369930f05538b7694cea3846fb91fe8c1dc78e0cac2255ab5d8", func := "retiary/retiarylaw14.PlainSteps", spec := "plainSteps", unfollowed := true, recurses := true, loops := true, apart := false, narrowed := true }
def PlainStepsUptoSaid : Prop := plainStepsUptoRow.holds Try.pinned (OpenSpec.upto plainStepsSpec)

/-- 'retiarylaw14.PlainAny', WHERE WHAT IT READS IS OF BULK AT MOST 1048576: true; the input reads as it did. -/
def plainAnyUptoRow : OpenClaim := { program := "ytpadfgomhojjnaa", sum := "d230d50eb8ea0369930f05538b7694cea3846fb91fe8c1dc78e0cac2255ab5d8", func := "retiary/retiarylaw14.PlainAny", spec := "plainAny", unfollowed := true, recurses := true, loops := true, apart := false, narrowed := true }
def PlainAnyUptoSaid : Prop := plainAnyUptoRow.holds Try.pinned (OpenSpec.upto plainAnySpec)

end Rows
end Go.Proofs.Ytpadfgomhojjnaa
