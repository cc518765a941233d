/-
  NARROWER THAN 'FOR EVERY INPUT', by the rows' own cells (each row's printed sentence says how): ScopeChains: loops · ScopeOwn: loops · ScopeMany: loops · CompNames: loops · CompChains: loops · CompAhead: loops · CompSteps: loops · CompRight: loops.
  DERIVED. THE GIVEN ROWS OF THIS SEAT. 8 by the template 'for every input the law returns true; each argument reads behind the call as it read before'; 0 by the template 'total and deterministic' (their statements: YtoflaphnlfggkaaTotals.lean).
  GIVEN WITH THE SEED: the statements are not yours to turn. If you find one false, say at which input.
  Laid BY PROGRAM, IN A SANDBOX (cutbox-rows.mjs): the forced cells as the released guide's own fill.sh prints them over the translation e20cb63d0fd52fa8… (all of the seat's roots in one cut). By AI agents, Wed Nov 11 2026. No macro, syntax, notation, axiom, sorry.
-/
import Derived.Test.YtoflaphnlfggkaaChecked
import GoSem.Claim
import GoSem.ClaimJoined
import GoSem.ClaimMapViews
import Derived.JoinedTies
import Derived.KernelRfl
namespace Go.Proofs.Ytoflaphnlfggkaa
/- THE CELL 'sum', in the pinned program and in every row, IS THE sha256 OF THE DUMP (.gsa) THAT YtoflaphnlfggkaaProg.lean LOADS. Nothing in Lean hashes anything: it is a label: what it is worth is what the hold of that sum in a sandbox is worth. -/
noncomputable def Try.pinned : Pinned := { name := "ytoflaphnlfggkaa", sum := "e20cb63d0fd52fa8b7d502f5161433338a630d56cecde5bde32ced69d2b09cc6", checked := Try.checked }
namespace Rows
def none {H : Type} : Left H := { results := [], args := [] }

/-- 'retiarylaw06.ScopeChains': WHATEVER THE INPUT: true; the input reads as it did. -/
def scopeChainsSpec : ChangeSpec := { name := "scopeChains", fn := fun _ => fun
  | [d] => { results := [.lit (.bool true)], args := [d] }
  | _ => none }
def scopeChainsRow : OpenClaim := { program := "ytoflaphnlfggkaa", sum := "e20cb63d0fd52fa8b7d502f5161433338a630d56cecde5bde32ced69d2b09cc6", func := "retiary/retiarylaw06.ScopeChains", spec := "scopeChains", unfollowed := true, recurses := true, loops := true, apart := false }
def ScopeChainsSaid : Prop := scopeChainsRow.holds Try.pinned (OpenSpec.ofChange scopeChainsSpec)

/-- ITS FALSE NEIGHBOUR: 'it returns false'. Refute it at one input. -/
def scopeChainsWrong : ChangeSpec := { name := "scopeChains", fn := fun _ => fun
  | [d] => { results := [.lit (.bool false)], args := [d] }
  | _ => none }
def ScopeChainsWrongFalsely : Prop := scopeChainsRow.holds Try.pinned (OpenSpec.ofChange scopeChainsWrong)

/-- 'retiarylaw06.ScopeOwn': WHATEVER THE INPUT: true; the input reads as it did. -/
def scopeOwnSpec : ChangeSpec := { name := "scopeOwn", fn := fun _ => fun
  | [d] => { results := [.lit (.bool true)], args := [d] }
  | _ => none }
def scopeOwnRow : OpenClaim := { program := "ytoflaphnlfggkaa", sum := "e20cb63d0fd52fa8b7d502f5161433338a630d56cecde5bde32ced69d2b09cc6", func := "retiary/retiarylaw06.ScopeOwn", spec := "scopeOwn", unfollowed := true, recurses := true, loops := true, apart := false }
def ScopeOwnSaid : Prop := scopeOwnRow.holds Try.pinned (OpenSpec.ofChange scopeOwnSpec)

/-- ITS FALSE NEIGHBOUR: 'it returns false'. Refute it at one input. -/
def scopeOwnWrong : ChangeSpec := { name := "scopeOwn", fn := fun _ => fun
  | [d] => { results := [.lit (.bool false)], args := [d] }
  | _ => none }
def ScopeOwnWrongFalsely : Prop := scopeOwnRow.holds Try.pinned (OpenSpec.ofChange scopeOwnWrong)

/-- 'retiarylaw06.ScopeMany': WHATEVER THE INPUT: true; the input reads as it did. -/
def scopeManySpec : ChangeSpec := { name := "scopeMany", fn := fun _ => fun
  | [d] => { results := [.lit (.bool true)], args := [d] }
  | _ => none }
def scopeManyRow : OpenClaim := { program := "ytoflaphnlfggkaa", sum := "e20cb63d0fd52fa8b7d502f5161433338a630d56cecde5bde32ced69d2b09cc6", func := "retiary/retiarylaw06.ScopeMany", spec := "scopeMany", unfollowed := true, recurses := true, loops := true, apart := false }
def ScopeManySaid : Prop := scopeManyRow.holds Try.pinned (OpenSpec.ofChange scopeManySpec)

/-- ITS FALSE NEIGHBOUR: 'it returns false'. Refute it at one input. -/
def scopeManyWrong : ChangeSpec := { name := "scopeMany", fn := fun _ => fun
  | [d] => { results := [.lit (.bool false)], args := [d] }
  | _ => none }
def ScopeManyWrongFalsely : Prop := scopeManyRow.holds Try.pinned (OpenSpec.ofChange scopeManyWrong)

/-- 'retiarylaw08.CompNames': WHATEVER THE INPUT: true; the input reads as it did. -/
def compNamesSpec : ChangeSpec := { name := "compNames", fn := fun _ => fun
  | [d1, d2] => { results := [.lit (.bool true)], args := [d1, d2] }
  | _ => none }
def compNamesRow : OpenClaim := { program := "ytoflaphnlfggkaa", sum := "e20cb63d0fd52fa8b7d502f5161433338a630d56cecde5bde32ced69d2b09cc6", func := "retiary/retiarylaw08.CompNames", spec := "compNames", unfollowed := true, recurses := true, loops := true, apart := false }
def CompNamesSaid : Prop := compNamesRow.holds Try.pinned (OpenSpec.ofChange compNamesSpec)

/-- ITS FALSE NEIGHBOUR: 'it returns false'. Refute it at one input. -/
def compNamesWrong : ChangeSpec := { name := "compNames", fn := fun _ => fun
  | [d1, d2] => { results := [.lit (.bool false)], args := [d1, d2] }
  | _ => none }
def CompNamesWrongFalsely : Prop := compNamesRow.holds Try.pinned (OpenSpec.ofChange compNamesWrong)

/-- 'retiarylaw08.CompChains': WHATEVER THE INPUT: true; the input reads as it did. -/
def compChainsSpec : ChangeSpec := { name := "compChains", fn := fun _ => fun
  | [d] => { results := [.lit (.bool true)], args := [d] }
  | _ => none }
def compChainsRow : OpenClaim := { program := "ytoflaphnlfggkaa", sum := "e20cb63d0fd52fa8b7d502f5161433338a630d56cecde5bde32ced69d2b09cc6", func := "retiary/retiarylaw08.CompChains", spec := "compChains", unfollowed := true, recurses := true, loops := true, apart := false }
def CompChainsSaid : Prop := compChainsRow.holds Try.pinned (OpenSpec.ofChange compChainsSpec)

/-- ITS FALSE NEIGHBOUR: 'it returns false'. Refute it at one input. -/
def compChainsWrong : ChangeSpec := { name := "compChains", fn := fun _ => fun
  | [d] => { results := [.lit (.bool false)], args := [d] }
  | _ => none }
def CompChainsWrongFalsely : Prop := compChainsRow.holds Try.pinned (OpenSpec.ofChange compChainsWrong)

/-- 'retiarylaw08.CompAhead': WHATEVER THE INPUT: true; the input reads as it did. -/
def compAheadSpec : ChangeSpec := { name := "compAhead", fn := fun _ => fun
  | [d1, d2] => { results := [.lit (.bool true)], args := [d1, d2] }
  | _ => none }
def compAheadRow : OpenClaim := { program := "ytoflaphnlfggkaa", sum := "e20cb63d0fd52fa8b7d502f5161433338a630d56cecde5bde32ced69d2b09cc6", func := "retiary/retiarylaw08.CompAhead", spec := "compAhead", unfollowed := true, recurses := true, loops := true, apart := false }
def CompAheadSaid : Prop := compAheadRow.holds Try.pinned (OpenSpec.ofChange compAheadSpec)

/-- ITS FALSE NEIGHBOUR: 'it returns false'. Refute it at one input. -/
def compAheadWrong : ChangeSpec := { name := "compAhead", fn := fun _ => fun
  | [d1, d2] => { results := [.lit (.bool false)], args := [d1, d2] }
  | _ => none }
def CompAheadWrongFalsely : Prop := compAheadRow.holds Try.pinned (OpenSpec.ofChange compAheadWrong)

/-- 'retiarylaw08.CompSteps': WHATEVER THE INPUT: true; the input reads as it did. -/
def compStepsSpec : ChangeSpec := { name := "compSteps", fn := fun _ => fun
  | [d1, d2] => { results := [.lit (.bool true)], args := [d1, d2] }
  | _ => none }
def compStepsRow : OpenClaim := { program := "ytoflaphnlfggkaa", sum := "e20cb63d0fd52fa8b7d502f5161433338a630d56cecde5bde32ced69d2b09cc6", func := "retiary/retiarylaw08.CompSteps", spec := "compSteps", unfollowed := true, recurses := true, loops := true, apart := false }
def CompStepsSaid : Prop := compStepsRow.holds Try.pinned (OpenSpec.ofChange compStepsSpec)

/-- ITS FALSE NEIGHBOUR: 'it returns false'. Refute it at one input. -/
def compStepsWrong : ChangeSpec := { name := "compSteps", fn := fun _ => fun
  | [d1, d2] => { results := [.lit (.bool false)], args := [d1, d2] }
  | _ => none }
def CompStepsWrongFalsely : Prop := compStepsRow.holds Try.pinned (OpenSpec.ofChange compStepsWrong)

/-- 'retiarylaw08.CompRight': WHATEVER THE INPUT: true; the input reads as it did. -/
def compRightSpec : ChangeSpec := { name := "compRight", fn := fun _ => fun
  | [d1, d2] => { results := [.lit (.bool true)], args := [d1, d2] }
  | _ => none }
def compRightRow : OpenClaim := { program := "ytoflaphnlfggkaa", sum := "e20cb63d0fd52fa8b7d502f5161433338a630d56cecde5bde32ced69d2b09cc6", func := "retiary/retiarylaw08.CompRight", spec := "compRight", unfollowed := true, recurses := true, loops := true, apart := false }
def CompRightSaid : Prop := compRightRow.holds Try.pinned (OpenSpec.ofChange compRightSpec)

/-- ITS FALSE NEIGHBOUR: 'it returns false'. Refute it at one input. -/
def compRightWrong : ChangeSpec := { name := "compRight", fn := fun _ => fun
  | [d1, d2] => { results := [.lit (.bool false)], args := [d1, d2] }
  | _ => none }
def CompRightWrongFalsely : Prop := compRightRow.holds Try.pinned (OpenSpec.ofChange compRightWrong)

/- THE SECOND FORM. 'bulk': how many values and letters a reading holds, each counted each time it is reached (what is shared counts as often as it is met; a slice's spare places count too). A statement '..UptoSaid' is the law's where the arguments, and the package variables that the reading takes, are together of bulk at most 1048576: NARROWER than '..Said'. Prove '..Said' where nothing that the law and all that it calls make is longer than what came in: it says more and counts as full. Else prove '..UptoSaid'. A law counts once. -/
mutual
def uptoBulk {H : Type} : DataW H → Nat
  | .lit (.string bytes) => bytes.length + 1
  | .lit _ => 1
  | .nil => 1
  | .ptr d => uptoBulk d + 1
  | .slice elems spare => uptoBulkAll elems + uptoBulkAll spare + 1
  | .agg parts => uptoBulkAll parts + 1
  | .iface _ d => uptoBulk d + 1
  | .map entries => uptoBulkEntries entries + 1
  | .held _ => 1
def uptoBulkAll {H : Type} : List (DataW H) → Nat
  | [] => 0
  | d :: r => uptoBulk d + uptoBulkAll r
def uptoBulkEntries {H : Type} : List (Lit × DataW H) → Nat
  | [] => 0
  | x :: r => uptoBulkEntry x + uptoBulkEntries r
def uptoBulkEntry {H : Type} : Lit × DataW H → Nat
  | (.string bytes, d) => bytes.length + uptoBulk d + 1
  | (_, d) => uptoBulk d + 1
 end
def uptoSmall : (H : Type) → List (DataW H) → Bool := fun _ ds => decide (uptoBulkAll ds ≤ 1048576)
def OpenSpec.upto (s : _root_.Go.ChangeSpec) : _root_.Go.OpenSpec := { _root_.Go.OpenSpec.ofChange s with cond := some uptoSmall }

/-- 'retiarylaw06.ScopeChains', WHERE WHAT IT READS IS OF BULK AT MOST 1048576: true; the input reads as it did. -/
def scopeChainsUptoRow : OpenClaim := { program := "ytoflaphnlfggkaa", sum := "e20cb63d0fd52fa8b7d502f5161433338a630d56cecde5bde32ced69d2b09cc6", func := "retiary/retiarylaw06.ScopeChains", spec := "scopeChains", unfollowed := true, recurses := true, loops := true, apart := false, narrowed := true }
def ScopeChainsUptoSaid : Prop := scopeChainsUptoRow.holds Try.pinned (OpenSpec.upto scopeChainsSpec)

/-- 'retiarylaw06.ScopeOwn', WHERE WHAT IT READS IS OF BULK AT MOST 1048576: true; the input reads as it did. -/
def scopeOwnUptoRow : OpenClaim := { program := "ytoflaphnlfggkaa", sum := "e20cb63d0fd52fa8b7d502f5161433338a630d56cecde5bde32ced69d2b09cc6", func := "retiary/retiarylaw06.ScopeOwn", spec := "scopeOwn", unfollowed := true, recurses := true, loops := true, apart := false, narrowed := true }
def ScopeOwnUptoSaid : Prop := scopeOwnUptoRow.holds Try.pinned (OpenSpec.upto scopeOwnSpec)

/-- 'retiarylaw06.ScopeMany', WHERE WHAT IT READS IS OF BULK AT MOST 1048576: true; the input reads as it did. -/
def scopeManyUptoRow : OpenClaim := { program := "ytoflaphnlfggkaa", sum := "e20cb63d0fd52fa8b7d502f5161433338a630d56cecde5bde32ced69d2b09cc6", func := "retiary/retiarylaw06.ScopeMany", spec := "scopeMany", unfollowed := true, recurses := true, loops := true, apart := false, narrowed := true }
def ScopeManyUptoSaid : Prop := scopeManyUptoRow.holds Try.pinned (OpenSpec.upto scopeManySpec)

/-- 'retiarylaw08.CompNames', WHERE WHAT IT READS IS OF BULK AT MOST 1048576: true; the input reads as it did. -/
def compNamesUptoRow : OpenClaim := { program := "ytoflaphnlfggkaa", sum := "e20cb63d0fd52fa8b7d502f5161433338a630d56cecde5bde32ced69d2b09cc6", func := "retiary/retiarylaw08.CompNames", spec := "compNames", unfollowed := true, recurses := true, loops := true, apart := false, narrowed := true }
def CompNamesUptoSaid : Prop := compNamesUptoRow.holds Try.pinned (OpenSpec.upto compNamesSpec)

/-- 'retiarylaw08.CompChains', WHERE WHAT IT READS IS OF BULK AT MOST 1048576: true; the input reads as it did. -/
def compChainsUptoRow : OpenClaim := { program := "ytoflaphnlfggkaa", sum := "e20cb63d0fd52fa8b7d502f5161433338a630d56cecde5bde32ced69d2b09cc6", func := "retiary/retiarylaw08.CompChains", spec := "compChains", unfollowed := true, recurses := true, loops := true, apart := false, narrowed := true }
def CompChainsUptoSaid : Prop := compChainsUptoRow.holds Try.pinned (OpenSpec.upto compChainsSpec)

/-- 'retiarylaw08.CompAhead', WHERE WHAT IT READS IS OF BULK AT MOST 1048576: true; the input reads as it did. -/
def compAheadUptoRow : OpenClaim := { program := "ytoflaphnlfggkaa", sum := "e20cb63d0fd52fa8b7d502f5161433338a630d56cecde5bde32ced69d2b09cc6", func := "retiary/retiarylaw08.CompAhead", spec := "compAhead", unfollowed := true, recurses := true, loops := true, apart := false, narrowed := true }
def CompAheadUptoSaid : Prop := compAheadUptoRow.holds Try.pinned (OpenSpec.upto compAheadSpec)

/-- 'retiarylaw08.CompSteps', WHERE WHAT IT READS IS OF BULK AT MOST 1048576: true; the input reads as it did. -/
def compStepsUptoRow : OpenClaim := { program := "ytoflaphnlfggkaa", sum := "e20cb63d0fd52fa8b7d502f5161433338a630d56cecde5bde32ced69d2b09cc6", func := "retiary/retiarylaw08.CompSteps", spec := "compSteps", unfollowed := true, recurses := true, loops := true, apart := false, narrowed := true }
def CompStepsUptoSaid : Prop := compStepsUptoRow.holds Try.pinned (OpenSpec.upto compStepsSpec)

/-- 'retiarylaw08.CompRight', WHERE WHAT IT READS IS OF BULK AT MOST 1048576: true; the input reads as it did. -/
def compRightUptoRow : OpenClaim := { program := "ytoflaphnlfggkaa", sum := "e20cb63d0fd52fa8b7d502f5161433338a630d56cecde5bde32ced69d2b09cc6", func := "retiary/retiarylaw08.CompRight", spec := "compRight", unfollowed := true, recurses := true, loops := true, apart := false, narrowed := true }
def CompRightUptoSaid : Prop := compRightUptoRow.holds Try.pinned (OpenSpec.upto compRightSpec)

end Rows
end Go.Proofs.Ytoflaphnlfggkaa
