/-
  NARROWER THAN 'FOR EVERY INPUT', by the rows' own cells (each row's printed sentence says how): CondChecks: loops · CondHigher: loops · CondCopies: loops · RuleChecks: loops · RulePlaces: loops · RuleFewer: loops · RuleTurns: loops · CondTells: loops.
  DERIVED. THE GIVEN ROWS OF THIS SEAT. 8 by the template 'for every input the law returns true; each argument reads behind the call as it read before'; 0 by the template 'total and deterministic' (their statements: YtpcpbfajadgmpaaTotals.lean).
  GIVEN WITH THE SEED: the statements are not yours to turn. If you find one false, say at which input.
  Laid BY PROGRAM, IN A SANDBOX (cutbox-rows.mjs): the forced cells as the released guide's own fill.sh prints them over the translation 183af504c7c648d3… (all of the seat's roots in one cut). By AI agents, Wed Nov 11 2026. No macro, syntax, notation, axiom, sorry.
-/
import Derived.Test.YtpcpbfajadgmpaaChecked
import GoSem.Claim
import GoSem.ClaimJoined
import GoSem.ClaimMapViews
import Derived.JoinedTies
import Derived.KernelRfl
namespace Go.Proofs.Ytpcpbfajadgmpaa
/- THE CELL 'sum', in the pinned program and in every row, IS THE sha256 OF THE DUMP (.gsa) THAT YtpcpbfajadgmpaaProg.lean LOADS. Nothing in Lean hashes anything: it is a label: what it is worth is what the hold of that sum in a sandbox is worth. -/
noncomputable def Try.pinned : Pinned := { name := "ytpcpbfajadgmpaa", sum := "183af504c7c648d3f4a871c846d0195d7856323e1bacb841d281a61d8d0adb45", checked := Try.checked }
namespace Rows
def none {H : Type} : Left H := { results := [], args := [] }

/-- 'retiarylaw04.CondChecks': WHATEVER THE INPUT: true; the input reads as it did. -/
def condChecksSpec : ChangeSpec := { name := "condChecks", fn := fun _ => fun
  | [d1, d2] => { results := [.lit (.bool true)], args := [d1, d2] }
  | _ => none }
def condChecksRow : OpenClaim := { program := "ytpcpbfajadgmpaa", sum := "183af504c7c648d3f4a871c846d0195d7856323e1bacb841d281a61d8d0adb45", func := "retiary/retiarylaw04.CondChecks", spec := "condChecks", recurses := true, loops := true, apart := false }
def CondChecksSaid : Prop := condChecksRow.holds Try.pinned (OpenSpec.ofChange condChecksSpec)

/-- ITS FALSE NEIGHBOUR: 'it returns false'. Refute it at one input. -/
def condChecksWrong : ChangeSpec := { name := "condChecks", fn := fun _ => fun
  | [d1, d2] => { results := [.lit (.bool false)], args := [d1, d2] }
  | _ => none }
def CondChecksWrongFalsely : Prop := condChecksRow.holds Try.pinned (OpenSpec.ofChange condChecksWrong)

/-- 'retiarylaw04.CondHigher': WHATEVER THE INPUT: true; the input reads as it did. -/
def condHigherSpec : ChangeSpec := { name := "condHigher", fn := fun _ => fun
  | [d] => { results := [.lit (.bool true)], args := [d] }
  | _ => none }
def condHigherRow : OpenClaim := { program := "ytpcpbfajadgmpaa", sum := "183af504c7c648d3f4a871c846d0195d7856323e1bacb841d281a61d8d0adb45", func := "retiary/retiarylaw04.CondHigher", spec := "condHigher", recurses := true, loops := true, apart := false }
def CondHigherSaid : Prop := condHigherRow.holds Try.pinned (OpenSpec.ofChange condHigherSpec)

/-- ITS FALSE NEIGHBOUR: 'it returns false'. Refute it at one input. -/
def condHigherWrong : ChangeSpec := { name := "condHigher", fn := fun _ => fun
  | [d] => { results := [.lit (.bool false)], args := [d] }
  | _ => none }
def CondHigherWrongFalsely : Prop := condHigherRow.holds Try.pinned (OpenSpec.ofChange condHigherWrong)

/-- 'retiarylaw04.CondCopies': WHATEVER THE INPUT: true; the input reads as it did. -/
def condCopiesSpec : ChangeSpec := { name := "condCopies", fn := fun _ => fun
  | [d1, d2] => { results := [.lit (.bool true)], args := [d1, d2] }
  | _ => none }
def condCopiesRow : OpenClaim := { program := "ytpcpbfajadgmpaa", sum := "183af504c7c648d3f4a871c846d0195d7856323e1bacb841d281a61d8d0adb45", func := "retiary/retiarylaw04.CondCopies", spec := "condCopies", unfollowed := true, recurses := true, loops := true, apart := false }
def CondCopiesSaid : Prop := condCopiesRow.holds Try.pinned (OpenSpec.ofChange condCopiesSpec)

/-- ITS FALSE NEIGHBOUR: 'it returns false'. Refute it at one input. -/
def condCopiesWrong : ChangeSpec := { name := "condCopies", fn := fun _ => fun
  | [d1, d2] => { results := [.lit (.bool false)], args := [d1, d2] }
  | _ => none }
def CondCopiesWrongFalsely : Prop := condCopiesRow.holds Try.pinned (OpenSpec.ofChange condCopiesWrong)

/-- 'retiarylaw05.RuleChecks': WHATEVER THE INPUT: true; the input reads as it did. -/
def ruleChecksSpec : ChangeSpec := { name := "ruleChecks", fn := fun _ => fun
  | [d] => { results := [.lit (.bool true)], args := [d] }
  | _ => none }
def ruleChecksRow : OpenClaim := { program := "ytpcpbfajadgmpaa", sum := "183af504c7c648d3f4a871c846d0195d7856323e1bacb841d281a61d8d0adb45", func := "retiary/retiarylaw05.RuleChecks", spec := "ruleChecks", unfollowed := true, recurses := true, loops := true, apart := false }
def RuleChecksSaid : Prop := ruleChecksRow.holds Try.pinned (OpenSpec.ofChange ruleChecksSpec)

/-- ITS FALSE NEIGHBOUR: 'it returns false'. Refute it at one input. -/
def ruleChecksWrong : ChangeSpec := { name := "ruleChecks", fn := fun _ => fun
  | [d] => { results := [.lit (.bool false)], args := [d] }
  | _ => none }
def RuleChecksWrongFalsely : Prop := ruleChecksRow.holds Try.pinned (OpenSpec.ofChange ruleChecksWrong)

/-- 'retiarylaw05.RulePlaces': WHATEVER THE INPUT: true; the input reads as it did. -/
def rulePlacesSpec : ChangeSpec := { name := "rulePlaces", fn := fun _ => fun
  | [d1, d2] => { results := [.lit (.bool true)], args := [d1, d2] }
  | _ => none }
def rulePlacesRow : OpenClaim := { program := "ytpcpbfajadgmpaa", sum := "183af504c7c648d3f4a871c846d0195d7856323e1bacb841d281a61d8d0adb45", func := "retiary/retiarylaw05.RulePlaces", spec := "rulePlaces", unfollowed := true, recurses := true, loops := true, apart := false }
def RulePlacesSaid : Prop := rulePlacesRow.holds Try.pinned (OpenSpec.ofChange rulePlacesSpec)

/-- ITS FALSE NEIGHBOUR: 'it returns false'. Refute it at one input. -/
def rulePlacesWrong : ChangeSpec := { name := "rulePlaces", fn := fun _ => fun
  | [d1, d2] => { results := [.lit (.bool false)], args := [d1, d2] }
  | _ => none }
def RulePlacesWrongFalsely : Prop := rulePlacesRow.holds Try.pinned (OpenSpec.ofChange rulePlacesWrong)

/-- 'retiarylaw05.RuleFewer': WHATEVER THE INPUT: true; the input reads as it did. -/
def ruleFewerSpec : ChangeSpec := { name := "ruleFewer", fn := fun _ => fun
  | [d1, d2] => { results := [.lit (.bool true)], args := [d1, d2] }
  | _ => none }
def ruleFewerRow : OpenClaim := { program := "ytpcpbfajadgmpaa", sum := "183af504c7c648d3f4a871c846d0195d7856323e1bacb841d281a61d8d0adb45", func := "retiary/retiarylaw05.RuleFewer", spec := "ruleFewer", unfollowed := true, recurses := true, loops := true, apart := false }
def RuleFewerSaid : Prop := ruleFewerRow.holds Try.pinned (OpenSpec.ofChange ruleFewerSpec)

/-- ITS FALSE NEIGHBOUR: 'it returns false'. Refute it at one input. -/
def ruleFewerWrong : ChangeSpec := { name := "ruleFewer", fn := fun _ => fun
  | [d1, d2] => { results := [.lit (.bool false)], args := [d1, d2] }
  | _ => none }
def RuleFewerWrongFalsely : Prop := ruleFewerRow.holds Try.pinned (OpenSpec.ofChange ruleFewerWrong)

/-- 'retiarylaw05.RuleTurns': WHATEVER THE INPUT: true; the input reads as it did. -/
def ruleTurnsSpec : ChangeSpec := { name := "ruleTurns", fn := fun _ => fun
  | [d1, d2] => { results := [.lit (.bool true)], args := [d1, d2] }
  | _ => none }
def ruleTurnsRow : OpenClaim := { program := "ytpcpbfajadgmpaa", sum := "183af504c7c648d3f4a871c846d0195d7856323e1bacb841d281a61d8d0adb45", func := "retiary/retiarylaw05.RuleTurns", spec := "ruleTurns", unfollowed := true, recurses := true, loops := true, apart := false }
def RuleTurnsSaid : Prop := ruleTurnsRow.holds Try.pinned (OpenSpec.ofChange ruleTurnsSpec)

/-- ITS FALSE NEIGHBOUR: 'it returns false'. Refute it at one input. -/
def ruleTurnsWrong : ChangeSpec := { name := "ruleTurns", fn := fun _ => fun
  | [d1, d2] => { results := [.lit (.bool false)], args := [d1, d2] }
  | _ => none }
def RuleTurnsWrongFalsely : Prop := ruleTurnsRow.holds Try.pinned (OpenSpec.ofChange ruleTurnsWrong)

/-- 'retiarylaw04.CondTells': WHATEVER THE INPUT: true; the input reads as it did. -/
def condTellsSpec : ChangeSpec := { name := "condTells", fn := fun _ => fun
  | [d] => { results := [.lit (.bool true)], args := [d] }
  | _ => none }
def condTellsRow : OpenClaim := { program := "ytpcpbfajadgmpaa", sum := "183af504c7c648d3f4a871c846d0195d7856323e1bacb841d281a61d8d0adb45", func := "retiary/retiarylaw04.CondTells", spec := "condTells", recurses := true, loops := true, apart := false }
def CondTellsSaid : Prop := condTellsRow.holds Try.pinned (OpenSpec.ofChange condTellsSpec)

/-- ITS FALSE NEIGHBOUR: 'it returns false'. Refute it at one input. -/
def condTellsWrong : ChangeSpec := { name := "condTells", fn := fun _ => fun
  | [d] => { results := [.lit (.bool false)], args := [d] }
  | _ => none }
def CondTellsWrongFalsely : Prop := condTellsRow.holds Try.pinned (OpenSpec.ofChange condTellsWrong)

/- THE SECOND FORM. 'bulk': how many values and letters a reading holds, each counted each time it is reached (what is shared counts as often as it is met; a slice's spare places count too). A statement '..UptoSaid' is the law's where the arguments, and the package variables that the reading takes, are together of bulk at most 1048576: NARROWER than '..Said'. Prove '..Said' where nothing that the law and all that it calls make is longer than what came in: it says more and counts as full. Else prove '..UptoSaid'. A law counts once. -/
mutual
def uptoBulk {H : Type} : DataW H → Nat
  | .lit (.string bytes) => bytes.length + 1
  | .lit _ => 1
  | .nil => 1
  | .ptr d => uptoBulk d + 1
  | .slice elems spare => uptoBulkAll elems + uptoBulkAll spare + 1
  | .agg parts => uptoBulkAll parts + 1
  | .iface _ d => uptoBulk d + 1
  | .map entries => uptoBulkEntries entries + 1
  | .held _ => 1
def uptoBulkAll {H : Type} : List (DataW H) → Nat
  | [] => 0
  | d :: r => uptoBulk d + uptoBulkAll r
def uptoBulkEntries {H : Type} : List (Lit × DataW H) → Nat
  | [] => 0
  | x :: r => uptoBulkEntry x + uptoBulkEntries r
def uptoBulkEntry {H : Type} : Lit × DataW H → Nat
  | (.string bytes, d) => bytes.length + uptoBulk d + 1
  | (_, d) => uptoBulk d + 1
 end
def uptoSmall : (H : Type) → List (DataW H) → Bool := fun _ ds => decide (uptoBulkAll ds ≤ 1048576)
def OpenSpec.upto (s : _root_.Go.ChangeSpec) : _root_.Go.OpenSpec := { _root_.Go.OpenSpec.ofChange s with cond := some uptoSmall }

/-- 'retiarylaw04.CondChecks', WHERE WHAT IT READS IS OF BULK AT MOST 1048576: true; the input reads as it did. -/
def condChecksUptoRow : OpenClaim := { program := "ytpcpbfajadgmpaa", sum := "183af504c7c648d3f4a871c846d0195d7856323e1bacb841d281a61d8d0adb45", func := "retiary/retiarylaw04.CondChecks", spec := "condChecks", recurses := true, loops := true, apart := false, narrowed := true }
def CondChecksUptoSaid : Prop := condChecksUptoRow.holds Try.pinned (OpenSpec.upto condChecksSpec)

/-- 'retiarylaw04.CondHigher', WHERE WHAT IT READS IS OF BULK AT MOST 1048576: true; the input reads as it did. -/
def condHigherUptoRow : OpenClaim := { program := "ytpcpbfajadgmpaa", sum := "183af504c7c648d3f4a871c846d0195d7856323e1bacb841d281a61d8d0adb45", func := "retiary/retiarylaw04.CondHigher", spec := "condHigher", recurses := true, loops := true, apart := false, narrowed := true }
def CondHigherUptoSaid : Prop := condHigherUptoRow.holds Try.pinned (OpenSpec.upto condHigherSpec)

/-- 'retiarylaw04.CondCopies', WHERE WHAT IT READS IS OF BULK AT MOST 1048576: true; the input reads as it did. -/
def condCopiesUptoRow : OpenClaim := { program := "ytpcpbfajadgmpaa", sum := "183af504c7c648d3f4a871c846d0195d7856323e1bacb841d281a61d8d0adb45", func := "retiary/retiarylaw04.CondCopies", spec := "condCopies", unfollowed := true, recurses := true, loops := true, apart := false, narrowed := true }
def CondCopiesUptoSaid : Prop := condCopiesUptoRow.holds Try.pinned (OpenSpec.upto condCopiesSpec)

/-- 'retiarylaw05.RuleChecks', WHERE WHAT IT READS IS OF BULK AT MOST 1048576: true; the input reads as it did. -/
def ruleChecksUptoRow : OpenClaim := { program := "ytpcpbfajadgmpaa", sum := "183af504c7c648d3f4a871c846d0195d7856323e1bacb841d281a61d8d0adb45", func := "retiary/retiarylaw05.RuleChecks", spec := "ruleChecks", unfollowed := true, recurses := true, loops := true, apart := false, narrowed := true }
def RuleChecksUptoSaid : Prop := ruleChecksUptoRow.holds Try.pinned (OpenSpec.upto ruleChecksSpec)

/-- 'retiarylaw05.RulePlaces', WHERE WHAT IT READS IS OF BULK AT MOST 1048576: true; the input reads as it did. -/
def rulePlacesUptoRow : OpenClaim := { program := "ytpcpbfajadgmpaa", sum := "183af504c7c648d3f4a871c846d0195d7856323e1bacb841d281a61d8d0adb45", func := "retiary/retiarylaw05.RulePlaces", spec := "rulePlaces", unfollowed := true, recurses := true, loops := true, apart := false, narrowed := true }
def RulePlacesUptoSaid : Prop := rulePlacesUptoRow.holds Try.pinned (OpenSpec.upto rulePlacesSpec)

/-- 'retiarylaw05.RuleFewer', WHERE WHAT IT READS IS OF BULK AT MOST 1048576: true; the input reads as it did. -/
def ruleFewerUptoRow : OpenClaim := { program := "ytpcpbfajadgmpaa", sum := "183af504c7c648d3f4a871c846d0195d7856323e1bacb841d281a61d8d0adb45", func := "retiary/retiarylaw05.RuleFewer", spec := "ruleFewer", unfollowed := true, recurses := true, loops := true, apart := false, narrowed := true }
def RuleFewerUptoSaid : Prop := ruleFewerUptoRow.holds Try.pinned (OpenSpec.upto ruleFewerSpec)

/-- 'retiarylaw05.RuleTurns', WHERE WHAT IT READS IS OF BULK AT MOST 1048576: true; the input reads as it did. -/
def ruleTurnsUptoRow : OpenClaim := { program := "ytpcpbfajadgmpaa", sum := "183af504c7c648d3f4a871c846d0195d7856323e1bacb841d281a61d8d0adb45", func := "retiary/retiarylaw05.RuleTurns", spec := "ruleTurns", unfollowed := true, recurses := true, loops := true, apart := false, narrowed := true }
def RuleTurnsUptoSaid : Prop := ruleTurnsUptoRow.holds Try.pinned (OpenSpec.upto ruleTurnsSpec)

/-- 'retiarylaw04.CondTells', WHERE WHAT IT READS IS OF BULK AT MOST 1048576: true; the input reads as it did. -/
def condTellsUptoRow : OpenClaim := { program := "ytpcpbfajadgmpaa", sum := "183af504c7c648d3f4a871c846d0195d7856323e1bacb841d281a61d8d0adb45", func := "retiary/retiarylaw04.CondTells", spec := "condTells", recurses := true, loops := true, apart := false, narrowed := true }
def CondTellsUptoSaid : Prop := condTellsUptoRow.holds Try.pinned (OpenSpec.upto condTellsSpec)

end Rows
end Go.Proofs.Ytpcpbfajadgmpaa
