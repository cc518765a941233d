/-
  NARROWER THAN 'FOR EVERY INPUT', by the rows' own cells (each row's printed sentence says how): TestTerms: loops · TestMore: loops · TestKinds: loops.
  DERIVED. THE GIVEN ROWS OF THIS SEAT. 9 by the template 'for every input the law returns true; each argument reads behind the call as it read before'; 0 by the template 'total and deterministic' (their statements: YtinbigokigkfaaaTotals.lean).
  GIVEN WITH THE SEED: the statements are not yours to turn. If you find one false, say at which input.
  Laid BY PROGRAM, IN A SANDBOX (cutbox-rows.mjs): the forced cells as the released guide's own fill.sh prints them over the translation ef0af2652f738107… (all of the seat's roots in one cut). By AI agents, Wed Nov 11 2026. No macro, syntax, notation, axiom, sorry.
-/
import Derived.Test.YtinbigokigkfaaaChecked
import GoSem.Claim
import GoSem.ClaimJoined
import GoSem.ClaimMapViews
import Derived.JoinedTies
import Derived.KernelRfl
namespace Go.Proofs.Ytinbigokigkfaaa
/- THE CELL 'sum', in the pinned program and in every row, IS THE sha256 OF THE DUMP (.gsa) THAT YtinbigokigkfaaaProg.lean LOADS. Nothing in Lean hashes anything: it is a label: what it is worth is what the hold of that sum in a sandbox is worth. -/
noncomputable def Try.pinned : Pinned := { name := "ytinbigokigkfaaa", sum := "ef0af2652f7381071daf3212a594f8713784a92bb87753d7b6ce2a6f74a8e0fb", checked := Try.checked }
namespace Rows
def none {H : Type} : Left H := { results := [], args := [] }

/-- 'retiarylaw10.TallyTypes': WHATEVER THE INPUT: true; the input reads as it did. -/
def tallyTypesSpec : ChangeSpec := { name := "tallyTypes", fn := fun _ => fun
  | [d] => { results := [.lit (.bool true)], args := [d] }
  | _ => none }
def tallyTypesRow : OpenClaim := { program := "ytinbigokigkfaaa", sum := "ef0af2652f7381071daf3212a594f8713784a92bb87753d7b6ce2a6f74a8e0fb", func := "retiary/retiarylaw10.TallyTypes", spec := "tallyTypes", plainKeys := false, apart := false }
def TallyTypesSaid : Prop := tallyTypesRow.holds Try.pinned (OpenSpec.ofChange tallyTypesSpec)

/-- ITS FALSE NEIGHBOUR: 'it returns false'. Refute it at one input. -/
def tallyTypesWrong : ChangeSpec := { name := "tallyTypes", fn := fun _ => fun
  | [d] => { results := [.lit (.bool false)], args := [d] }
  | _ => none }
def TallyTypesWrongFalsely : Prop := tallyTypesRow.holds Try.pinned (OpenSpec.ofChange tallyTypesWrong)

/-- 'retiarylaw13.TestTerms': WHATEVER THE INPUT: true; the input reads as it did. -/
def testTermsSpec : ChangeSpec := { name := "testTerms", fn := fun _ => fun
  | [d1, d2] => { results := [.lit (.bool true)], args := [d1, d2] }
  | _ => none }
def testTermsRow : OpenClaim := { program := "ytinbigokigkfaaa", sum := "ef0af2652f7381071daf3212a594f8713784a92bb87753d7b6ce2a6f74a8e0fb", func := "retiary/retiarylaw13.TestTerms", spec := "testTerms", recurses := true, loops := true, plainKeys := false, apart := false }
def TestTermsSaid : Prop := testTermsRow.holds Try.pinned (OpenSpec.ofChange testTermsSpec)

/-- ITS FALSE NEIGHBOUR: 'it returns false'. Refute it at one input. -/
def testTermsWrong : ChangeSpec := { name := "testTerms", fn := fun _ => fun
  | [d1, d2] => { results := [.lit (.bool false)], args := [d1, d2] }
  | _ => none }
def TestTermsWrongFalsely : Prop := testTermsRow.holds Try.pinned (OpenSpec.ofChange testTermsWrong)

/-- 'retiarylaw13.TestMore': WHATEVER THE INPUT: true; the input reads as it did. -/
def testMoreSpec : ChangeSpec := { name := "testMore", fn := fun _ => fun
  | [d1, d2, d3] => { results := [.lit (.bool true)], args := [d1, d2, d3] }
  | _ => none }
def testMoreRow : OpenClaim := { program := "ytinbigokigkfaaa", sum := "ef0af2652f7381071daf3212a594f8713784a92bb87753d7b6ce2a6f74a8e0fb", func := "retiary/retiarylaw13.TestMore", spec := "testMore", recurses := true, loops := true, plainKeys := false, apart := false }
def TestMoreSaid : Prop := testMoreRow.holds Try.pinned (OpenSpec.ofChange testMoreSpec)

/-- ITS FALSE NEIGHBOUR: 'it returns false'. Refute it at one input. -/
def testMoreWrong : ChangeSpec := { name := "testMore", fn := fun _ => fun
  | [d1, d2, d3] => { results := [.lit (.bool false)], args := [d1, d2, d3] }
  | _ => none }
def TestMoreWrongFalsely : Prop := testMoreRow.holds Try.pinned (OpenSpec.ofChange testMoreWrong)

/-- 'retiarylaw13.TestKinds': WHATEVER THE INPUT: true; the input reads as it did. -/
def testKindsSpec : ChangeSpec := { name := "testKinds", fn := fun _ => fun
  | [d1, d2, d3] => { results := [.lit (.bool true)], args := [d1, d2, d3] }
  | _ => none }
def testKindsRow : OpenClaim := { program := "ytinbigokigkfaaa", sum := "ef0af2652f7381071daf3212a594f8713784a92bb87753d7b6ce2a6f74a8e0fb", func := "retiary/retiarylaw13.TestKinds", spec := "testKinds", recurses := true, loops := true, plainKeys := false, apart := false }
def TestKindsSaid : Prop := testKindsRow.holds Try.pinned (OpenSpec.ofChange testKindsSpec)

/-- ITS FALSE NEIGHBOUR: 'it returns false'. Refute it at one input. -/
def testKindsWrong : ChangeSpec := { name := "testKinds", fn := fun _ => fun
  | [d1, d2, d3] => { results := [.lit (.bool false)], args := [d1, d2, d3] }
  | _ => none }
def TestKindsWrongFalsely : Prop := testKindsRow.holds Try.pinned (OpenSpec.ofChange testKindsWrong)

/-- 'retiarylaw11.WmFull': WHATEVER THE INPUT: true; the input reads as it did. -/
def wmFullSpec : ChangeSpec := { name := "wmFull", fn := fun _ => fun
  | [d1, d2] => { results := [.lit (.bool true)], args := [d1, d2] }
  | _ => none }
def wmFullRow : OpenClaim := { program := "ytinbigokigkfaaa", sum := "ef0af2652f7381071daf3212a594f8713784a92bb87753d7b6ce2a6f74a8e0fb", func := "retiary/retiarylaw11.WmFull", spec := "wmFull", plainKeys := false, apart := false }
def WmFullSaid : Prop := wmFullRow.holds Try.pinned (OpenSpec.ofChange wmFullSpec)

/-- ITS FALSE NEIGHBOUR: 'it returns false'. Refute it at one input. -/
def wmFullWrong : ChangeSpec := { name := "wmFull", fn := fun _ => fun
  | [d1, d2] => { results := [.lit (.bool false)], args := [d1, d2] }
  | _ => none }
def WmFullWrongFalsely : Prop := wmFullRow.holds Try.pinned (OpenSpec.ofChange wmFullWrong)

/-- 'retiarylaw10.TallyPlays': WHATEVER THE INPUT: true; the input reads as it did. -/
def tallyPlaysSpec : ChangeSpec := { name := "tallyPlays", fn := fun _ => fun
  | [d] => { results := [.lit (.bool true)], args := [d] }
  | _ => none }
def tallyPlaysRow : OpenClaim := { program := "ytinbigokigkfaaa", sum := "ef0af2652f7381071daf3212a594f8713784a92bb87753d7b6ce2a6f74a8e0fb", func := "retiary/retiarylaw10.TallyPlays", spec := "tallyPlays", unfollowed := true, recurses := true, plainKeys := false, apart := false }
def TallyPlaysSaid : Prop := tallyPlaysRow.holds Try.pinned (OpenSpec.ofChange tallyPlaysSpec)

/-- ITS FALSE NEIGHBOUR: 'it returns false'. Refute it at one input. -/
def tallyPlaysWrong : ChangeSpec := { name := "tallyPlays", fn := fun _ => fun
  | [d] => { results := [.lit (.bool false)], args := [d] }
  | _ => none }
def TallyPlaysWrongFalsely : Prop := tallyPlaysRow.holds Try.pinned (OpenSpec.ofChange tallyPlaysWrong)

/-- 'retiarylaw10.TallyBack': WHATEVER THE INPUT: true; the input reads as it did. -/
def tallyBackSpec : ChangeSpec := { name := "tallyBack", fn := fun _ => fun
  | [d] => { results := [.lit (.bool true)], args := [d] }
  | _ => none }
def tallyBackRow : OpenClaim := { program := "ytinbigokigkfaaa", sum := "ef0af2652f7381071daf3212a594f8713784a92bb87753d7b6ce2a6f74a8e0fb", func := "retiary/retiarylaw10.TallyBack", spec := "tallyBack", unfollowed := true, recurses := true, plainKeys := false, apart := false }
def TallyBackSaid : Prop := tallyBackRow.holds Try.pinned (OpenSpec.ofChange tallyBackSpec)

/-- ITS FALSE NEIGHBOUR: 'it returns false'. Refute it at one input. -/
def tallyBackWrong : ChangeSpec := { name := "tallyBack", fn := fun _ => fun
  | [d] => { results := [.lit (.bool false)], args := [d] }
  | _ => none }
def TallyBackWrongFalsely : Prop := tallyBackRow.holds Try.pinned (OpenSpec.ofChange tallyBackWrong)

/-- 'retiarylaw11.WmIds': WHATEVER THE INPUT: true; the input reads as it did. -/
def wmIdsSpec : ChangeSpec := { name := "wmIds", fn := fun _ => fun
  | [d1, d2] => { results := [.lit (.bool true)], args := [d1, d2] }
  | _ => none }
def wmIdsRow : OpenClaim := { program := "ytinbigokigkfaaa", sum := "ef0af2652f7381071daf3212a594f8713784a92bb87753d7b6ce2a6f74a8e0fb", func := "retiary/retiarylaw11.WmIds", spec := "wmIds", unfollowed := true, recurses := true, plainKeys := false, apart := false }
def WmIdsSaid : Prop := wmIdsRow.holds Try.pinned (OpenSpec.ofChange wmIdsSpec)

/-- ITS FALSE NEIGHBOUR: 'it returns false'. Refute it at one input. -/
def wmIdsWrong : ChangeSpec := { name := "wmIds", fn := fun _ => fun
  | [d1, d2] => { results := [.lit (.bool false)], args := [d1, d2] }
  | _ => none }
def WmIdsWrongFalsely : Prop := wmIdsRow.holds Try.pinned (OpenSpec.ofChange wmIdsWrong)

/-- 'retiarylaw11.WmPlays': WHATEVER THE INPUT: true; the input reads as it did. -/
def wmPlaysSpec : ChangeSpec := { name := "wmPlays", fn := fun _ => fun
  | [d1, d2] => { results := [.lit (.bool true)], args := [d1, d2] }
  | _ => none }
def wmPlaysRow : OpenClaim := { program := "ytinbigokigkfaaa", sum := "ef0af2652f7381071daf3212a594f8713784a92bb87753d7b6ce2a6f74a8e0fb", func := "retiary/retiarylaw11.WmPlays", spec := "wmPlays", unfollowed := true, recurses := true, plainKeys := false, apart := false }
def WmPlaysSaid : Prop := wmPlaysRow.holds Try.pinned (OpenSpec.ofChange wmPlaysSpec)

/-- ITS FALSE NEIGHBOUR: 'it returns false'. Refute it at one input. -/
def wmPlaysWrong : ChangeSpec := { name := "wmPlays", fn := fun _ => fun
  | [d1, d2] => { results := [.lit (.bool false)], args := [d1, d2] }
  | _ => none }
def WmPlaysWrongFalsely : Prop := wmPlaysRow.holds Try.pinned (OpenSpec.ofChange wmPlaysWrong)

/- THE SECOND FORM. 'bulk': how many values and letters a reading holds, each counted each time it is reached (what is shared counts as often as it is met; a slice's spare places count too). A statement '..UptoSaid' is the law's where the arguments, and the package variables that the reading takes, are together of bulk at most 1048576: NARROWER than '..Said'. Prove '..Said' where nothing that the law and all that it calls make is longer than what came in: it says more and counts as full. Else prove '..UptoSaid'. A law counts once. -/
mutual
def uptoBulk {H : Type} : DataW H → Nat
  | .lit (.string bytes) => bytes.length + 1
  | .lit _ => 1
  | .nil => 1
  | .ptr d => uptoBulk d + 1
  | .slice elems spare => uptoBulkAll elems + uptoBulkAll spare + 1
  | .agg parts => uptoBulkAll parts + 1
  | .iface _ d => uptoBulk d + 1
  | .map entries => uptoBulkEntries entries + 1
  | .held _ => 1
def uptoBulkAll {H : Type} : List (DataW H) → Nat
  | [] => 0
  | d :: r => uptoBulk d + uptoBulkAll r
def uptoBulkEntries {H : Type} : List (Lit × DataW H) → Nat
  | [] => 0
  | x :: r => uptoBulkEntry x + uptoBulkEntries r
def uptoBulkEntry {H : Type} : Lit × DataW H → Nat
  | (.string bytes, d) => bytes.length + uptoBulk d + 1
  | (_, d) => uptoBulk d + 1
 end
def uptoSmall : (H : Type) → List (DataW H) → Bool := fun _ ds => decide (uptoBulkAll ds ≤ 1048576)
def OpenSpec.upto (s : _root_.Go.ChangeSpec) : _root_.Go.OpenSpec := { _root_.Go.OpenSpec.ofChange s with cond := some uptoSmall }

/-- 'retiarylaw10.TallyTypes', WHERE WHAT IT READS IS OF BULK AT MOST 1048576: true; the input reads as it did. -/
def tallyTypesUptoRow : OpenClaim := { program := "ytinbigokigkfaaa", sum := "ef0af2652f7381071daf3212a594f8713784a92bb87753d7b6ce2a6f74a8e0fb", func := "retiary/retiarylaw10.TallyTypes", spec := "tallyTypes", plainKeys := false, apart := false, narrowed := true }
def TallyTypesUptoSaid : Prop := tallyTypesUptoRow.holds Try.pinned (OpenSpec.upto tallyTypesSpec)

/-- 'retiarylaw13.TestTerms', WHERE WHAT IT READS IS OF BULK AT MOST 1048576: true; the input reads as it did. -/
def testTermsUptoRow : OpenClaim := { program := "ytinbigokigkfaaa", sum := "ef0af2652f7381071daf3212a594f8713784a92bb87753d7b6ce2a6f74a8e0fb", func := "retiary/retiarylaw13.TestTerms", spec := "testTerms", recurses := true, loops := true, plainKeys := false, apart := false, narrowed := true }
def TestTermsUptoSaid : Prop := testTermsUptoRow.holds Try.pinned (OpenSpec.upto testTermsSpec)

/-- 'retiarylaw13.TestMore', WHERE WHAT IT READS IS OF BULK AT MOST 1048576: true; the input reads as it did. -/
def testMoreUptoRow : OpenClaim := { program := "ytinbigokigkfaaa", sum := "ef0af2652f7381071daf3212a594f8713784a92bb87753d7b6ce2a6f74a8e0fb", func := "retiary/retiarylaw13.TestMore", spec := "testMore", recurses := true, loops := true, plainKeys := false, apart := false, narrowed := true }
def TestMoreUptoSaid : Prop := testMoreUptoRow.holds Try.pinned (OpenSpec.upto testMoreSpec)

/-- 'retiarylaw13.TestKinds', WHERE WHAT IT READS IS OF BULK AT MOST 1048576: true; the input reads as it did. -/
def testKindsUptoRow : OpenClaim := { program := "ytinbigokigkfaaa", sum := "ef0af2652f7381071daf3212a594f8713784a92bb87753d7b6ce2a6f74a8e0fb", func := "retiary/retiarylaw13.TestKinds", spec := "testKinds", recurses := true, loops := true, plainKeys := false, apart := false, narrowed := true }
def TestKindsUptoSaid : Prop := testKindsUptoRow.holds Try.pinned (OpenSpec.upto testKindsSpec)

/-- 'retiarylaw11.WmFull', WHERE WHAT IT READS IS OF BULK AT MOST 1048576: true; the input reads as it did. -/
def wmFullUptoRow : OpenClaim := { program := "ytinbigokigkfaaa", sum := "ef0af2652f7381071daf3212a594f8713784a92bb87753d7b6ce2a6f74a8e0fb", func := "retiary/retiarylaw11.WmFull", spec := "wmFull", plainKeys := false, apart := false, narrowed := true }
def WmFullUptoSaid : Prop := wmFullUptoRow.holds Try.pinned (OpenSpec.upto wmFullSpec)

/-- 'retiarylaw10.TallyPlays', WHERE WHAT IT READS IS OF BULK AT MOST 1048576: true; the input reads as it did. -/
def tallyPlaysUptoRow : OpenClaim := { program := "ytinbigokigkfaaa", sum := "ef0af2652f7381071daf3212a594f8713784a92bb87753d7b6ce2a6f74a8e0fb", func := "retiary/retiarylaw10.TallyPlays", spec := "tallyPlays", unfollowed := true, recurses := true, plainKeys := false, apart := false, narrowed := true }
def TallyPlaysUptoSaid : Prop := tallyPlaysUptoRow.holds Try.pinned (OpenSpec.upto tallyPlaysSpec)

/-- 'retiarylaw10.TallyBack', WHERE WHAT IT READS IS OF BULK AT MOST 1048576: true; the input reads as it did. -/
def tallyBackUptoRow : OpenClaim := { program := "ytinbigokigkfaaa", sum := "ef0af2652f7381071daf3212a594f8713784a92bb87753d7b6ce2a6f74a8e0fb", func := "retiary/retiarylaw10.TallyBack", spec := "tallyBack", unfollowed := true, recurses := true, plainKeys := false, apart := false, narrowed := true }
def TallyBackUptoSaid : Prop := tallyBackUptoRow.holds Try.pinned (OpenSpec.upto tallyBackSpec)

/-- 'retiarylaw11.WmIds', WHERE WHAT IT READS IS OF BULK AT MOST 1048576: true; the input reads as it did. -/
def wmIdsUptoRow : OpenClaim := { program := "ytinbigokigkfaaa", sum := "ef0af2652f7381071daf3212a594f8713784a92bb87753d7b6ce2a6f74a8e0fb", func := "retiary/retiarylaw11.WmIds", spec := "wmIds", unfollowed := true, recurses := true, plainKeys := false, apart := false, narrowed := true }
def WmIdsUptoSaid : Prop := wmIdsUptoRow.holds Try.pinned (OpenSpec.upto wmIdsSpec)

/-- 'retiarylaw11.WmPlays', WHERE WHAT IT READS IS OF BULK AT MOST 1048576: true; the input reads as it did. -/
def wmPlaysUptoRow : OpenClaim := { program := "ytinbigokigkfaaa", sum := "ef0af2652f7381071daf3212a594f8713784a92bb87753d7b6ce2a6f74a8e0fb", func := "retiary/retiarylaw11.WmPlays", spec := "wmPlays", unfollowed := true, recurses := true, plainKeys := false, apart := false, narrowed := true }
def WmPlaysUptoSaid : Prop := wmPlaysUptoRow.holds Try.pinned (OpenSpec.upto wmPlaysSpec)

end Rows
end Go.Proofs.Ytinbigokigkfaaa
