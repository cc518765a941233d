/-
  NARROWER THAN 'FOR EVERY INPUT', by the rows' own cells (each row's printed sentence says how): TrieShares: loops · TrieOrder: loops · TrieBack: loops · TriePlays: loops.
  DERIVED. THE GIVEN ROWS OF THIS SEAT. 4 by the template 'for every input the law returns true; each argument reads behind the call as it read before'; 0 by the template 'total and deterministic' (their statements: YtdkfdncbldngdaaTotals.lean).
  GIVEN WITH THE SEED: the statements are not yours to turn. If you find one false, say at which input.
  Laid BY PROGRAM, IN A SANDBOX (cutbox-rows.mjs): the forced cells as the released guide's own fill.sh prints them over the translation 8aacf22b3e24b4a8… (all of the seat's roots in one cut). By AI agents, Wed Nov 11 2026. No macro, syntax, notation, axiom, sorry.
-/
import Derived.Test.YtdkfdncbldngdaaChecked
import GoSem.Claim
import GoSem.ClaimJoined
import GoSem.ClaimMapViews
import Derived.JoinedTies
import Derived.KernelRfl
namespace Go.Proofs.Ytdkfdncbldngdaa
/- THE CELL 'sum', in the pinned program and in every row, IS THE sha256 OF THE DUMP (.gsa) THAT YtdkfdncbldngdaaProg.lean LOADS. Nothing in Lean hashes anything: it is a label: what it is worth is what the hold of that sum in a sandbox is worth. -/
noncomputable def Try.pinned : Pinned := { name := "ytdkfdncbldngdaa", sum := "8aacf22b3e24b4a82ce792179a8caf52e5001a740cec985613d772a71b821f71", checked := Try.checked }
namespace Rows
def none {H : Type} : Left H := { results := [], args := [] }

/-- 'retiarylaw16.TrieShares': WHATEVER THE INPUT: true; the input reads as it did. -/
def trieSharesSpec : ChangeSpec := { name := "trieShares", fn := fun _ => fun
  | [d] => { results := [.lit (.bool true)], args := [d] }
  | _ => none }
def trieSharesRow : OpenClaim := { program := "ytdkfdncbldngdaa", sum := "8aacf22b3e24b4a82ce792179a8caf52e5001a740cec985613d772a71b821f71", func := "retiary/retiarylaw16.TrieShares", spec := "trieShares", unfollowed := true, recurses := true, loops := true, apart := false }
def TrieSharesSaid : Prop := trieSharesRow.holds Try.pinned (OpenSpec.ofChange trieSharesSpec)

/-- ITS FALSE NEIGHBOUR: 'it returns false'. Refute it at one input. -/
def trieSharesWrong : ChangeSpec := { name := "trieShares", fn := fun _ => fun
  | [d] => { results := [.lit (.bool false)], args := [d] }
  | _ => none }
def TrieSharesWrongFalsely : Prop := trieSharesRow.holds Try.pinned (OpenSpec.ofChange trieSharesWrong)

/-- 'retiarylaw16.TrieOrder': WHATEVER THE INPUT: true; the input reads as it did. -/
def trieOrderSpec : ChangeSpec := { name := "trieOrder", fn := fun _ => fun
  | [d] => { results := [.lit (.bool true)], args := [d] }
  | _ => none }
def trieOrderRow : OpenClaim := { program := "ytdkfdncbldngdaa", sum := "8aacf22b3e24b4a82ce792179a8caf52e5001a740cec985613d772a71b821f71", func := "retiary/retiarylaw16.TrieOrder", spec := "trieOrder", unfollowed := true, recurses := true, loops := true, apart := false }
def TrieOrderSaid : Prop := trieOrderRow.holds Try.pinned (OpenSpec.ofChange trieOrderSpec)

/-- ITS FALSE NEIGHBOUR: 'it returns false'. Refute it at one input. -/
def trieOrderWrong : ChangeSpec := { name := "trieOrder", fn := fun _ => fun
  | [d] => { results := [.lit (.bool false)], args := [d] }
  | _ => none }
def TrieOrderWrongFalsely : Prop := trieOrderRow.holds Try.pinned (OpenSpec.ofChange trieOrderWrong)

/-- 'retiarylaw16.TrieBack': WHATEVER THE INPUT: true; the input reads as it did. -/
def trieBackSpec : ChangeSpec := { name := "trieBack", fn := fun _ => fun
  | [d1, d2] => { results := [.lit (.bool true)], args := [d1, d2] }
  | _ => none }
def trieBackRow : OpenClaim := { program := "ytdkfdncbldngdaa", sum := "8aacf22b3e24b4a82ce792179a8caf52e5001a740cec985613d772a71b821f71", func := "retiary/retiarylaw16.TrieBack", spec := "trieBack", unfollowed := true, recurses := true, loops := true, apart := false }
def TrieBackSaid : Prop := trieBackRow.holds Try.pinned (OpenSpec.ofChange trieBackSpec)

/-- ITS FALSE NEIGHBOUR: 'it returns false'. Refute it at one input. -/
def trieBackWrong : ChangeSpec := { name := "trieBack", fn := fun _ => fun
  | [d1, d2] => { results := [.lit (.bool false)], args := [d1, d2] }
  | _ => none }
def TrieBackWrongFalsely : Prop := trieBackRow.holds Try.pinned (OpenSpec.ofChange trieBackWrong)

/-- 'retiarylaw16.TriePlays': WHATEVER THE INPUT: true; the input reads as it did. -/
def triePlaysSpec : ChangeSpec := { name := "triePlays", fn := fun _ => fun
  | [d] => { results := [.lit (.bool true)], args := [d] }
  | _ => none }
def triePlaysRow : OpenClaim := { program := "ytdkfdncbldngdaa", sum := "8aacf22b3e24b4a82ce792179a8caf52e5001a740cec985613d772a71b821f71", func := "retiary/retiarylaw16.TriePlays", spec := "triePlays", unfollowed := true, recurses := true, loops := true, apart := false }
def TriePlaysSaid : Prop := triePlaysRow.holds Try.pinned (OpenSpec.ofChange triePlaysSpec)

/-- ITS FALSE NEIGHBOUR: 'it returns false'. Refute it at one input. -/
def triePlaysWrong : ChangeSpec := { name := "triePlays", fn := fun _ => fun
  | [d] => { results := [.lit (.bool false)], args := [d] }
  | _ => none }
def TriePlaysWrongFalsely : Prop := triePlaysRow.holds Try.pinned (OpenSpec.ofChange triePlaysWrong)

/- THE SECOND FORM. 'bulk': how many values and letters a reading holds, each counted each time it is reached (what is shared counts as often as it is met; a slice's spare places count too). A statement '..UptoSaid' is the law's where the arguments, and the package variables that the reading takes, are together of bulk at most 1048576: NARROWER than '..Said'. Prove '..Said' where nothing that the law and all that it calls make is longer than what came in: it says more and counts as full. Else prove '..UptoSaid'. A law counts once. -/
mutual
def uptoBulk {H : Type} : DataW H → Nat
  | .lit (.string bytes) => bytes.length + 1
  | .lit _ => 1
  | .nil => 1
  | .ptr d => uptoBulk d + 1
  | .slice elems spare => uptoBulkAll elems + uptoBulkAll spare + 1
  | .agg parts => uptoBulkAll parts + 1
  | .iface _ d => uptoBulk d + 1
  | .map entries => uptoBulkEntries entries + 1
  | .held _ => 1
def uptoBulkAll {H : Type} : List (DataW H) → Nat
  | [] => 0
  | d :: r => uptoBulk d + uptoBulkAll r
def uptoBulkEntries {H : Type} : List (Lit × DataW H) → Nat
  | [] => 0
  | x :: r => uptoBulkEntry x + uptoBulkEntries r
def uptoBulkEntry {H : Type} : Lit × DataW H → Nat
  | (.string bytes, d) => bytes.length + uptoBulk d + 1
  | (_, d) => uptoBulk d + 1
 end
def uptoSmall : (H : Type) → List (DataW H) → Bool := fun _ ds => decide (uptoBulkAll ds ≤ 1048576)
def OpenSpec.upto (s : _root_.Go.ChangeSpec) : _root_.Go.OpenSpec := { _root_.Go.OpenSpec.ofChange s with cond := some uptoSmall }

/-- 'retiarylaw16.TrieShares', WHERE WHAT IT READS IS OF BULK AT MOST 1048576: true; the input reads as it did. -/
def trieSharesUptoRow : OpenClaim := { program := "ytdkfdncbldngdaa", sum := "8aacf22b3e24b4a82ce792179a8caf52e5001a740cec985613d772a71b821f71", func := "retiary/retiarylaw16.TrieShares", spec := "trieShares", unfollowed := true, recurses := true, loops := true, apart := false, narrowed := true }
def TrieSharesUptoSaid : Prop := trieSharesUptoRow.holds Try.pinned (OpenSpec.upto trieSharesSpec)

/-- 'retiarylaw16.TrieOrder', WHERE WHAT IT READS IS OF BULK AT MOST 1048576: true; the input reads as it did. -/
def trieOrderUptoRow : OpenClaim := { program := "ytdkfdncbldngdaa", sum := "8aacf22b3e24b4a82ce792179a8caf52e5001a740cec985613d772a71b821f71", func := "retiary/retiarylaw16.TrieOrder", spec := "trieOrder", unfollowed := true, recurses := true, loops := true, apart := false, narrowed := true }
def TrieOrderUptoSaid : Prop := trieOrderUptoRow.holds Try.pinned (OpenSpec.upto trieOrderSpec)

/-- 'retiarylaw16.TrieBack', WHERE WHAT IT READS IS OF BULK AT MOST 1048576: true; the input reads as it did. -/
def trieBackUptoRow : OpenClaim := { program := "ytdkfdncbldngdaa", sum := "8aacf22b3e24b4a82ce792179a8caf52e5001a740cec985613d772a71b821f71", func := "retiary/retiarylaw16.TrieBack", spec := "trieBack", unfollowed := true, recurses := true, loops := true, apart := false, narrowed := true }
def TrieBackUptoSaid : Prop := trieBackUptoRow.holds Try.pinned (OpenSpec.upto trieBackSpec)

/-- 'retiarylaw16.TriePlays', WHERE WHAT IT READS IS OF BULK AT MOST 1048576: true; the input reads as it did. -/
def triePlaysUptoRow : OpenClaim := { program := "ytdkfdncbldngdaa", sum := "8aacf22b3e24b4a82ce792179a8caf52e5001a740cec985613d772a71b821f71", func := "retiary/retiarylaw16.TriePlays", spec := "triePlays", unfollowed := true, recurses := true, loops := true, apart := false, narrowed := true }
def TriePlaysUptoSaid : Prop := triePlaysUptoRow.holds Try.pinned (OpenSpec.upto triePlaysSpec)

end Rows
end Go.Proofs.Ytdkfdncbldngdaa
