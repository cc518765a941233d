/-
  GX: a string made of the call's own bytes. Generic in the program.
-/
import Derived.Test.YtoflaphnlfggkaaGxRange
namespace Go.Gx
open Go.RowKit

def bytesF (n : Nat) (f : Nat → Nat) : ByteArray := ⟨((List.range n).map fun i => UInt8.ofNat (f i)).toArray⟩

section
variable {P : Program} {N : Nat} {X : Nat → Prop} {w0 : World} {G : Ghost} {l : List (Nat × Value)} {L : List Asrt}
variable {d : Nat} {ty : TypeId} {pos : String} {after : Array Edge} {gd : Option (Nat × Bool)} {x : Operand} {T U E E' : TypeId} {b k : Nat} {f : Nat → Value}

/-- string([]byte of three). -/
theorem p_conv_bytes3 {a0 a1 a2 : Int} (hT : P.underlying T = some (.slice E)) (hE : P.underlying E = some (.int .u8)) (hU : P.underlying U = some .string) (hx : ev l x = some (.slice (some ⟨b, 0, none⟩) 3 3)) (hL : L[k]? = some (box b 3 E' f))
    (h0 : f 0 = .int .u8 a0) (h1 : f 1 = .int .u8 a1) (h2 : f 2 = .int .u8 a2) :
    PV P N X w0 G l L ⟨some d, .convert T U x, ty, pos, after, gd⟩ (.string ⟨#[UInt8.ofNat a0.toNat, UInt8.ofNat a1.toNat, UInt8.ofNat a2.toNat]⟩) := by
  intro ac w hS
  obtain ⟨F, ⟨hB, _⟩, _⟩ := hS.mem.take hL
  have c0 := hB.cell (i := 0) (by omega)
  have c1 := hB.cell (i := 1) (by omega)
  have c2 := hB.cell (i := 2) (by omega)
  rw [h0] at c0; rw [h1] at c1; rw [h2] at c2
  simp only [execOp, hS.fr.eval hx]
  simp [convert, run_underlying hT, run_underlying hU, run_underlying hE, Conv.bytesToString]
  have hl := run_loadCells_list (P := P) w ⟨b, 0, none⟩ [.int .u8 a0, .int .u8 a1, .int .u8 a2] (fun j v hj => by
    rw [addr_add, Nat.zero_add]
    match j, hj with
    | 0, hj => simp at hj; subst hj; exact c0
    | 1, hj => simp at hj; subst hj; exact c1
    | 2, hj => simp at hj; subst hj; exact c2
    | j + 3, hj => simp at hj)
  simp only [List.length_cons, List.length_nil] at hl
  rw [hl]
  simp
  rfl
end
end Go.Gx
