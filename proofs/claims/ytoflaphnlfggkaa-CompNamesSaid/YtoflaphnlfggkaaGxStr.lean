/-
  GX: a range over a string. Generic in the program.
-/
import Derived.Test.YtoflaphnlfggkaaGxMap
namespace Go.Gx
open Go.RowKit

def strI (r : Nat) (s : ByteArray) (pos : Nat) : Asrt where
  holds w F := w.heap[r]? = some (.stringIter s pos) ∧ ∀ b, F b ↔ b = r
  frame := fun h hk => ⟨by rw [hk r ((h.2 r).2 rfl)]; exact h.1, h.2⟩
  dom := fun h hb => by
    have := (h.2 _).1 hb
    subst this
    exact lt_of_heap h.1

section
variable {P : Program} {ops : Array Oper} {Q : Exit → Act → World → Prop} {N : Nat} {X : Nat → Prop} {w0 : World} {G : Ghost} {l : List (Nat × Value)} {L : List Asrt}
variable {rest : List Oper} {d i r : Nat} {ty : TypeId} {pos : String} {after : Array Edge} {gd : Option (Nat × Bool)} {x : Operand} {s : ByteArray} {T : TypeId}

theorem r_range_str (hw : Wt ops l gd) (hd : Nat.blt d N = true) (hT : P.underlying T = some .string) (hx : ev l x = some (.string s))
    (h : ∀ r, Runs P ops Q N X w0 G rest ((d, .pointer (some ⟨r, 0, none⟩)) :: l) (strI r s 0 :: L)) : Runs P ops Q N X w0 G (⟨some d, .range T x, ty, pos, after, gd⟩ :: rest) l L := by
  refine Runs.step hw (fun a w hS => ?_)
  show Oper.upon P _ a _ Q _
  have hr : (execOp a.eval ⟨some d, .range T x, ty, pos, after, gd⟩).run P w = .ok (.value (.pointer (some ⟨w.heap.size, 0, none⟩))) (w.alloc (.stringIter s 0)) := by
    simp only [execOp, hS.fr.eval hx]
    simp [Instr.range, run_underlying hT]
  rw [hr, Oper.upon_value]
  exact h _ _ _ ⟨hS.fr.put (by simpa using hd) _, hS.mem.alloc _ _ ⟨(MapKept.heap_alloc w _).1, fun b => Iff.rfl⟩⟩

theorem r_next_str {p : Nat} {ity : TypeId} (hw : Wt ops l gd) (hd : Nat.blt d N = true) (hx : ev l x = some (.pointer (some ⟨r, 0, none⟩))) (hL : L[i]? = some (strI r s p))
    (h1 : p < s.size → Runs P ops Q N X w0 G rest ((d, .tuple #[.bool true, .int .i64 (p : Nat), .int .i32 ((Utf8.decode s p).1 : Nat)]) :: l) (L.set i (strI r s (p + (Utf8.decode s p).2))))
    (h2 : ¬ p < s.size → Runs P ops Q N X w0 G rest ((d, .tuple #[.bool false]) :: l) L) : Runs P ops Q N X w0 G (⟨some d, .next x true, ity, pos, after, gd⟩ :: rest) l L := by
  refine Runs.step hw (fun a w hS => ?_)
  show Oper.upon P _ a _ Q _
  obtain ⟨F, ⟨hI, hF⟩, _, hput⟩ := hS.mem.take hL
  have hg : (getObj r).run P w = .ok (.stringIter s p) w := by simp [getObj, Sem.run, hI]
  by_cases hp : p < s.size
  · have hset : ∀ o, (setObj r o).run P w = .ok () { w with heap := w.heap.setIfInBounds r o } := fun o => by simp [setObj, Sem.run, hI]
    have hr : (execOp a.eval ⟨some d, .next x true, ity, pos, after, gd⟩).run P w = .ok (.value (.tuple #[.bool true, .int .i64 (p : Nat), .int .i32 ((Utf8.decode s p).1 : Nat)])) { w with heap := w.heap.setIfInBounds r (.stringIter s (p + (Utf8.decode s p).2)) } := by
      simp only [execOp, hS.fr.eval hx]
      simp [Instr.next, hg, hp, hset, goInt]
    rw [hr, Oper.upon_value]
    refine h1 hp _ _ ⟨hS.fr.put (by simpa using hd) _, ?_⟩
    exact hput _ _ (fun b => b = r) (since_set F ((hF r).2 rfl)) ⟨(MapKept.heap_set hI).1, fun b => Iff.rfl⟩ (fun b hb => .inl (hb ▸ (hF r).2 rfl))
  · have hr : (execOp a.eval ⟨some d, .next x true, ity, pos, after, gd⟩).run P w = .ok (.value (.tuple #[.bool false])) w := by
      simp only [execOp, hS.fr.eval hx]
      simp [Instr.next, hg, hp]
    rw [hr, Oper.upon_value]
    exact h2 hp _ _ ⟨hS.fr.put (by simpa using hd) _, hS.mem⟩
end

theorem get!_byte (s : ByteArray) (k : Nat) : (s.get! k).toNat = byteAt s k := by
  unfold byteAt
  congr 1
  show s.data[k]! = _
  rw [List.getD, Array.getElem?_toList, getElem!_def]
  cases s.data[k]? <;> rfl

/-- What an ASCII byte reads as; and what is not one reads as no ASCII. -/
theorem decode_small (s : ByteArray) (p : Nat) : ((Utf8.decode s p).1 < 128 ↔ byteAt s p < 128) ∧ (byteAt s p < 128 → Utf8.decode s p = (byteAt s p, 1)) := by
  unfold Utf8.decode
  simp only [Nat.add_zero, get!_byte]
  by_cases h : byteAt s p < 128
  · simp [h]
  · simp only [if_neg h]
    refine ⟨⟨fun h1 => ?_, fun h1 => absurd h1 h⟩, fun h1 => absurd h1 h⟩
    exfalso
    revert h1
    unfold Utf8.runeError
    repeat' split
    all_goals simp
    all_goals simp_all
    all_goals omega
end Go.Gx
