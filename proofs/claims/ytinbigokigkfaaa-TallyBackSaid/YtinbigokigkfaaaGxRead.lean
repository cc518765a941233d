/-
  GX: calls that read what is known of the call's own memory and change nothing. Generic in the program.
-/
import Derived.Test.YtinbigokigkfaaaGxObj
import Derived.Shelf.SlSortCmp.NoneTotal
namespace Go.Gx
open Go.RowKit Go.Maps Go.Sort

section
variable {P : Program} {ops : Array Oper} {Q : Exit → Act → World → Prop} {N : Nat} {X : Nat → Prop} {w0 : World} {G : Ghost} {l : List (Nat × Value)} {L : List Asrt}
variable {rest : List Oper} {d i j : Nat} {ty : TypeId} {pos : String} {after : Array Edge} {gd : Option (Nat × Bool)} {v : Value} {f : FuncId} {xs : List Operand} {vs : List Value} {ats : Array TypeId} {A1 A2 : Asrt}

/-- A call whose contract asks how the world has come about. -/
theorem r_callS (hw : Wt ops l gd) (hd : Nat.blt d N = true) (hf : Callable P f) (hv : evs l xs = some vs)
    (hc : ∀ w, Has G w → Since X w0 w → Calls P f vs.toArray w (Ret fun r w' => r = v ∧ Since nX w w'))
    (h : Runs P ops Q N X w0 G rest ((d, v) :: l) L) : Runs P ops Q N X w0 G (⟨some d, .call ⟨.value (.func f), xs.toArray, ats⟩, ty, pos, after, gd⟩ :: rest) l L := by
  refine Runs.step hw (fun a w hS => ?_)
  show Oper.upon P _ a _ Q _
  rw [run_call hS.fr hv hf, Oper.upon_enter]
  refine (hc w hS.mem.has hS.mem.since).mono (fun e w' hR => ?_)
  cases e with
  | returned r =>
    obtain ⟨rfl, hs⟩ := hR
    exact h _ _ ⟨hS.fr.put (by simpa using hd) _, hS.mem.call hs⟩
  | panicked c => exact hR.elim
  | outgrown => exact hR.elim

/-- A call that reads two things of the call's own. -/
theorem r_callread (hw : Wt ops l gd) (hd : Nat.blt d N = true) (hf : Callable P f) (hv : evs l xs = some vs) (hL1 : L[i]? = some A1) (hL2 : L[j]? = some A2)
    (hc : ∀ w F1 F2, Has G w → A1.holds w F1 → A2.holds w F2 → Calls P f vs.toArray w (Ret fun r w' => r = v ∧ Since nX w w'))
    (h : Runs P ops Q N X w0 G rest ((d, v) :: l) L) : Runs P ops Q N X w0 G (⟨some d, .call ⟨.value (.func f), xs.toArray, ats⟩, ty, pos, after, gd⟩ :: rest) l L := by
  refine Runs.step hw (fun a w hS => ?_)
  show Oper.upon P _ a _ Q _
  rw [run_call hS.fr hv hf, Oper.upon_enter]
  obtain ⟨F1, h1, _, _⟩ := hS.mem.take hL1
  obtain ⟨F2, h2, _, _⟩ := hS.mem.take hL2
  refine (hc w F1 F2 hS.mem.has h1 h2).mono (fun e w' hR => ?_)
  cases e with
  | returned r =>
    obtain ⟨rfl, hs⟩ := hR
    exact h _ _ ⟨hS.fr.put (by simpa using hd) _, hS.mem.call hs⟩
  | panicked c => exact hR.elim
  | outgrown => exact hR.elim
end

/-- slices.Collect(maps.Keys(m)) at a map without entries. -/
def Coll0 (P : Program) (f g : FuncId) (K : TypeId) : Prop := ∀ (Bm b nn : Nat) (D0 : DataW Unit) (w : World), w.cell? ⟨Bm, 0, none⟩ = some (.map (some b)) → Bm < w.heap.size → w.ownsMap P K R0 b nn D0 → Maps.size D0 = 0 →
  Calls P f #[.func (.func g) #[] #[.pointer (some ⟨Bm, 0, none⟩)]] w fun e w' => e = .returned (.slice none 0 0) ∧ Below w.heap.size w w'

theorem collect0 {P : Program} {f g : FuncId} {K T : TypeId} {ν : Type} {ve : ν → Value} {w0 w : World} {Bm m : Nat} {F1 F2 : Nat → Prop} (hc : Coll0 P f g K) (hK : P.underlying K = some (.int .i64)) (h1 : (mapA (κ := Int) m kI ve []).holds w0 F1) (h2 : (box Bm 1 T (at_ [.map (some m)])).holds w0 F2) (hs : Since nX w0 w) :
    Calls P f #[.func (.func g) #[] #[.pointer (some ⟨Bm, 0, none⟩)]] w (Ret fun r w' => r = .slice none 0 0 ∧ Since nX w w') := by
  have h1' := (mapA (κ := Int) m kI ve []).frame h1 (fun b hb => hs.block b ((mapA m kI ve []).dom h1 hb) id)
  have h2' := (box Bm 1 T (at_ [.map (some m)])).frame h2 (fun b hb => hs.block b ((box Bm 1 T (at_ [.map (some m)])).dom h2 hb) id)
  obtain ⟨⟨es, clock, hM⟩, _⟩ := h1'
  obtain ⟨⟨c, hc1, hc2⟩, _⟩ := h2'
  obtain ⟨D0, hown, _, hsize⟩ := ownsMap_of (P := P) (K := K) hM hK (by simp) (Nat.zero_le _)
  have hcell : w.cell? ⟨Bm, 0, none⟩ = some (.map (some m)) := by
    rw [cell_of_row w Bm 0 c T (0, 0) hc1]; exact hc2.get 0 (by decide)
  refine (hc Bm m _ D0 w hcell (lt_of_heap hc1) hown (by simpa using hsize)).mono (fun e w' hR => ?_)
  obtain ⟨rfl, hb⟩ := hR
  exact ⟨rfl, ⟨hb.os, hb.tape, hb.output, hb.size, fun k hk _ => hb.block k hk⟩⟩
end Go.Gx
