/-
  GX: results that lie in memory of the call's own alone; parts of arrays. Generic in the program.
-/
import Derived.Test.YtoflaphnlfggkaaGxClos
namespace Go.Gx
open Go.RowKit

/-- What is known of the memory that was laid since a world. -/
def fr (w0 : World) (G : Ghost) : Ghost := fun b => if w0.heap.size ≤ b then G b else none
theorem fr_le (w0 : World) (G : Ghost) : GLe (fr w0 G) G := fun b o e => by
  unfold fr at e
  split at e
  · exact e
  · cases e
theorem fr_mono (w0 : World) {G G' : Ghost} (h : GLe G G') : GLe (fr w0 G) (fr w0 G') := fun b o e => by
  unfold fr at e ⊢
  split at e
  · rename_i hb; rw [if_pos hb]; exact h b o e
  · cases e
theorem fr_new (w0 : World) (G : Ghost) (b : Nat) (h : fr w0 G b ≠ none) : w0.heap.size ≤ b := by
  unfold fr at h
  split at h
  · assumption
  · exact absurd rfl h
theorem RowAt.fr {w0 : World} {G : Ghost} {b o n : Nat} {g : Nat → Value} (h : RowAt G b o n g) (hb : w0.heap.size ≤ b) : RowAt (fr w0 G) b o n g := by
  obtain ⟨c, T, f, h1, h2⟩ := h
  exact ⟨c, T, f, by unfold Gx.fr; rw [if_pos hb]; exact h1, h2⟩
theorem SlG.fr {w0 : World} {G : Ghost} {v : Value} {n sz : Nat} {f : Nat → Nat → Value} (h : SlG G v n sz f) (hv : ∀ b, v.ownBlock = some b → w0.heap.size ≤ b) : SlG (fr w0 G) v n sz f := by
  obtain ⟨a, cap, rfl, hc, hr⟩ := h
  refine ⟨a, cap, rfl, hc, fun hn => ?_⟩
  obtain ⟨b, o, rfl, h2⟩ := hr hn
  exact ⟨b, o, rfl, fun i hi => (h2 i hi).fr (hv b rfl)⟩
theorem RowAt.sub {G : Ghost} {b o n j m : Nat} {g : Nat → Value} (h : RowAt G b o n g) (hj : j + m ≤ n) : RowAt G b (o + j) m (fun i => g (j + i)) := by
  obtain ⟨c, T, f, h1, h2⟩ := h
  exact ⟨c, T, f, h1, fun i hi => by rw [Nat.add_assoc]; exact h2 (j + i) (by omega)⟩

section
variable {P : Program} {ops : Array Oper} {Q : Exit → Act → World → Prop} {N : Nat} {w0 : World} {G : Ghost} {l : List (Nat × Value)} {L : List Asrt}
variable {rest : List Oper} {d : Nat} {ty : TypeId} {pos : String} {after : Array Edge} {gd : Option (Nat × Bool)} {v : Value}

theorem Mem.freezeF {w : World} {k n sz : Nat} {E : TypeId} {xs : List Value} (h : Mem nX w0 G w L) (hL : L[k]? = some (rowA v E sz n xs)) :
    ∃ G', GNew w0 nX G G' ∧ SlG (fr w0 G') v n sz (fun i j => xs.getD (i * sz + j) undef) ∧ Mem nX w0 G' w (L.eraseIdx k) := by
  obtain ⟨F, ⟨hown, hF⟩, hU, _⟩ := h.sep.erase hL
  obtain ⟨G', h1, h2, h3⟩ := h.freeze hL
  refine ⟨G', h1, h2.fr (fun b hb => ?_), h3⟩
  rcases (hU b ((hF.1 b).2 hb)).1 with h4 | h4
  · exact h4
  · exact h4.elim
theorem r_freezeF {k n sz : Nat} {E : TypeId} {xs : List Value} (hL : L[k]? = some (rowA v E sz n xs))
    (h : ∀ G', GNew w0 nX G G' → SlG (fr w0 G') v n sz (fun i j => xs.getD (i * sz + j) undef) → Runs P ops Q N nX w0 G' rest l (L.eraseIdx k)) : Runs P ops Q N nX w0 G rest l L := by
  intro a w hS
  obtain ⟨G', h1, h2, h3⟩ := hS.mem.freezeF hL
  exact h G' h1 h2 a w ⟨hS.fr, h3⟩
theorem e_freezeF {e : Exit} {k n sz : Nat} {E : TypeId} {xs : List Value} (hL : L[k]? = some (rowA v E sz n xs))
    (h : ∀ G', GNew w0 nX G G' → SlG (fr w0 G') v n sz (fun i j => xs.getD (i * sz + j) undef) → ERuns Q e N nX w0 G' l (L.eraseIdx k)) : ERuns Q e N nX w0 G l L := by
  intro a w hS
  obtain ⟨G', h1, h2, h3⟩ := hS.mem.freezeF hL
  exact h G' h1 h2 a w ⟨hS.fr, h3⟩

/-- A call whose result lies in memory of its own alone. -/
theorem r_callf {f : FuncId} {xs : List Operand} {vs : List Value} {ats : Array TypeId} {S : Ghost → Value → Prop} (hw : Wt ops l gd) (hd : Nat.blt d N = true) (hf : Callable P f) (hv : evs l xs = some vs)
    (hS : ∀ H H' r, GLe H H' → S H r → S H' r)
    (hc : ∀ w, Has G w → Calls P f vs.toArray w (Ret fun r w' => ∃ H : Ghost, (∀ b, H b ≠ none → w.heap.size ≤ b) ∧ Has H w' ∧ S H r ∧ Since nX w w'))
    (h : ∀ G' r, GNew w0 nX G G' → S (fr w0 G') r → Runs P ops Q N nX w0 G' rest ((d, r) :: l) L) : Runs P ops Q N nX w0 G (⟨some d, .call ⟨.value (.func f), xs.toArray, ats⟩, ty, pos, after, gd⟩ :: rest) l L := by
  refine Runs.step hw (fun a w hSt => ?_)
  show Oper.upon P _ a _ Q _
  rw [run_call hSt.fr hv hf, Oper.upon_enter]
  refine (hc w hSt.mem.has).mono (fun e w' hR => ?_)
  cases e with
  | returned r =>
    obtain ⟨H, hfresh, hh, hr, hs⟩ := hR
    have hnew : GNew w nX G (fun b => match G b with | some o => some o | none => H b) :=
      ⟨fun b o e => by simp [e], fun b e e' => .inl (hfresh b (by simpa [e] using e'))⟩
    have hle : GLe H (fr w0 (fun b => match G b with | some o => some o | none => H b)) := fun b o e => by
      have hge : w.heap.size ≤ b := hfresh b (by rw [e]; simp)
      have : G b = none := hSt.mem.has.fresh hge
      unfold fr
      rw [if_pos (Nat.le_trans hSt.mem.since.size hge)]
      simp [this, e]
    refine h _ r (hnew.up hSt.mem.since.size) (hS _ _ _ hle hr) _ _ ⟨hSt.fr.put (by simpa using hd) _, hSt.mem.callG hs hnew ?_⟩
    intro b o e
    cases e2 : G b with
    | none => simp only [e2] at e; exact hh b o e
    | some o2 =>
      simp only [e2] at e
      cases e
      rw [hs.block b (hSt.mem.has.lt e2) id]
      exact hSt.mem.has b o e2
  | panicked c => exact hR.elim
  | outgrown => exact hR.elim

/-- The same; a row of the call's own is read. -/
theorem r_callfr {f : FuncId} {xs : List Operand} {vs : List Value} {ats : Array TypeId} {k n sz : Nat} {E : TypeId} {r0 : Value} {zs : List Value} {S : Ghost → Value → Prop} (hw : Wt ops l gd) (hd : Nat.blt d N = true) (hf : Callable P f) (hv : evs l xs = some vs) (hL : L[k]? = some (rowA r0 E sz n zs))
    (hS : ∀ H H' r, GLe H H' → S H r → S H' r)
    (hc : ∀ w G1, Has G1 w → GLe G G1 → SlG G1 r0 n sz (fun i j => zs.getD (i * sz + j) undef) → Calls P f vs.toArray w (Ret fun r w' => ∃ H : Ghost, (∀ b, H b ≠ none → w.heap.size ≤ b) ∧ Has H w' ∧ S H r ∧ Since nX w w'))
    (h : ∀ G' r, GNew w0 nX G G' → S (fr w0 G') r → Runs P ops Q N nX w0 G' rest ((d, r) :: l) L) : Runs P ops Q N nX w0 G (⟨some d, .call ⟨.value (.func f), xs.toArray, ats⟩, ty, pos, after, gd⟩ :: rest) l L := by
  refine Runs.step hw (fun a w hSt => ?_)
  show Oper.upon P _ a _ Q _
  rw [run_call hSt.fr hv hf, Oper.upon_enter]
  obtain ⟨G1, h1, h2, h3⟩ := hSt.mem.freeze hL
  refine (hc w G1 h3.has h1.le h2).mono (fun e w' hR => ?_)
  cases e with
  | returned r =>
    obtain ⟨H, hfresh, hh, hr, hs⟩ := hR
    have hnew : GNew w nX G (fun b => match G b with | some o => some o | none => H b) :=
      ⟨fun b o e => by simp [e], fun b e e' => .inl (hfresh b (by simpa [e] using e'))⟩
    have hle : GLe H (fr w0 (fun b => match G b with | some o => some o | none => H b)) := fun b o e => by
      have hge : w.heap.size ≤ b := hfresh b (by rw [e]; simp)
      have : G b = none := hSt.mem.has.fresh hge
      unfold fr
      rw [if_pos (Nat.le_trans hSt.mem.since.size hge)]
      simp [this, e]
    refine h _ r (hnew.up hSt.mem.since.size) (hS _ _ _ hle hr) _ _ ⟨hSt.fr.put (by simpa using hd) _, hSt.mem.callG hs hnew ?_⟩
    intro b o e
    cases e2 : G b with
    | none => simp only [e2] at e; exact hh b o e
    | some o2 =>
      simp only [e2] at e
      cases e
      rw [hs.block b (hSt.mem.has.lt e2) id]
      exact hSt.mem.has b o e2
  | panicked c => exact hR.elim
  | outgrown => exact hR.elim
end

section
variable {P : Program} {N : Nat} {X : Nat → Prop} {w0 : World} {G : Ghost} {l : List (Nat × Value)} {L : List Asrt} {d : Nat} {ty : TypeId} {pos : String} {after : Array Edge} {gd : Option (Nat × Bool)} {x y : Operand}
/-- A part of an array, from its beginning on, as a slice. -/
theorem p_slarr {T E n sz b o m : Nat} {q : IntKind} (hT : P.underlying T = some (.array n E)) (hE : SzIs P E sz) (hx : ev l x = some (.pointer (some ⟨b, o, none⟩))) (hy : ev l y = some (.int q (m : Nat))) (hm : m ≤ n) (hn : n ≤ 1000) :
    PV P N X w0 G l L ⟨some d, .slice T x none (some y) none, ty, pos, after, gd⟩ (.slice (some ⟨b, o, none⟩) m n) := by
  intro ac w hS
  have hmc : (0 : Int) ≤ (m : Int) ∧ (m : Int) ≤ (n : Int) := by omega
  have hadd : (⟨b, o, none⟩ : Addr).add 0 = ⟨b, o, none⟩ := by rw [addr_add, Nat.add_zero]
  simp only [execOp, hS.fr.eval hx, Option.map]
  simp [Instr.sliceAt, run_underlying hT, Instr.sureAddr, Instr.sliceBounds, Instr.sliceBound, asIntOf, hS.fr.eval hy, hE.run, hm, hadd]
theorem slarr_g {b o n m sz : Nat} {g : Nat → Value} (hR : RowAt G b o (n * sz) g) (hm : m ≤ n) (hn : n ≤ 1000) : SlG G (.slice (some ⟨b, o, none⟩) m n) m sz (fun i j => g (i * sz + j)) := by
  refine ⟨_, _, rfl, ⟨hm, by simp only [maxLen]; omega⟩, fun _ => ⟨b, o, rfl, fun i hi => ?_⟩⟩
  exact hR.sub (by have := Nat.mul_le_mul_right sz (show i + 1 ≤ n by omega); rw [Nat.add_mul, Nat.one_mul] at this; exact this)
end
end Go.Gx
