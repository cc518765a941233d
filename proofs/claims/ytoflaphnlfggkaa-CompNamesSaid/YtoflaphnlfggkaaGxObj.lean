/-
  GX: a method that keeps (or changes) its object and hands back memory that stays. Generic in the program.
-/
import Derived.Test.YtoflaphnlfggkaaGxKeys
namespace Go.Gx
open Go.RowKit

theorem Sep.takeU {w : World} : ∀ {L : List Asrt} {U : Nat → Prop} {k : Nat} {A : Asrt}, Sep w L U → L[k]? = some A →
    ∃ F, A.holds w F ∧ (∀ b, F b → U b) ∧
      ∀ (U' : Nat → Prop) (w' : World) (A' : Asrt) (F' : Nat → Prop), (∀ b, b < w.heap.size → U b → ¬ F b → U' b) → A'.holds w' F' → (∀ b, F' b → U' b ∧ (F b ∨ w.heap.size ≤ b)) →
        (∀ b, b < w.heap.size → U b → ¬ F b → w'.heap[b]? = w.heap[b]?) → Sep w' (L.set k A') U'
  | [], _, _, _, _, h => by simp at h
  | A :: L, U, 0, A', ⟨F, h, hs, hL⟩, e => by
    simp at e; subst e
    refine ⟨F, h, hs, fun U' w' A'' F' hu h' hF' hk => ⟨F', h', fun b hb => (hF' b hb).1, ?_⟩⟩
    have hL1 : Sep w L (fun b => (U b ∧ ¬ F b) ∧ (U' b ∧ ¬ F' b)) := Sep.mono hL (fun b hb hub => ⟨hub, hu b hb hub.1 hub.2, fun hf => by
      rcases (hF' b hf).2 with h1 | h1
      · exact hub.2 h1
      · omega⟩)
    have hL3 := Sep.keep (w' := w') hL1 (fun b hb hu => hk b hb hu.1.1 hu.1.2)
    exact Sep.mono hL3 (fun b _ hu => hu.2)
  | A :: L, U, k + 1, A', ⟨F, h, hs, hL⟩, e => by
    simp at e
    obtain ⟨G, hg, hgs, hput⟩ := Sep.takeU hL e
    refine ⟨G, hg, fun b hb => (hgs b hb).1, fun U' w' A'' F' hu h' hF' hk => ?_⟩
    refine ⟨F, A.frame h (fun b hb => hk b (A.dom h hb) (hs b hb) (fun hg' => (hgs b hg').2 hb)), fun b hb => hu b (A.dom h hb) (hs b hb) (fun hg' => (hgs b hg').2 hb), ?_⟩
    exact hput (fun b => U' b ∧ ¬ F b) w' A'' F' (fun b hb hub hng => ⟨hu b hb hub.1 hng, hub.2⟩) h' (fun b hb => by
      obtain ⟨h0, h1⟩ := hF' b hb
      refine ⟨⟨h0, fun hf => ?_⟩, h1⟩
      rcases h1 with h1 | h1
      · exact (hgs b h1).2 hf
      · have := A.dom h hf; omega) (fun b hb hu hg' => hk b hb hu.1 hg')

def KeptG (A : Asrt) (F : Nat → Prop) (G' : Ghost) (w w' : World) : Prop := Since F w w' ∧ ∃ F', A.holds w' F' ∧ (∀ b, F' b → F b ∨ w.heap.size ≤ b) ∧ ∀ b, F' b → G' b = none

section
variable {P : Program} {ops : Array Oper} {Q : Exit → Act → World → Prop} {N : Nat} {X : Nat → Prop} {w0 : World} {G : Ghost} {l : List (Nat × Value)} {L : List Asrt}
variable {rest : List Oper} {d k : Nat} {ty : TypeId} {pos : String} {after : Array Edge} {gd : Option (Nat × Bool)}

theorem Mem.keptG {w : World} {F : Nat → Prop} {Ls : List Asrt} (h : Mem F w0 G w Ls) (Ls' : List Asrt) (hI : Imp Ls Ls') (B : Asrt) (hB : ∀ F', (starL Ls').holds w F' → B.holds w F') : KeptG B F G w0 w := by
  refine ⟨h.since, ?_⟩
  have h1 := (h.imp hI).sep
  rw [show Ls' = Ls' ++ [] by simp] at h1
  obtain ⟨F', h2, h3, _⟩ := Sep.packL Ls' h1
  exact ⟨F', hB F' h2, fun b hb => (h3 b hb).1.symm, fun b hb => (h3 b hb).2⟩

/-- A call that changes one object and hands back memory that stays. -/
theorem r_callom {f : FuncId} {xs : List Operand} {vs : List Value} {ats : Array TypeId} {A B : Asrt} {S : Ghost → Value → Prop} (hw : Wt ops l gd) (hd : Nat.blt d N = true) (hf : Callable P f) (hv : evs l xs = some vs) (hL : L[k]? = some A)
    (hc : ∀ w F, Has G w → A.holds w F → (∀ b, F b → G b = none) → Calls P f vs.toArray w (Ret fun r w' => ∃ G', GNew w F G G' ∧ Has G' w' ∧ S G' r ∧ KeptG B F G' w w'))
    (h : ∀ G' r, GNew w0 X G G' → S G' r → Runs P ops Q N X w0 G' rest ((d, r) :: l) (L.set k B)) : Runs P ops Q N X w0 G (⟨some d, .call ⟨.value (.func f), xs.toArray, ats⟩, ty, pos, after, gd⟩ :: rest) l L := by
  refine Runs.step hw (fun a w hS => ?_)
  show Oper.upon P _ a _ Q _
  rw [run_call hS.fr hv hf, Oper.upon_enter]
  obtain ⟨F, hA, hsub, hput⟩ := hS.mem.sep.takeU hL
  refine (hc w F hS.mem.has hA (fun b hb => (hsub b hb).2)).mono (fun e w' hR => ?_)
  cases e with
  | returned r =>
    obtain ⟨G', hn, hh, hr, hs, F', hB, hF', hFG'⟩ := hR
    have hn' : GNew w0 X G G' := ⟨hn.le, fun b h1 h2 => by
      rcases hn.new b h1 h2 with h3 | h3
      · exact .inl (Nat.le_trans hS.mem.since.size h3)
      · exact (hsub b h3).1⟩
    refine h G' r hn' hr _ _ ⟨hS.fr.put (by simpa using hd) _, ?_, hh, ?_⟩
    · refine ⟨hs.os.trans hS.mem.since.os, hs.tape.trans hS.mem.since.tape, hs.output.trans hS.mem.since.output, Nat.le_trans hS.mem.since.size hs.size, fun i hi hx => ?_⟩
      rw [hs.block i (Nat.lt_of_lt_of_le hi hS.mem.since.size) (fun hf => Or.elim (hsub i hf).1 (fun h1 => by omega) (fun h1 => hx h1))]
      exact hS.mem.since.block i hi hx
    · refine hput (fun b => (w0.heap.size ≤ b ∨ X b) ∧ G' b = none) w' B F' (fun b hb hu hf => ⟨hu.1, ?_⟩) hB (fun b hb => ⟨⟨?_, hFG' b hb⟩, hF' b hb⟩) (fun b hb _ hf => hs.block b hb hf)
      · cases e : G' b with
        | none => rfl
        | some o => rcases hn.new b hu.2 (by rw [e]; simp) with h3 | h3
                    · omega
                    · exact (hf h3).elim
      · rcases hF' b hb with h1 | h1
        · exact (hsub b h1).1
        · exact .inl (Nat.le_trans hS.mem.since.size h1)
  | panicked c => exact hR.elim
  | outgrown => exact hR.elim
end
end Go.Gx
