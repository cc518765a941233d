/- Plain laws of the variables of terms; no program in sight. -/
import Derived.Test.YtinbigokigkfaaaPlSet
import Derived.Test.YtinbigokigkfaaaPl03b
namespace Go.Gx.T3
open Go.Gx

section
variable (v0 : Bool) (n0 : Int) (v1 : Bool) (n1 : Int) (v2 : Bool) (n2 : Int)
/-- The variables of the first k terms. -/
def vsTo : Nat → List Int
  | 0 => []
  | k + 1 => vsTo k ++ if selB v0 v1 v2 k then [sel3 n0 n1 n2 k] else []
abbrev vars : List Int := Set.once (vsTo v0 n0 v1 n1 v2 n2 3)
end
section
variable {v0 : Bool} {n0 : Int} {v1 : Bool} {n1 : Int} {v2 : Bool} {n2 : Int}
theorem vs_yes {k : Nat} (h : selB v0 v1 v2 k = true) : vsTo v0 n0 v1 n1 v2 n2 (k + 1) = vsTo v0 n0 v1 n1 v2 n2 k ++ [sel3 n0 n1 n2 k] := by rw [vsTo, if_pos h]
theorem vs_no {k : Nat} (h : selB v0 v1 v2 k = false) : vsTo v0 n0 v1 n1 v2 n2 (k + 1) = vsTo v0 n0 v1 n1 v2 n2 k := by rw [vsTo, if_neg (by simp [h]), List.append_nil]
theorem vs_len : ∀ k, (vsTo v0 n0 v1 n1 v2 n2 k).length ≤ k
  | 0 => Nat.le_refl _
  | k + 1 => by have := vs_len k; unfold vsTo; split <;> simp <;> omega
theorem own_mem {n : Nat} : (n : Int) ∈ vars v0 n0 v1 n1 v2 n2 ↔ ownTo v0 n0 v1 n1 v2 n2 n 3 = true := by
  rw [Set.mem_once]
  cases v0 <;> cases v1 <;> cases v2 <;> simp [vsTo, selB, sel3, ownTo, owns, eq_comm (a := (n : Int)), or_assoc]
theorem vars_mem {x : Int} (hf : fine v0 n0 v1 n1 v2 n2 = true) (hx : x ∈ vars v0 n0 v1 n1 v2 n2) : 1 ≤ x ∧ x ≤ 32 := by
  rw [Set.mem_once] at hx
  simp only [fine, termRight, Bool.and_eq_true, decide_eq_true_eq] at hf
  obtain ⟨h0, h1, h2⟩ := hf
  cases v0 <;> cases v1 <;> cases v2 <;> simp [vsTo, selB, sel3] at hx h0 h1 h2 <;> omega
theorem vars_start (hf : fine v0 n0 v1 n1 v2 n2 = true) : ((Set.below (vars v0 n0 v1 n1 v2 n2) ((1 : Nat) : Int) : Nat) : Int) = 0 := by
  have h := Set.below_none (U := vars v0 n0 v1 n1 v2 n2) (n := ((1 : Nat) : Int)) (fun x hx => (vars_mem hf hx).1)
  rw [h]; rfl
theorem vars_end (hf : fine v0 n0 v1 n1 v2 n2 = true) {n : Nat} (hn : 33 ≤ n) : Set.below (vars v0 n0 v1 n1 v2 n2) (n : Int) = (vars v0 n0 v1 n1 v2 n2).length :=
  Set.below_all fun x hx => by have := (vars_mem hf hx).2; omega
theorem vars_yes {n : Nat} (h : ownTo v0 n0 v1 n1 v2 n2 n 3 = true) : ((Set.below (vars v0 n0 v1 n1 v2 n2) (n : Int) : Nat) : Int) + 1 = ((Set.below (vars v0 n0 v1 n1 v2 n2) ((n + 1 : Nat) : Int) : Nat) : Int) := by
  have e : ((n + 1 : Nat) : Int) = (n : Int) + 1 := by omega
  have h2 := Set.below_next (U := vars v0 n0 v1 n1 v2 n2) (n := (n : Int)) (Set.once_rises _)
  rw [if_pos (own_mem.2 h)] at h2
  rw [e, h2]; omega
theorem vars_no {n : Nat} (h : ownTo v0 n0 v1 n1 v2 n2 n 3 = false) : ((Set.below (vars v0 n0 v1 n1 v2 n2) (n : Int) : Nat) : Int) = ((Set.below (vars v0 n0 v1 n1 v2 n2) ((n + 1 : Nat) : Int) : Nat) : Int) := by
  have e : ((n + 1 : Nat) : Int) = (n : Int) + 1 := by omega
  have hn : ¬ (n : Int) ∈ vars v0 n0 v1 n1 v2 n2 := fun hm => by rw [own_mem.1 hm] at h; cases h
  have h2 := Set.below_next (U := vars v0 n0 v1 n1 v2 n2) (n := (n : Int)) (Set.once_rises _)
  rw [if_neg hn] at h2
  rw [e, h2]; omega
theorem vars_at {n : Nat} (h : ownTo v0 n0 v1 n1 v2 n2 n 3 = true) : Set.below (vars v0 n0 v1 n1 v2 n2) (n : Int) < (vars v0 n0 v1 n1 v2 n2).length ∧ (vars v0 n0 v1 n1 v2 n2).getD (Set.below (vars v0 n0 v1 n1 v2 n2) (n : Int)) 0 = n :=
  Set.below_get (Set.once_rises _) (own_mem.2 h)
end
end Go.Gx.T3
