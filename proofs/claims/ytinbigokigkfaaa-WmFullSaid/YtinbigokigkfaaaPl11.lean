/- Plain laws of the memory of facts; no program in sight. -/
import Derived.Test.YtinbigokigkfaaaGxNum
namespace Go.Gx.T11
open Go.Gx

def triRight (t : Tri) : Bool := decide ((1 ≤ t.1 ∧ t.1 ≤ 4096) ∧ (1 ≤ t.2.1 ∧ t.2.1 ≤ 4096) ∧ 1 ≤ t.2.2 ∧ t.2.2 ≤ 4096)
def zT : Tri := (0, 0, 0)

/-- Add: the facts behind it, the last id, the answer's id and error. -/
def wAdd (l : List (Int × Tri)) (lim last : Int) (t : Tri) : (List (Int × Tri) × Int) × Int × Int :=
  if triRight t = true then (if lim ≤ (l.length : Int) then ((l, last), 0, 11) else ((mput l (last + 1) t, last + 1), last + 1, 0)) else ((l, last), 0, 4)
theorem wAdd_bad {l : List (Int × Tri)} {lim last : Int} {t : Tri} (h : triRight t = false) : wAdd l lim last t = ((l, last), 0, 4) := by rw [wAdd, if_neg (by rw [h]; simp)]
theorem wAdd_full {l : List (Int × Tri)} {lim last : Int} {t : Tri} (h : triRight t = true) (h2 : lim ≤ (l.length : Int)) : wAdd l lim last t = ((l, last), 0, 11) := by rw [wAdd, if_pos h, if_pos h2]
theorem wAdd_ok {l : List (Int × Tri)} {lim last : Int} {t : Tri} (h : triRight t = true) (h2 : ¬ lim ≤ (l.length : Int)) : wAdd l lim last t = ((mput l (last + 1) t, last + 1), last + 1, 0) := by rw [wAdd, if_pos h, if_neg h2]

theorem mdel_get {l : List (Int × Tri)} {k : Int} (h : lkp l k = none) : mdel l k = l := mdel_none h

/-- k facts, all alike, with the ids 1 to k. -/
def full (t : Tri) : Nat → List (Int × Tri)
  | 0 => []
  | k + 1 => full t k ++ [((k : Int) + 1, t)]
theorem full_len (t : Tri) : ∀ k, (full t k).length = k
  | 0 => rfl
  | k + 1 => by simp [full, full_len t k]
theorem full_lkp (t : Tri) (i : Int) : ∀ k : Nat, lkp (full t k) i = if 1 ≤ i ∧ i ≤ (k : Int) then some t else none
  | 0 => by rw [if_neg (by omega)]; rfl
  | k + 1 => by
    have ih := full_lkp t i k
    have app : ∀ (a b : List (Int × Tri)), lkp (a ++ b) i = match lkp a i with | some u => some u | none => lkp b i := by
      intro a b
      induction a with
      | nil => rfl
      | cons p a iha =>
        simp only [List.cons_append, lkp]
        split
        · rfl
        · exact iha
    rw [full, app, ih]
    by_cases h : 1 ≤ i ∧ i ≤ (k : Int)
    · rw [if_pos h, if_pos (by omega)]
    · rw [if_neg h]
      simp only [lkp]
      by_cases h2 : (k : Int) + 1 = i
      · rw [if_pos h2, if_pos (by omega)]
      · rw [if_neg h2, if_neg (by omega)]
theorem full_next (t : Tri) (k : Nat) : mput (full t k) ((k : Int) + 1) t = full t (k + 1) := by
  rw [mput_none (by rw [full_lkp, if_neg (by omega)])]; rfl
theorem full_nodup (t : Tri) : ∀ k, ((full t k).map (·.1)).Nodup
  | 0 => by simp [full]
  | k + 1 => by
    rw [← full_next]; exact mput_nodup (full_nodup t k) _ _
theorem full_del_len (t : Tri) {n : Nat} {i : Int} (h : 1 ≤ i ∧ i ≤ (n : Int)) : (mdel (full t n) i).length + 1 = n := by
  have := mdel_len (l := full t n) (k := i) (u := t) (by rw [full_lkp, if_pos h])
  rw [full_len] at this; exact this
theorem full_del_lkp (t : Tri) {n : Nat} {i j : Int} : lkp (mdel (full t n) i) j = if i = j then none else if 1 ≤ j ∧ j ≤ (n : Int) then some t else none := by
  rw [lkp_mdel (full_nodup t n), full_lkp]
end Go.Gx.T11
