/- Plain laws of counting; no program in sight. -/
import Derived.Test.YtinbigokigkfaaaGxKey
namespace Go.Gx.T10
open Go.Gx

section
variable {κ : Type} [DecidableEq κ]
def cnt (l : List (κ × Int)) (k : κ) : Int := (lkp l k).getD 0
def tAdd (l : List (κ × Int)) (k : κ) : List (κ × Int) := mput l k (cnt l k + 1)
def tDrop (l : List (κ × Int)) (k : κ) : List (κ × Int) := if cnt l k = 0 then l else if cnt l k = 1 then mdel l k else mput l k (cnt l k - 1)

theorem mdel_mput (l : List (κ × Int)) (k : κ) (v : Int) : mdel (mput l k v) k = mdel l k := by
  induction l with
  | nil => simp [mput, mdel]
  | cons p t ih =>
    simp only [mput, mdel]
    by_cases h : p.1 = k
    · simp [h, mdel]
    · simp [h, mdel, ih]
theorem mput_mput (l : List (κ × Int)) (k : κ) (u v : Int) : mput (mput l k u) k v = mput l k v := by
  induction l with
  | nil => simp [mput]
  | cons p t ih =>
    simp only [mput]
    by_cases h : p.1 = k
    · simp [h, mput]
    · simp [h, mput, ih]
theorem cnt_mput (l : List (κ × Int)) (k k' : κ) (v : Int) : cnt (mput l k v) k' = if k = k' then v else cnt l k' := by
  unfold cnt; rw [lkp_mput]; split <;> rfl
theorem drop_zero {l : List (κ × Int)} {k : κ} (h : cnt l k = 0) : tDrop l k = l := by rw [tDrop, if_pos h]
theorem drop_one {l : List (κ × Int)} {k : κ} (h : cnt l k = 1) : tDrop l k = mdel l k := by rw [tDrop, if_neg (by omega), if_pos h]
theorem drop_more {l : List (κ × Int)} {k : κ} (h0 : ¬ cnt l k = 0) (h : ¬ cnt l k = 1) : tDrop l k = mput l k (cnt l k - 1) := by rw [tDrop, if_neg h0, if_neg h]

/-- How often k is there. -/
def num (ns : List κ) (k : κ) : Nat := ns.count k
theorem num_def (ns : List κ) (k : κ) : num ns k = ns.count k := rfl
theorem num_le (ns : List κ) (k : κ) : num ns k ≤ ns.length := List.count_le_length
/-- What is counted: the counts are of the multiset ns, each key once, none with 0. -/
structure Tal (l : List (κ × Int)) (ns : List κ) : Prop where
  nodup : (l.map (·.1)).Nodup
  pos : ∀ p ∈ l, 1 ≤ p.2
  eq : ∀ k, cnt l k = (num ns k : Int)

theorem Tal.nil : Tal ([] : List (κ × Int)) [] := ⟨by simp, by simp, fun k => by simp [cnt, lkp, num]⟩

theorem mem_mput {l : List (κ × Int)} {k : κ} {v : Int} {p : κ × Int} (h : p ∈ mput l k v) : p = (k, v) ∨ p ∈ l := by
  induction l with
  | nil => simp [mput] at h; exact .inl h
  | cons q t ih =>
    rw [mput] at h
    split at h
    · rcases List.mem_cons.1 h with h | h
      · exact .inl h
      · exact .inr (by simp [h])
    · rcases List.mem_cons.1 h with h | h
      · exact .inr (by simp [h])
      · exact (ih h).imp id (fun h => by simp [h])

theorem Tal.add {l : List (κ × Int)} {ns : List κ} (h : Tal l ns) (k : κ) : Tal (tAdd l k) (ns ++ [k]) := by
  refine ⟨mput_nodup h.nodup _ _, fun p hp => ?_, fun k' => ?_⟩
  · rcases mem_mput hp with rfl | hp
    · have := h.eq k; show 1 ≤ cnt l k + 1; omega
    · exact h.pos p hp
  · rw [tAdd, cnt_mput, num_def, List.count_append]
    by_cases e : k = k'
    · subst e
      have e2 := h.eq k
      rw [num_def] at e2
      simp [List.count_cons]; omega
    · have e2 := h.eq k'
      simp [List.count_cons, e]; exact e2

theorem Tal.drop {l : List (κ × Int)} {ns : List κ} {k : κ} (h : Tal l (ns ++ [k])) : Tal (tDrop l k) ns := by
  have hk := h.eq k
  rw [num_def, List.count_append] at hk
  simp only [List.count_cons_self, List.count_nil, Nat.zero_add] at hk
  have hoth : ∀ k', ¬ k = k' → cnt l k' = (ns.count k' : Int) := fun k' e => by
    have e2 := h.eq k'
    rw [num_def, List.count_append] at e2
    simp [List.count_cons, e] at e2
    exact e2
  by_cases h1 : cnt l k = 1
  · rw [drop_one h1]
    refine ⟨mdel_nodup h.nodup k, fun p hp => h.pos p ((mdel_sub l k).subset hp), fun k' => ?_⟩
    rw [num_def]
    show (lkp (mdel l k) k').getD 0 = _
    rw [lkp_mdel h.nodup]
    by_cases e : k = k'
    · subst e
      simp; omega
    · rw [if_neg e]; exact hoth k' e
  · rw [drop_more (by omega) h1]
    refine ⟨mput_nodup h.nodup _ _, fun p hp => ?_, fun k' => ?_⟩
    · rcases mem_mput hp with rfl | hp
      · show 1 ≤ cnt l k - 1; omega
      · exact h.pos p hp
    · rw [cnt_mput, num_def]
      by_cases e : k = k'
      · subst e; rw [if_pos rfl]; omega
      · rw [if_neg e]; exact hoth k' e

theorem Tal.empty {l : List (κ × Int)} (h : Tal l []) : l = [] := by
  cases l with
  | nil => rfl
  | cons p t =>
    have h1 := h.eq p.1
    have h2 := h.pos p (by simp)
    simp [cnt, lkp, num] at h1
    omega
end
theorem Tal.bd {κ : Type} [DecidableEq κ] {l : List (κ × Int)} {ns : List κ} (h : Tal l ns) (hn : ns.length ≤ 4611686018427387904) (k : κ) : 0 ≤ cnt l k ∧ cnt l k ≤ 4611686018427387904 := by
  have h1 := h.eq k
  have h2 := num_le ns k
  omega

theorem count_next {κ : Type} [DecidableEq κ] {ns : List κ} {j : Nat} {k e : κ} (h : j < ns.length) :
    (if decide (ns.getD j e = k) = true then ((num (ns.take j) k : Nat) : Int) + 1 else (num (ns.take j) k : Nat)) = (num (ns.take (j + 1)) k : Nat) := by
  have h1 : ns.take (j + 1) = ns.take j ++ [ns.getD j e] := by
    rw [List.take_succ_eq_append_getElem h]; simp [List.getD, h]
  rw [num_def, num_def, h1, List.count_append]
  by_cases hk : ns.getD j e = k
  · simp only [hk, decide_true, if_true, List.count_singleton_self]; omega
  · simp only [hk, decide_false, Bool.false_eq_true, if_false]
    rw [List.count_cons, List.count_nil, if_neg (by simpa using hk)]
    omega

theorem take_next {κ : Type} {ns : List κ} {i : Nat} (e : κ) (h : i < ns.length) : ns.take (i + 1) = ns.take i ++ [ns.getD i e] := by
  rw [List.take_succ_eq_append_getElem h]; simp [List.getD, h]

theorem Tal.next {κ : Type} [DecidableEq κ] {l : List (κ × Int)} {ns : List κ} {i : Nat} {e : κ} (h : Tal l (ns.take i)) (hi : i < ns.length) : Tal (tAdd l (ns.getD i e)) (ns.take (i + 1)) := by
  rw [take_next e hi]; exact h.add _

theorem Tal.back {κ : Type} [DecidableEq κ] {l : List (κ × Int)} {ns : List κ} {i : Nat} {e : κ} (h : Tal l (ns.take (ns.length - i))) (hi : i < ns.length) : Tal (tDrop l (ns.getD (ns.length - 1 - i) e)) (ns.take (ns.length - (i + 1))) ∧ 1 ≤ cnt l (ns.getD (ns.length - 1 - i) e) := by
  have e1 : ns.length - i = (ns.length - 1 - i) + 1 := by omega
  rw [e1, take_next e (by omega)] at h
  have e2 : ns.length - (i + 1) = ns.length - 1 - i := by omega
  rw [e2]
  refine ⟨h.drop, ?_⟩
  have := h.eq (ns.getD (ns.length - 1 - i) e)
  rw [num_def, List.count_append] at this
  simp at this
  simp
  omega
end Go.Gx.T10
