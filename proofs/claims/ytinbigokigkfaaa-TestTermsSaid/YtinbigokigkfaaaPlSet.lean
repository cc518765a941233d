/- Plain laws of rising lists without a twin: what sorting and making runs one leaves; no program in sight. -/
import Derived.Test.YtinbigokigkfaaaGxSort
namespace Go.Gx.Set
open Go.Lib

theorem cu (d : Array Int) (hs : ∀ i j, i ≤ j → j < d.size → d[i]! ≤ d[j]!) : ∀ m, m ≤ d.size → (compactUpTo d m).Pairwise (· < ·) ∧ ∀ x, x ∈ compactUpTo d m ↔ ∃ j, j < m ∧ d[j]! = x
  | 0, _ => ⟨by simp [compactUpTo], fun x => by simp [compactUpTo]⟩
  | m + 1, hm => by
    obtain ⟨h1, h2⟩ := cu d hs m (by omega)
    rw [compactUpTo_succ]
    by_cases hk : keeps d m = true
    · rw [if_pos hk]
      refine ⟨List.pairwise_append.2 ⟨h1, by simp, fun x hx y hy => ?_⟩, fun x => ?_⟩
      · obtain ⟨j, hj, rfl⟩ := (h2 x).1 hx
        obtain rfl : y = d[m]! := by simpa using hy
        have e1 := hs j (m - 1) (by omega) (by omega)
        have e2 := hs (m - 1) m (by omega) (by omega)
        have e3 : d[m]! ≠ d[m - 1]! := by
          have : decide (m = 0 ∨ d[m]! ≠ d[m - 1]!) = true := hk
          rcases of_decide_eq_true this with h | h
          · omega
          · exact h
        omega
      · rw [List.mem_append, h2]
        constructor
        · rintro (⟨j, hj, e⟩ | h)
          · exact ⟨j, by omega, e⟩
          · exact ⟨m, by omega, by simpa using (List.mem_singleton.1 h).symm⟩
        · rintro ⟨j, hj, e⟩
          by_cases hjm : j = m
          · subst hjm; exact .inr (by simp [e])
          · exact .inl ⟨j, by omega, e⟩
    · rw [if_neg hk, List.append_nil]
      refine ⟨h1, fun x => ?_⟩
      rw [h2]
      have e3 : 0 < m ∧ d[m]! = d[m - 1]! := by
        have : ¬ (m = 0 ∨ d[m]! ≠ d[m - 1]!) := fun h => hk (decide_eq_true h)
        exact ⟨by omega, by
          apply Classical.byContradiction
          intro h; exact this (.inr h)⟩
      constructor
      · rintro ⟨j, hj, e⟩; exact ⟨j, by omega, e⟩
      · rintro ⟨j, hj, e⟩
        by_cases hjm : j = m
        · subst hjm; exact ⟨j - 1, by omega, by rw [← e3.2, e]⟩
        · exact ⟨j, by omega, e⟩

/-- The list, rising, each element once. -/
def once (l : List Int) : List Int := compact (l.mergeSort fun x y => decide (x ≤ y))

theorem once_both (l : List Int) : (once l).Pairwise (· < ·) ∧ ∀ x, x ∈ once l ↔ x ∈ l := by
  have hp := List.mergeSort_perm l fun x y => decide (x ≤ y)
  have hs : (l.mergeSort fun x y => decide (x ≤ y)).Pairwise fun x y => x ≤ y :=
    (List.pairwise_mergeSort (le := fun x y : Int => decide (x ≤ y)) (by intro a b c; simp; omega) (by intro a b; simp; omega) l).imp (by simp)
  have hm : ∀ x, x ∈ (l.mergeSort fun x y => decide (x ≤ y)) ↔ x ∈ l := fun x => hp.mem_iff
  unfold once compact
  generalize (l.mergeSort fun x y => decide (x ≤ y)) = s at hs hm
  have hg : ∀ i j, i ≤ j → j < s.toArray.size → s.toArray[i]! ≤ s.toArray[j]! := by
    intro i j hij hj
    have hj' : j < s.length := by simpa using hj
    rw [getElem!_pos s.toArray i (by simp; omega), getElem!_pos s.toArray j hj]
    by_cases e : i = j
    · subst e; exact Int.le_refl _
    · simpa using List.pairwise_iff_getElem.1 hs i j (by omega) hj' (by omega)
  obtain ⟨h1, h2⟩ := cu s.toArray hg s.length (by simp)
  refine ⟨h1, fun x => ?_⟩
  rw [h2, ← hm]
  constructor
  · rintro ⟨j, hj, rfl⟩
    rw [getElem!_pos s.toArray j (by simpa using hj)]
    simp
  · intro hx
    obtain ⟨j, hj, rfl⟩ := List.mem_iff_getElem.1 hx
    exact ⟨j, hj, by rw [getElem!_pos s.toArray j (by simpa using hj)]; simp⟩

theorem once_rises (l : List Int) : (once l).Pairwise (· < ·) := (once_both l).1
theorem mem_once {l : List Int} {x : Int} : x ∈ once l ↔ x ∈ l := (once_both l).2 x

/-- How many of a list lie below a bound. -/
def below (U : List Int) (n : Int) : Nat := U.countP fun x => decide (x < n)
theorem below_le (U : List Int) (n : Int) : below U n ≤ U.length := List.countP_le_length
theorem below_all {U : List Int} {n : Int} (h : ∀ x ∈ U, x < n) : below U n = U.length := List.countP_eq_length.2 fun x hx => decide_eq_true (h x hx)
theorem below_none {U : List Int} {n : Int} (h : ∀ x ∈ U, n ≤ x) : below U n = 0 := List.countP_eq_zero.2 fun x hx => by have := h x hx; simp; omega
theorem below_get {U : List Int} {n : Int} (hU : U.Pairwise (· < ·)) (hn : n ∈ U) : below U n < U.length ∧ U.getD (below U n) 0 = n := by
  induction U with
  | nil => cases hn
  | cons y t ih =>
    rw [List.pairwise_cons] at hU
    by_cases e : n = y
    · subst e
      have h0 : below (n :: t) n = 0 := below_none (by
        intro x hx
        rcases List.mem_cons.1 hx with rfl | hx
        · exact Int.le_refl _
        · have := hU.1 x hx; omega)
      rw [h0]; exact ⟨by simp, rfl⟩
    · have hm : n ∈ t := by simpa [e] using hn
      obtain ⟨h1, h2⟩ := ih hU.2 hm
      have hy := hU.1 n hm
      have h3 : below (y :: t) n = below t n + 1 := by unfold below; rw [List.countP_cons]; simp [hy]
      rw [h3]
      exact ⟨by simp; omega, by simpa using h2⟩
theorem below_next {U : List Int} {n : Int} (hU : U.Pairwise (· < ·)) : below U (n + 1) = below U n + if n ∈ U then 1 else 0 := by
  induction U with
  | nil => rfl
  | cons y t ih =>
    rw [List.pairwise_cons] at hU
    have h := ih hU.2
    have hn : n ∈ t → y < n := hU.1 n
    unfold below at h ⊢
    rw [List.countP_cons, List.countP_cons, h]
    by_cases e : n = y
    · subst e
      have : n ∉ t := fun h => by have := hn h; omega
      simp [this]; omega
    · by_cases c : n ∈ t
      · have := hn c; simp [c, show y < n + 1 by omega, show y < n by omega]
      · simp only [c, List.mem_cons, e, or_self, if_false, Nat.add_zero]
        by_cases c2 : y < n
        · simp [c2, show y < n + 1 by omega]
        · simp [c2, show ¬ y < n + 1 by omega]
end Go.Gx.Set
