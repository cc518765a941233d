/- Plain laws of the variables of conditions; no program in sight. -/
import Derived.Test.YtinbigokigkfaaaPl04
import Derived.Test.YtinbigokigkfaaaPl03v
namespace Go.Gx.T4
open Go.Gx Go.Gx.T3

def own (h : Hd) : List Int := if h.k = 3 then [] else vars h.v0 h.n0 h.v1 h.n1 h.v2 h.n2
mutual
def cvars : CT → List Int
  | .mk h l => Set.once (own h ++ cvarsL l)
def cvarsL : List CT → List Int
  | [] => []
  | c :: t => cvars c ++ cvarsL t
end
theorem cvars_eq (c : CT) : cvars c = Set.once (own c.h ++ cvarsL c.subs) := by cases c; rw [cvars]; rfl
theorem once_len (l : List Int) : (Set.once l).length ≤ l.length := by
  have := compact_le (l.mergeSort fun x y => decide (x ≤ y))
  rw [List.length_mergeSort] at this
  exact this
theorem own_len (h : Hd) : (own h).length ≤ 3 := by
  unfold own
  split
  · simp
  · exact Nat.le_trans (once_len _) (vs_len 3)
mutual
theorem cvars_len : ∀ c : CT, (cvars c).length ≤ 3 * size c
  | .mk h l => by
    have h1 := once_len (own h ++ cvarsL l)
    have h2 := own_len h
    have h3 := cvarsL_len l
    rw [List.length_append] at h1
    rw [cvars, size]; omega
theorem cvarsL_len : ∀ l : List CT, (cvarsL l).length ≤ 3 * sizeL l
  | [] => by simp [cvarsL]
  | c :: t => by
    have h1 := cvars_len c
    have h2 := cvarsL_len t
    rw [cvarsL, sizeL, List.length_append]; omega
end
theorem cvarsL_append (a b : List CT) : cvarsL (a ++ b) = cvarsL a ++ cvarsL b := by
  induction a with
  | nil => rfl
  | cons c t ih => simp [cvarsL, ih]
theorem cvarsL_take {rs : List (CT × Value)} {k : Nat} (hk : k < rs.length) : cvarsL ((rs.map Prod.fst).take (k + 1)) = cvarsL ((rs.map Prod.fst).take k) ++ cvars (rs.getD k d0).1 := by
  rw [map_take (d := d0) hk, cvarsL_append]; simp [cvarsL]
theorem cvarsL_some {rs : List (CT × Value)} (k : Nat) : (cvarsL ((rs.map Prod.fst).take k)).length ≤ 3 * sizeL (rs.map Prod.fst) := by
  have h1 := cvarsL_len ((rs.map Prod.fst).take k)
  have h2 := sizeL_take_le (rs.map Prod.fst) k
  omega
theorem mem_cvarsL {l : List CT} {x : Int} : x ∈ cvarsL l ↔ ∃ c ∈ l, x ∈ cvars c := by
  induction l with
  | nil => simp [cvarsL]
  | cons c t ih => simp [cvarsL, ih]

/-! ### the document's: does a variable stand in it? -/
mutual
def has : CT → Nat → Bool
  | .mk h l, v => (decide (h.k < 3) && ownTo h.v0 h.n0 h.v1 h.n1 h.v2 h.n2 v 3) || hasL l v
def hasL : List CT → Nat → Bool
  | [], _ => false
  | c :: t, v => has c v || hasL t v
end
theorem has_eq (c : CT) (v : Nat) : has c v = ((decide (c.h.k < 3) && ownTo c.h.v0 c.h.n0 c.h.v1 c.h.n1 c.h.v2 c.h.n2 v 3) || hasL c.subs v) := by cases c; rw [has]; rfl
theorem hasL_yes {c : CT} {t : List CT} {v : Nat} (h : has c v = true) : hasL (c :: t) v = true := by rw [hasL, h]; rfl
theorem hasL_no {c : CT} {t : List CT} {v : Nat} (h : has c v = false) : hasL (c :: t) v = hasL t v := by rw [hasL, h]; rfl

/-- What is right has kinds and terms that may be. -/
theorem check_right {h : Hd} {l : List CT} {d : Int} (hc : check (.mk h l) d = 0) : (h.k = 3 ∧ checkL l (max d 1 + 1) = 0) ∨ ((h.k = 1 ∨ h.k = 2) ∧ headOk h = true ∧ l = []) := by
  rw [check] at hc
  by_cases c1 : 3 < max d 1
  · rw [if_pos c1] at hc; omega
  rw [if_neg c1] at hc
  by_cases c2 : h.k = 3
  · rw [if_pos c2] at hc
    by_cases c3 : headNone h = false
    · rw [if_pos c3] at hc; omega
    rw [if_neg c3] at hc
    by_cases c4 : l.length = 0
    · rw [if_pos c4] at hc; omega
    rw [if_neg c4] at hc
    exact .inl ⟨c2, hc⟩
  · rw [if_neg c2] at hc
    by_cases c3 : h.k ≠ 1 ∧ h.k ≠ 2
    · rw [if_pos c3] at hc; omega
    rw [if_neg c3] at hc
    by_cases c4 : headOk h = false ∨ 0 < l.length
    · rw [if_pos c4] at hc; omega
    refine .inr ⟨by omega, ?_, List.eq_nil_of_length_eq_zero (by omega)⟩
    cases e : headOk h with
    | true => rfl
    | false => exact absurd (.inl e) c4
theorem checkL_right {c : CT} {t : List CT} {d : Int} (h : checkL (c :: t) d = 0) : check c d = 0 ∧ checkL t d = 0 := by
  rw [checkL] at h
  split at h
  · rename_i h1; exact ⟨h1, h⟩
  · rename_i h1; exact absurd h h1
mutual
theorem has_mem : ∀ (c : CT) (d : Int) (v : Nat), check c d = 0 → (((v : Int) ∈ cvars c ↔ has c v = true) ∧ ∀ x ∈ cvars c, 1 ≤ x ∧ x ≤ 32)
  | .mk h l, d, v, hc => by
    rw [cvars, has]
    rcases check_right hc with ⟨hk, hl⟩ | ⟨hk, ho, rfl⟩
    · obtain ⟨h1, h2⟩ := hasL_mem l (max d 1 + 1) v hl
      have e : own h = [] := by rw [own, if_pos hk]
      rw [e, List.nil_append]
      refine ⟨?_, fun x hx => h2 x (Set.mem_once.1 hx)⟩
      rw [Set.mem_once, h1]
      simp [hk]
    · have e : own h = vars h.v0 h.n0 h.v1 h.n1 h.v2 h.n2 := by rw [own, if_neg (by omega)]
      rw [e]
      simp only [cvarsL, hasL, List.append_nil, Bool.or_false]
      have hf : fine h.v0 h.n0 h.v1 h.n1 h.v2 h.n2 = true := ho
      refine ⟨?_, fun x hx => vars_mem hf (Set.mem_once.1 hx)⟩
      rw [Set.mem_once, own_mem]
      simp [show h.k < 3 by omega]
theorem hasL_mem : ∀ (l : List CT) (d : Int) (v : Nat), checkL l d = 0 → (((v : Int) ∈ cvarsL l ↔ hasL l v = true) ∧ ∀ x ∈ cvarsL l, 1 ≤ x ∧ x ≤ 32)
  | [], _, _, _ => by simp [cvarsL, hasL]
  | c :: t, d, v, hc => by
    obtain ⟨a, b⟩ := checkL_right hc
    obtain ⟨h1, h2⟩ := has_mem c d v a
    obtain ⟨h3, h4⟩ := hasL_mem t d v b
    rw [cvarsL, hasL, List.mem_append, h1, h3]
    refine ⟨by simp, fun x hx => ?_⟩
    rcases List.mem_append.1 hx with hx | hx
    · exact h2 x hx
    · exact h4 x hx
end
theorem cvars_rises (c : CT) : (cvars c).Pairwise (· < ·) := by rw [cvars_eq]; exact Set.once_rises _
theorem cv_start {c : CT} {d : Int} (hc : check c d = 0) : ((Set.below (cvars c) ((1 : Nat) : Int) : Nat) : Int) = 0 := by
  have h := Set.below_none (U := cvars c) (n := ((1 : Nat) : Int)) (fun x hx => ((has_mem c d 0 hc).2 x hx).1)
  rw [h]; rfl
theorem cv_end {c : CT} {d : Int} (hc : check c d = 0) {n : Nat} (hn : 33 ≤ n) : Set.below (cvars c) (n : Int) = (cvars c).length :=
  Set.below_all fun x hx => by have := ((has_mem c d 0 hc).2 x hx).2; omega
theorem cv_yes {c : CT} {d : Int} (hc : check c d = 0) {n : Nat} (h : has c n = true) : ((Set.below (cvars c) (n : Int) : Nat) : Int) + 1 = ((Set.below (cvars c) ((n + 1 : Nat) : Int) : Nat) : Int) := by
  have e : ((n + 1 : Nat) : Int) = (n : Int) + 1 := by omega
  have h2 := Set.below_next (U := cvars c) (n := (n : Int)) (cvars_rises c)
  rw [if_pos ((has_mem c d n hc).1.2 h)] at h2
  rw [e, h2]; omega
theorem cv_no {c : CT} {d : Int} (hc : check c d = 0) {n : Nat} (h : has c n = false) : ((Set.below (cvars c) (n : Int) : Nat) : Int) = ((Set.below (cvars c) ((n + 1 : Nat) : Int) : Nat) : Int) := by
  have e : ((n + 1 : Nat) : Int) = (n : Int) + 1 := by omega
  have hn : ¬ (n : Int) ∈ cvars c := fun hm => by rw [(has_mem c d n hc).1.1 hm] at h; cases h
  have h2 := Set.below_next (U := cvars c) (n := (n : Int)) (cvars_rises c)
  rw [if_neg hn] at h2
  rw [e, h2]; omega
theorem cv_at {c : CT} {d : Int} (hc : check c d = 0) {n : Nat} (h : has c n = true) : Set.below (cvars c) (n : Int) < (cvars c).length ∧ (cvars c).getD (Set.below (cvars c) (n : Int)) 0 = n :=
  Set.below_get (cvars_rises c) ((has_mem c d n hc).1.2 h)
theorem own_yes {h : Hd} {v : Nat} (e : h.k < 3 ∧ ((vi h.v0 = 1 ∧ h.n0 = (v : Int)) ∨ (vi h.v1 = 1 ∧ h.n1 = (v : Int)) ∨ (vi h.v2 = 1 ∧ h.n2 = (v : Int)))) : (decide (h.k < 3) && ownTo h.v0 h.n0 h.v1 h.n1 h.v2 h.n2 v 3) = true := by
  rw [decide_eq_true e.1, Bool.true_and]
  simp only [ownTo, owns]
  rcases e.2 with ⟨a, b⟩ | ⟨a, b⟩ | ⟨a, b⟩
  · have : h.v0 = true := by cases e : h.v0 <;> simp_all [vi]
    simp [this, b]
  · have : h.v1 = true := by cases e : h.v1 <;> simp_all [vi]
    simp [this, b]
  · have : h.v2 = true := by cases e : h.v2 <;> simp_all [vi]
    simp [this, b]
theorem own_no {h : Hd} {v : Nat} (e : ¬ (h.k < 3 ∧ vi h.v0 = 1 ∧ h.n0 = (v : Int)) ∧ ¬ (h.k < 3 ∧ vi h.v1 = 1 ∧ h.n1 = (v : Int)) ∧ ¬ (h.k < 3 ∧ vi h.v2 = 1 ∧ h.n2 = (v : Int))) : (decide (h.k < 3) && ownTo h.v0 h.n0 h.v1 h.n1 h.v2 h.n2 v 3) = false := by
  rw [← Bool.not_eq_true]
  intro hx
  simp only [ownTo, owns, Bool.and_eq_true, Bool.or_eq_true, decide_eq_true_eq] at hx
  obtain ⟨hk, (⟨a, b⟩ | ⟨a, b⟩) | ⟨a, b⟩⟩ := hx
  · exact e.1 ⟨hk, by simp [vi, a], b⟩
  · exact e.2.1 ⟨hk, by simp [vi, a], b⟩
  · exact e.2.2 ⟨hk, by simp [vi, a], b⟩
end Go.Gx.T4
