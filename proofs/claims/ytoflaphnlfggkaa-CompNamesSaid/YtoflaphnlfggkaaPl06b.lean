/- Plain laws of places where variables are bound; no program in sight. -/
import Derived.Test.YtoflaphnlfggkaaPl06
import Derived.Test.YtoflaphnlfggkaaGxSortF
namespace Go.Gx.T6
open Go.Gx Go.Gx.T3 Go.Gx.T4 Go.Gx.T8

/-- The place of the first one, or -1. -/
def idxF {α : Type} (pf : α → Bool) : List α → Int → Int
  | [], _ => -1
  | x :: t, k => if pf x = true then k else idxF pf t (k + 1)
theorem drop_cons {α : Type} {l : List α} {k : Nat} (d : α) (h : k < l.length) : l.drop k = l.getD k d :: l.drop (k + 1) := by
  rw [List.drop_eq_getElem_cons h]; simp [List.getD, List.getElem?_eq_getElem h]
theorem idxF_yes {α : Type} {pf : α → Bool} {l : List α} {k : Nat} {d : α} (h : k < l.length) (hp : pf (l.getD k d) = true) : idxF pf (l.drop k) k = k := by
  rw [drop_cons d h, idxF, if_pos hp]
theorem idxF_no {α : Type} {pf : α → Bool} {l : List α} {k : Nat} {d : α} (h : k < l.length) (hp : pf (l.getD k d) = false) : idxF pf (l.drop k) k = idxF pf (l.drop (k + 1)) ((k + 1 : Nat) : Int) := by
  rw [drop_cons d h, idxF, if_neg (by rw [hp]; decide)]; rfl
theorem idxF_none {α : Type} {pf : α → Bool} : ∀ {l : List α} {k : Int}, (∀ x ∈ l, pf x = false) → idxF pf l k = -1
  | [], _, _ => rfl
  | x :: t, k, h => by rw [idxF, if_neg (by rw [h x (by simp)]; decide)]; exact idxF_none (fun y hy => h y (by simp [hy]))
/-- What is found is one that fits. -/
theorem idxF_some {α : Type} {pf : α → Bool} (d : α) : ∀ {l : List α} {k : Int}, 0 ≤ k → 0 ≤ idxF pf l k → ∃ i : Nat, idxF pf l k = k + i ∧ i < l.length ∧ pf (l.getD i d) = true
  | [], k, _, h => by simp [idxF] at h
  | x :: t, k, hk, h => by
    rw [idxF] at h ⊢
    split
    · rename_i hp
      exact ⟨0, by simp, by simp, by simpa using hp⟩
    · rename_i hp
      rw [if_neg hp] at h
      obtain ⟨i, h1, h2, h3⟩ := idxF_some d (by omega) h
      exact ⟨i + 1, by rw [h1]; omega, by simp; omega, by simpa using h3⟩
theorem idxF_neg {α : Type} {pf : α → Bool} : ∀ {l : List α} {k : Int}, 0 ≤ k → ¬ 0 ≤ idxF pf l k → ∀ x ∈ l, pf x = false
  | [], _, _, _ => by simp
  | x :: t, k, hk, h => by
    rw [idxF] at h
    split at h
    · exact absurd hk h
    · rename_i hp
      intro y hy
      rcases List.mem_cons.1 hy with rfl | hy
      · simpa using hp
      · exact idxF_neg (by omega) h y hy
theorem idxF_any {α : Type} (pf : α → Bool) (l : List α) : decide (0 ≤ idxF pf l 0) = l.any pf := by
  by_cases h : 0 ≤ idxF pf l 0
  · rw [decide_eq_true h]
    rcases l with _ | ⟨x, t⟩
    · simp [idxF] at h
    · obtain ⟨i, _, h2, h3⟩ := idxF_some x (Int.le_refl 0) h
      exact (List.any_eq_true.2 ⟨_, getD_mem h2, h3⟩).symm
  · rw [decide_eq_false h]
    have := idxF_neg (Int.le_refl 0) h
    exact (Bool.eq_false_iff.2 (fun h2 => by obtain ⟨x, hx, hp⟩ := List.any_eq_true.1 h2; rw [this x hx] at hp; cases hp)).symm

/-! ### places -/
abbrev PL := Int × Int × Int
def isV (v : Int) (p : PL) : Bool := decide (p.1 = v)
/-- How many Pos there are. -/
def posN : List CT → Nat
  | [] => 0
  | c :: t => (if c.h.k = 1 then 1 else 0) + posN t
theorem posN_append (a b : List CT) : posN (a ++ b) = posN a + posN b := by
  induction a with
  | nil => simp [posN]
  | cons c t ih => simp only [List.cons_append, posN, ih]; omega
theorem posN_len : ∀ l : List CT, posN l ≤ l.length
  | [] => Nat.le_refl _
  | c :: t => by have := posN_len t; rw [posN]; simp; split <;> omega
def pl1 (h : Hd) (b : Int) (out : List PL) (f : Nat) : List PL := if vF h f = true ∧ ¬ 0 ≤ idxF (isV (nF h f)) out 0 then out ++ [(nF h f, b, (f : Int))] else out
def plTo (h : Hd) (b : Int) (out : List PL) : Nat → List PL
  | 0 => out
  | f + 1 => pl1 h b (plTo h b out f) f
def places : List CT → Int → List PL → List PL
  | [], _, out => out
  | c :: t, b, out => if c.h.k = 1 then places t (b + 1) (plTo c.h b out 3) else places t b out
theorem places_snoc (c : CT) : ∀ (l : List CT) (b : Int) (out : List PL), places (l ++ [c]) b out = if c.h.k = 1 then plTo c.h (b + posN l) (places l b out) 3 else places l b out
  | [], b, out => by simp [places, posN]
  | x :: t, b, out => by
    rw [List.cons_append, places]
    split
    · rename_i hx
      rw [places_snoc c t, places, if_pos hx, posN, if_pos hx]
      congr 2
      omega
    · rename_i hx
      rw [places_snoc c t, places, if_neg hx, posN, if_neg hx, Nat.zero_add]
theorem pl1_len (h : Hd) (b : Int) (out : List PL) (f : Nat) : (pl1 h b out f).length ≤ out.length + 1 := by
  unfold pl1; split <;> simp
theorem plTo_len (h : Hd) (b : Int) (out : List PL) : ∀ f, (plTo h b out f).length ≤ out.length + f
  | 0 => Nat.le_refl _
  | f + 1 => by have := plTo_len h b out f; have := pl1_len h b (plTo h b out f) f; rw [plTo]; omega
theorem places_len : ∀ (l : List CT) (b : Int) (out : List PL), (places l b out).length ≤ out.length + 3 * l.length
  | [], _, _ => by simp [places]
  | c :: t, b, out => by
    rw [places]
    have := plTo_len c.h b out 3
    split
    · have := places_len t (b + 1) (plTo c.h b out 3); simp; omega
    · have := places_len t b out; simp; omega
/-- Whose variables differ. -/
def Once (l : List PL) : Prop := l.Pairwise fun a b => a.1 ≠ b.1
theorem pl1_once {h : Hd} {b : Int} {out : List PL} {f : Nat} (ho : Once out) : Once (pl1 h b out f) := by
  unfold pl1
  split
  · rename_i hx
    have := idxF_neg (Int.le_refl 0) hx.2
    refine List.pairwise_append.2 ⟨ho, by simp, fun a ha c hc => ?_⟩
    rw [List.mem_singleton.1 hc]
    have h2 := this a ha
    simpa [isV] using h2
  · exact ho
theorem plTo_once {h : Hd} {b : Int} {out : List PL} (ho : Once out) : ∀ f, Once (plTo h b out f)
  | 0 => ho
  | f + 1 => pl1_once (plTo_once ho f)
theorem places_once : ∀ (l : List CT) (b : Int) (out : List PL), Once out → Once (places l b out)
  | [], _, _, h => h
  | c :: t, b, out, h => by
    rw [places]; split
    · exact places_once t _ _ (plTo_once h 3)
    · exact places_once t _ _ h

def ltP (a b : PL) : Bool := decide (a.1 < b.1)
end Go.Gx.T6
namespace Go.Gx.T6
open Go.Gx Go.Gx.T3 Go.Gx.T4 Go.Gx.T8
theorem sorted_two {a b : PL} {zs : List PL} (h : zs.Perm [a, b]) (hs : zs.Pairwise (fun x y => ltP y x = false)) (hab : ltP a b = true) : zs = [a, b] := by
  have hl := h.length_eq
  match zs, hl with
  | [x, y], _ =>
    have hx : x ∈ [a, b] := h.subset (by simp)
    rcases List.mem_cons.1 hx with rfl | hx
    · have h2 := (List.perm_cons x).1 h
      have h3 := List.perm_singleton.1 h2
      rw [h3]
    · have hx' := List.mem_singleton.1 hx
      subst hx'
      have h1 : [x, y].Perm [x, a] := h.trans (List.Perm.swap x a [])
      have h2 := (List.perm_cons x).1 h1
      have h3 := List.perm_singleton.1 h2
      simp only [List.cons.injEq, and_true] at h3
      subst h3
      have h4 := (List.pairwise_cons.1 hs).1 y (by simp)
      rw [h4] at hab; cases hab
abbrev A6 (n : Int) : CT := .mk ⟨1, false, n, false, 1, true, n⟩ []
abbrev B6 : CT := .mk ⟨3, false, 0, false, 0, false, 0⟩ [A6 2, A6 3]
abbrev L6 : List CT := [A6 1, B6, A6 4]
theorem L6_places : places L6 0 [] = [(1, 0, 2), (4, 1, 2)] := by decide +kernel
theorem L6_bound {zs : List PL} (h : zs.Perm (places L6 0 [])) (hs : zs.Pairwise (fun x y => ltP y x = false)) : zs = [(1, 0, 2), (4, 1, 2)] := by
  rw [L6_places] at h
  exact sorted_two h hs (by decide)
theorem L6_len : (chains [] L6).length = 5 := by decide +kernel
theorem L6_len2 : ((chains [] L6).getD 2 []).length = 3 := by decide +kernel
theorem L6_own : ownC L6 = [0, 3, 4] := by decide +kernel
theorem mapfst_getD {α : Type} {qs : List (α × Value)} (e : α) (v : Value) (i : Nat) : (qs.map Prod.fst).getD i e = (qs.getD i (e, v)).1 := by
  simp only [List.getD, List.getElem?_map]
  cases qs[i]? <;> rfl
end Go.Gx.T6
