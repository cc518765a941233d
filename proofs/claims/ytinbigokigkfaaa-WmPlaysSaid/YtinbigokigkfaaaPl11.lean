/- Plain laws of the memory of facts; no program in sight. -/
import Derived.Test.YtinbigokigkfaaaGxNum
import Derived.Test.YtinbigokigkfaaaGxSort
namespace Go.Gx.T11
open Go.Gx

def triRight (t : Tri) : Bool := decide ((1 ≤ t.1 ∧ t.1 ≤ 4096) ∧ (1 ≤ t.2.1 ∧ t.2.1 ≤ 4096) ∧ 1 ≤ t.2.2 ∧ t.2.2 ≤ 4096)
def zT : Tri := (0, 0, 0)

/-- Add: the facts behind it, the last id, the answer's id and error. -/
def wAdd (l : List (Int × Tri)) (lim last : Int) (t : Tri) : (List (Int × Tri) × Int) × Int × Int :=
  if triRight t = true then (if lim ≤ (l.length : Int) then ((l, last), 0, 11) else ((mput l (last + 1) t, last + 1), last + 1, 0)) else ((l, last), 0, 4)
theorem wAdd_bad {l : List (Int × Tri)} {lim last : Int} {t : Tri} (h : triRight t = false) : wAdd l lim last t = ((l, last), 0, 4) := by rw [wAdd, if_neg (by rw [h]; simp)]
theorem wAdd_full {l : List (Int × Tri)} {lim last : Int} {t : Tri} (h : triRight t = true) (h2 : lim ≤ (l.length : Int)) : wAdd l lim last t = ((l, last), 0, 11) := by rw [wAdd, if_pos h, if_pos h2]
theorem wAdd_ok {l : List (Int × Tri)} {lim last : Int} {t : Tri} (h : triRight t = true) (h2 : ¬ lim ≤ (l.length : Int)) : wAdd l lim last t = ((mput l (last + 1) t, last + 1), last + 1, 0) := by rw [wAdd, if_pos h, if_neg h2]

theorem mdel_get {l : List (Int × Tri)} {k : Int} (h : lkp l k = none) : mdel l k = l := mdel_none h

/-- k facts, all alike, with the ids 1 to k. -/
def full (t : Tri) : Nat → List (Int × Tri)
  | 0 => []
  | k + 1 => full t k ++ [((k : Int) + 1, t)]
theorem full_len (t : Tri) : ∀ k, (full t k).length = k
  | 0 => rfl
  | k + 1 => by simp [full, full_len t k]
theorem full_lkp (t : Tri) (i : Int) : ∀ k : Nat, lkp (full t k) i = if 1 ≤ i ∧ i ≤ (k : Int) then some t else none
  | 0 => by rw [if_neg (by omega)]; rfl
  | k + 1 => by
    have ih := full_lkp t i k
    have app : ∀ (a b : List (Int × Tri)), lkp (a ++ b) i = match lkp a i with | some u => some u | none => lkp b i := by
      intro a b
      induction a with
      | nil => rfl
      | cons p a iha =>
        simp only [List.cons_append, lkp]
        split
        · rfl
        · exact iha
    rw [full, app, ih]
    by_cases h : 1 ≤ i ∧ i ≤ (k : Int)
    · rw [if_pos h, if_pos (by omega)]
    · rw [if_neg h]
      simp only [lkp]
      by_cases h2 : (k : Int) + 1 = i
      · rw [if_pos h2, if_pos (by omega)]
      · rw [if_neg h2, if_neg (by omega)]
theorem full_next (t : Tri) (k : Nat) : mput (full t k) ((k : Int) + 1) t = full t (k + 1) := by
  rw [mput_none (by rw [full_lkp, if_neg (by omega)])]; rfl
theorem full_nodup (t : Tri) : ∀ k, ((full t k).map (·.1)).Nodup
  | 0 => by simp [full]
  | k + 1 => by
    rw [← full_next]; exact mput_nodup (full_nodup t k) _ _
theorem full_del_len (t : Tri) {n : Nat} {i : Int} (h : 1 ≤ i ∧ i ≤ (n : Int)) : (mdel (full t n) i).length + 1 = n := by
  have := mdel_len (l := full t n) (k := i) (u := t) (by rw [full_lkp, if_pos h])
  rw [full_len] at this; exact this
theorem full_del_lkp (t : Tri) {n : Nat} {i j : Int} : lkp (mdel (full t n) i) j = if i = j then none else if 1 ≤ j ∧ j ≤ (n : Int) then some t else none := by
  rw [lkp_mdel (full_nodup t n), full_lkp]
end Go.Gx.T11
namespace Go.Gx.T11
open Go.Gx
/-- A fact: its id and its triple. -/
abbrev FD := Int × Tri
def fC (f : FD) : List Value := .int .i64 f.1 :: triL f.2
def facts (l : List (Int × Tri)) : List FD := (sortI (l.map Prod.fst)).map fun i => (i, (lkp l i).getD zT)
theorem keys_len (l : List (Int × Tri)) : (sortI (l.map Prod.fst)).length = l.length := by unfold sortI; rw [List.length_mergeSort]; simp
theorem facts_len (l : List (Int × Tri)) : (facts l).length = l.length := by unfold facts; rw [List.length_map, keys_len]
theorem facts_next {l : List (Int × Tri)} {k : Nat} (hk : k < (sortI (l.map Prod.fst)).length) : (facts l).take (k + 1) = (facts l).take k ++ [((sortI (l.map Prod.fst)).getD k 0, (lkp l ((sortI (l.map Prod.fst)).getD k 0)).getD zT)] := by
  unfold facts
  generalize sortI (l.map Prod.fst) = K at hk ⊢
  rw [List.take_succ_eq_append_getElem (by simpa using hk)]
  simp [List.getD, List.getElem?_eq_getElem hk]
theorem facts_getD {l : List (Int × Tri)} {k : Nat} (hk : k < l.length) : (facts l).getD k (0, zT) = ((sortI (l.map Prod.fst)).getD k 0, (lkp l ((sortI (l.map Prod.fst)).getD k 0)).getD zT) := by
  have hk' : k < (sortI (l.map Prod.fst)).length := by rw [keys_len]; exact hk
  unfold facts
  generalize sortI (l.map Prod.fst) = K at hk' ⊢
  simp [List.getD, List.getElem?_eq_getElem hk']
theorem fact_mem {l : List (Int × Tri)} {k : Nat} (hk : k < l.length) : ∃ t, ((facts l).getD k (0, zT)).1 ∈ l.map Prod.fst ∧ t = ((facts l).getD k (0, zT)).2 := by
  refine ⟨_, ?_, rfl⟩
  rw [facts_getD hk]
  have hk' : k < (sortI (l.map Prod.fst)).length := by rw [keys_len]; exact hk
  have h1 : (sortI (l.map Prod.fst)).getD k 0 ∈ sortI (l.map Prod.fst) := by
    generalize sortI (l.map Prod.fst) = K at hk' ⊢
    simp [List.getD, List.getElem?_eq_getElem hk']
  exact ((List.mergeSort_perm (l.map Prod.fst) _).mem_iff).1 h1
end Go.Gx.T11
namespace Go.Gx.T11
open Go.Gx
/-- What is so of the facts behind so many calls: ids are 1 to the last one. -/
structure Ids (l : List (Int × Tri)) (last : Int) (j : Nat) : Prop where
  keys : ∀ q ∈ l, 1 ≤ q.1 ∧ q.1 ≤ last
  len : l.length ≤ j
  lo : 0 ≤ last
  hi : last ≤ j
  nd : (l.map (·.1)).Nodup
theorem Ids.nil : Ids [] 0 0 := ⟨by simp, Nat.le_refl _, by omega, by omega, by simp⟩
theorem Ids.skip {l : List (Int × Tri)} {last : Int} {j : Nat} (h : Ids l last j) : Ids l last (j + 1) := ⟨h.keys, by have := h.len; omega, h.lo, by have := h.hi; omega, h.nd⟩
theorem Ids.free {l : List (Int × Tri)} {last : Int} {j : Nat} (h : Ids l last j) : lkp l (last + 1) = none := by
  rw [lkp_none]; intro p hp e
  have := (h.keys p hp).2; omega
theorem Ids.add {l : List (Int × Tri)} {last : Int} {j : Nat} (h : Ids l last j) (t : Tri) : Ids (mput l (last + 1) t) (last + 1) (j + 1) := by
  refine ⟨fun q hq => ?_, ?_, by have := h.lo; omega, by have := h.hi; omega, mput_nodup h.nd _ _⟩
  · rw [mput_none h.free] at hq
    rcases List.mem_append.1 hq with hq | hq
    · have := h.keys q hq; omega
    · rw [List.mem_singleton.1 hq]; have := h.lo; dsimp only; omega
  · rw [mput_len, h.free]; have := h.len; simp; omega
theorem Ids.del {l : List (Int × Tri)} {last : Int} {j : Nat} (h : Ids l last j) (k : Int) : Ids (mdel l k) last j :=
  ⟨fun q hq => h.keys q ((mdel_sub l k).subset hq), Nat.le_trans (mdel_sub l k).length_le h.len, h.lo, h.hi, mdel_nodup h.nd k⟩
theorem Ids.wf {l : List (Int × Tri)} {last : Int} {j : Nat} (h : Ids l last j) (hj : j ≤ 2000) : ∀ q ∈ l, (Lit.int .i64 q.1).wf = true := fun q hq => by
  have h1 := h.keys q hq
  have h2 := h.hi
  exact wf_mk (by omega)
theorem wAdd_err {l : List (Int × Tri)} {lim last : Int} {t : Tri} (h : (wAdd l lim last t).2.2 ≠ 0) : (wAdd l lim last t).1 = (l, last) := by
  unfold wAdd at h ⊢
  split at h
  · split at h
    · rename_i h1 h2; rw [if_pos h1, if_pos h2]
    · exact absurd rfl h
  · rename_i h1; rw [if_neg h1]
theorem wAdd_good {l : List (Int × Tri)} {lim last : Int} {t : Tri} (h : (wAdd l lim last t).2.2 = 0) : wAdd l lim last t = ((mput l (last + 1) t, last + 1), last + 1, 0) := by
  unfold wAdd at h ⊢
  split at h
  · split at h
    · simp at h
    · rename_i h1 h2; rw [if_pos h1, if_neg h2]
  · simp at h
theorem fact_there {l : List (Int × Tri)} {k : Nat} (hk : k < l.length) : (lkp l ((facts l).getD k (0, zT)).1).isSome = true ∧ (lkp l ((facts l).getD k (0, zT)).1).getD zT = ((facts l).getD k (0, zT)).2 := by
  obtain ⟨_, h1, _⟩ := fact_mem hk
  constructor
  · cases e : lkp l ((facts l).getD k (0, zT)).1 with
    | some u => rfl
    | none =>
      rw [lkp_none] at e
      obtain ⟨p, hp, hpe⟩ := List.mem_map.1 h1
      exact absurd hpe (e p hp)
  · rw [facts_getD hk]
end Go.Gx.T11
namespace Go.Gx
/-- A small number's cell. -/
def cU (a : Nat) : List Value := [.int .u8 ((a % 256 : Nat) : Int)]
end Go.Gx
