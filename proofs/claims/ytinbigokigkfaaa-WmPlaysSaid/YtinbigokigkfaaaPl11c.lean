/- Plain laws of the document's memory of facts: all that ever were, and who is out; no program in sight. -/
import Derived.Test.YtinbigokigkfaaaPl11
namespace Go.Gx.T11
open Go.Gx

/-- Those that are in. -/
def rf (all : List FD) (gone : List Int) : List FD := all.filter fun f => !gone.contains f.1
/-- .. of the first k. -/
theorem rf_next {all : List FD} {gone : List Int} {k : Nat} (hk : k < all.length) : rf (all.take (k + 1)) gone = rf (all.take k) gone ++ if gone.contains (all.getD k (0, zT)).1 = true then [] else [all.getD k (0, zT)] := by
  rw [List.take_succ_eq_append_getElem hk]
  unfold rf
  rw [List.filter_append]
  congr 1
  have e : all.getD k (0, zT) = all[k] := by simp [List.getD, List.getElem?_eq_getElem hk]
  rw [e]
  by_cases h : gone.contains all[k].1 = true
  · rw [if_pos h, List.filter_cons, if_neg (by rw [h]; decide)]; rfl
  · rw [if_neg h, List.filter_cons, if_pos (by rw [Bool.not_eq_true] at h; rw [h]; decide)]; rfl
theorem rf_yes {all : List FD} {gone : List Int} {k : Nat} (hk : k < all.length) (h : gone.contains (all.getD k (0, zT)).1 = false) : rf (all.take (k + 1)) gone = rf (all.take k) gone ++ [all.getD k (0, zT)] := by
  rw [rf_next hk, if_neg (by rw [h]; decide)]
theorem rf_no {all : List FD} {gone : List Int} {k : Nat} (hk : k < all.length) (h : gone.contains (all.getD k (0, zT)).1 = true) : rf (all.take (k + 1)) gone = rf (all.take k) gone := by
  rw [rf_next hk, if_pos h, List.append_nil]
theorem rf_len (all : List FD) (gone : List Int) : (rf all gone).length ≤ all.length := List.length_filter_le _ _

/-- What is so behind so many calls: ids are 1 to how many there are; who is out had one of them. -/
structure Wm (all : List FD) (gone : List Int) (j : Nat) : Prop where
  ids : all.map Prod.fst = (List.range all.length).map fun i : Nat => (i : Int) + 1
  out : ∀ g ∈ gone, g ≤ all.length
  na : all.length ≤ j
  ng : gone.length ≤ j
theorem Wm.nil : Wm [] [] 0 := ⟨rfl, by simp, Nat.le_refl _, Nat.le_refl _⟩
theorem Wm.skip {all : List FD} {gone : List Int} {j : Nat} (h : Wm all gone j) : Wm all gone (j + 1) := ⟨h.ids, h.out, Nat.le_succ_of_le h.na, Nat.le_succ_of_le h.ng⟩
theorem Wm.key {all : List FD} {gone : List Int} {j : Nat} (h : Wm all gone j) {f : FD} (hf : f ∈ all) : 1 ≤ f.1 ∧ f.1 ≤ all.length := by
  have h1 : f.1 ∈ all.map Prod.fst := List.mem_map.2 ⟨f, hf, rfl⟩
  rw [h.ids] at h1
  obtain ⟨i, hi, e⟩ := List.mem_map.1 h1
  have := List.mem_range.1 hi
  omega
theorem Wm.sorted {all : List FD} {gone : List Int} {j : Nat} (h : Wm all gone j) : (all.map Prod.fst).Pairwise (· < ·) := by
  rw [h.ids]
  exact List.pairwise_lt_range.map _ (fun a b hab => by omega)
theorem Wm.inkeys {all : List FD} {gone : List Int} {j : Nat} (h : Wm all gone j) : ((rf all gone).map Prod.fst).Pairwise (· < ·) := by
  exact h.sorted.sublist ((List.filter_sublist).map _)
theorem Wm.nd {all : List FD} {gone : List Int} {j : Nat} (h : Wm all gone j) : ((rf all gone).map (·.1)).Nodup :=
  h.inkeys.imp (fun hab => by omega)
theorem Wm.free {all : List FD} {gone : List Int} {j : Nat} (h : Wm all gone j) : lkp (rf all gone) ((all.length : Int) + 1) = none := by
  rw [lkp_none]; intro p hp e
  have := (h.key ((List.mem_filter.1 hp).1)).2
  omega
theorem Wm.add {all : List FD} {gone : List Int} {j : Nat} (h : Wm all gone j) (t : Tri) : Wm (all ++ [((all.length : Int) + 1, t)]) gone (j + 1) := by
  refine ⟨?_, fun g hg => ?_, ?_, Nat.le_succ_of_le h.ng⟩
  · rw [List.map_append, h.ids, List.length_append, List.length_singleton, List.range_succ, List.map_append]; rfl
  · have := h.out g hg; simp; omega
  · have := h.na; simp; omega
theorem rf_add {all : List FD} {gone : List Int} {j : Nat} (h : Wm all gone j) (t : Tri) : mput (rf all gone) ((all.length : Int) + 1) t = rf (all ++ [((all.length : Int) + 1, t)]) gone := by
  rw [mput_none h.free]
  unfold rf
  rw [List.filter_append]
  have h1 : gone.contains ((all.length : Int) + 1) = false := by
    rw [← Bool.not_eq_true]
    intro hc
    have := h.out _ (by simpa using hc)
    omega
  rw [List.filter_cons, if_pos (by show (!gone.contains ((all.length : Int) + 1)) = true; rw [h1]; rfl)]; rfl
theorem Wm.del {all : List FD} {gone : List Int} {j : Nat} (h : Wm all gone j) {i : Int} (hi : (lkp (rf all gone) i).isSome = true) : Wm all (gone ++ [i]) (j + 1) := by
  refine ⟨h.ids, fun g hg => ?_, Nat.le_succ_of_le h.na, by have := h.ng; simp; omega⟩
  rcases List.mem_append.1 hg with hg | hg
  · exact h.out g hg
  · obtain ⟨u, hu⟩ := Option.isSome_iff_exists.1 hi
    have h1 := lkp_some hu
    have h2 := (h.key ((List.mem_filter.1 h1).1)).2
    rw [List.mem_singleton.1 hg]; exact h2
theorem mdel_filter {l : List FD} {i : Int} (hn : (l.map (·.1)).Nodup) : mdel l i = l.filter fun f => !decide (f.1 = i) := by
  induction l with
  | nil => rfl
  | cons p t ih =>
    rw [List.map_cons, List.nodup_cons] at hn
    unfold mdel
    by_cases e : p.1 = i
    · rw [if_pos e]
      simp only [List.filter_cons, e, decide_true, Bool.not_true]
      symm
      rw [if_neg (by decide), List.filter_eq_self]
      intro f hf
      have : f.1 ≠ i := fun e2 => hn.1 (by rw [e, ← e2]; exact List.mem_map.2 ⟨f, hf, rfl⟩)
      simp [this]
    · rw [if_neg e, ih hn.2]
      simp [e]
theorem rf_del {all : List FD} {gone : List Int} {j : Nat} (h : Wm all gone j) (i : Int) : mdel (rf all gone) i = rf all (gone ++ [i]) := by
  rw [mdel_filter h.nd]
  unfold rf
  rw [List.filter_filter]
  refine List.filter_congr fun f _ => ?_
  simp only [List.contains_eq_any_beq, List.any_append, List.any_cons, List.any_nil, Bool.or_false, Bool.not_or]
  rw [Bool.and_comm]
  congr 1
theorem Wm.wf {all : List FD} {gone : List Int} {j : Nat} (h : Wm all gone j) (hj : j ≤ 2000) : ∀ q ∈ rf all gone, (Lit.int .i64 q.1).wf = true := fun q hq => by
  have h1 := h.key ((List.mem_filter.1 hq).1)
  have h2 := h.na
  exact wf_mk (by omega)
/-- The facts, sorted by ids, are those that are in, as they stand. -/
theorem Wm.facts {all : List FD} {gone : List Int} {j : Nat} (h : Wm all gone j) : facts (rf all gone) = rf all gone := by
  have hs := h.inkeys
  have hnd := h.nd
  generalize rf all gone = l at hs hnd
  have h1 : sortI (l.map Prod.fst) = l.map Prod.fst := by
    refine List.mergeSort_of_pairwise (hs.imp fun hab => ?_)
    simp; omega
  unfold T11.facts
  rw [h1, List.map_map]
  refine (List.map_congr_left fun f hf => ?_).trans (List.map_id l)
  have : lkp l f.1 = some f.2 := lkp_mem hnd (by simpa using hf)
  simp [this]

/-! ### the first of a name -/
theorem lkp_drop {l : List FD} {k : Nat} {i : Int} (hk : k < l.length) : lkp (l.drop k) i = if (l.getD k (0, zT)).1 = i then some (l.getD k (0, zT)).2 else lkp (l.drop (k + 1)) i := by
  have e : l.getD k (0, zT) = l[k] := by simp [List.getD, List.getElem?_eq_getElem hk]
  rw [List.drop_eq_getElem_cons hk, e]
  rfl
theorem has_drop {l : List Int} {k : Nat} {i : Int} (hk : k < l.length) : (l.drop k).contains i = (decide (l.getD k 0 = i) || (l.drop (k + 1)).contains i) := by
  have e : l.getD k 0 = l[k] := by simp [List.getD, List.getElem?_eq_getElem hk]
  rw [List.drop_eq_getElem_cons hk, e, List.contains_cons]
  congr 1
  by_cases e2 : l[k] = i
  · rw [decide_eq_true e2, e2]; exact beq_self_eq_true i
  · rw [decide_eq_false e2]; exact beq_eq_false_iff_ne.2 (Ne.symm e2)
theorem fd_ext {f g : FD} : (fC f = fC g) ↔ f = g := by
  constructor
  · intro h
    obtain ⟨i, a, b, c⟩ := f
    obtain ⟨j, d, e, k⟩ := g
    simp [fC, triL] at h ⊢
    exact h
  · rintro rfl; rfl
theorem csEq_fd (f g : FD) : csEq (fC f) (fC g) = decide (f = g) := by
  obtain ⟨i, a, b, c⟩ := f
  obtain ⟨j, d, e, k⟩ := g
  simp [fC, triL, csEq, cEq, Prod.mk.injEq, Bool.and_assoc]
/-- Two lists are alike as far as they were looked at. -/
theorem same_all {l m : List FD} (hlen : l.length = m.length) (h : ∀ k, k < l.length → l.getD k (0, zT) = m.getD k (0, zT)) : l = m := by
  refine List.ext_getElem hlen fun i h1 h2 => ?_
  have := h i h1
  simpa [List.getD, List.getElem?_eq_getElem h1, List.getElem?_eq_getElem h2] using this
end Go.Gx.T11
namespace Go.Gx.T11
open Go.Gx
def rAdd (all : List FD) (gone : List Int) (lim : Int) (t : Tri) : List FD × Int × Int :=
  if triRight t = true then (if lim ≤ ((rf all gone).length : Int) then (all, 0, 11) else (all ++ [((all.length : Int) + 1, t)], (all.length : Int) + 1, 0)) else (all, 0, 4)
theorem rAdd_bad {all : List FD} {gone : List Int} {lim : Int} {t : Tri} (h : triRight t = false) : rAdd all gone lim t = (all, 0, 4) := by rw [rAdd, if_neg (by rw [h]; simp)]
theorem rAdd_full {all : List FD} {gone : List Int} {lim : Int} {t : Tri} (h : triRight t = true) (h2 : lim ≤ ((rf all gone).length : Int)) : rAdd all gone lim t = (all, 0, 11) := by rw [rAdd, if_pos h, if_pos h2]
theorem rAdd_ok {all : List FD} {gone : List Int} {lim : Int} {t : Tri} (h : triRight t = true) (h2 : ¬ lim ≤ ((rf all gone).length : Int)) : rAdd all gone lim t = (all ++ [((all.length : Int) + 1, t)], (all.length : Int) + 1, 0) := by rw [rAdd, if_pos h, if_neg h2]
def rGone (all : List FD) (gone : List Int) (i : Int) : List Int := if (lkp (rf all gone) i).isSome = true then gone ++ [i] else gone
/-- Both add alike. -/
theorem both_add {all : List FD} {gone : List Int} {lim : Int} {j : Nat} (h : Wm all gone j) (t : Tri) :
    wAdd (rf all gone) lim (all.length : Int) t = ((rf (rAdd all gone lim t).1 gone, ((rAdd all gone lim t).1.length : Int)), (rAdd all gone lim t).2.1, (rAdd all gone lim t).2.2) ∧ Wm (rAdd all gone lim t).1 gone (j + 1) := by
  by_cases h1 : triRight t = true
  · by_cases h2 : lim ≤ ((rf all gone).length : Int)
    · rw [wAdd_full h1 h2, rAdd_full h1 h2]; exact ⟨rfl, h.skip⟩
    · rw [wAdd_ok h1 h2, rAdd_ok h1 h2, rf_add h]
      exact ⟨by simp, h.add t⟩
  · rw [Bool.not_eq_true] at h1
    rw [wAdd_bad h1, rAdd_bad h1]; exact ⟨rfl, h.skip⟩
theorem both_del {all : List FD} {gone : List Int} {j : Nat} (h : Wm all gone j) (i : Int) : mdel (rf all gone) i = rf all (rGone all gone i) ∧ Wm all (rGone all gone i) (j + 1) := by
  unfold rGone
  by_cases h1 : (lkp (rf all gone) i).isSome = true
  · rw [if_pos h1]; exact ⟨rf_del h i, h.del h1⟩
  · rw [if_neg h1]
    exact ⟨mdel_none (by cases e : lkp (rf all gone) i with
      | none => rfl
      | some u => rw [e] at h1; exact absurd rfl h1), h.skip⟩
/-- A call. -/
abbrev OpD := Bool × Tri × Int
def opC (o : OpD) : List Value := [.bool o.1, .int .i64 o.2.1.1, .int .i64 o.2.1.2.1, .int .i64 o.2.1.2.2, .int .i64 o.2.2]
end Go.Gx.T11
