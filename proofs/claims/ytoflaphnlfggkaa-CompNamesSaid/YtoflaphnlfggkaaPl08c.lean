/- Plain laws of compiled steps: where variables were bound, found in a sorted list of places; steps that are alike; no program in sight. -/
import Derived.Test.YtoflaphnlfggkaaPl06c
import Derived.Test.YtoflaphnlfggkaaGxFresh
namespace Go.Gx.T8
open Go.Gx Go.Gx.T3 Go.Gx.T4 Go.Gx.T6

/-! ### the first alike term -/
abbrev TT := Bool × Int
def tmC (t : TT) : List Value := [.bool t.1, .int .i64 t.2]
abbrev tt0 : TT := (false, 0)
def terms (h : Hd) : List TT := [(h.v0, h.n0), (h.v1, h.n1), (h.v2, h.n2)]
def sameT (t z : TT) : Bool := csEq (tmC t) (tmC z)
theorem sameT_eq (t z : TT) : sameT t z = (decide (t.1 = z.1) && decide (t.2 = z.2)) := by
  obtain ⟨a, b⟩ := t
  obtain ⟨c, d⟩ := z
  cases a <;> cases c <;> simp [sameT, tmC, csEq, cEq]
/-- Where the first term ahead of term f stands that is alike; -1: none. -/
def ownG (h : Hd) (f : Nat) : Int := idxF (sameT (vF h f, nF h f)) ((terms h).take f) 0
theorem sameF_T (h : Hd) (g f : Nat) : sameT (vF h f, nF h f) (vF h g, nF h g) = sameF h g f := by
  rw [sameT_eq]; unfold sameF
  rw [show decide (vF h f = vF h g) = decide (vF h g = vF h f) from decide_eq_decide.2 ⟨Eq.symm, Eq.symm⟩, show decide (nF h f = nF h g) = decide (nF h g = nF h f) from decide_eq_decide.2 ⟨Eq.symm, Eq.symm⟩]
theorem ownG_eq (h : Hd) : ∀ f, f < 3 → ownG h f = (dupF h f).getD (-1)
  | 0, _ => by simp [ownG, idxF, dupF]
  | 1, _ => by
    have h1 := sameF_T h 0 1
    show idxF _ [(h.v0, h.n0)] 0 = _
    rw [idxF, show sameT (vF h 1, nF h 1) (h.v0, h.n0) = sameF h 0 1 from h1]
    cases e : sameF h 0 1 <;> simp [idxF, dupF, e]
  | 2, _ => by
    have h1 := sameF_T h 0 2
    have h2 := sameF_T h 1 2
    show idxF _ [(h.v0, h.n0), (h.v1, h.n1)] 0 = _
    rw [idxF, idxF, show sameT (vF h 2, nF h 2) (h.v0, h.n0) = sameF h 0 2 from h1, show sameT (vF h 2, nF h 2) (h.v1, h.n1) = sameF h 1 2 from h2]
    cases e : sameF h 0 2 <;> cases e' : sameF h 1 2 <;> simp [idxF, dupF, e, e']
theorem dup_some {h : Hd} {f : Nat} (hf : f < 3) (hg : 0 ≤ ownG h f) : dupF h f = some (ownG h f) := by
  rw [ownG_eq h f hf] at hg ⊢
  cases e : dupF h f with
  | none => rw [e] at hg; simp at hg
  | some x => rfl
theorem dup_none {h : Hd} {f : Nat} (hf : f < 3) (hg : ¬ 0 ≤ ownG h f) : dupF h f = none := by
  rw [ownG_eq h f hf] at hg
  cases e : dupF h f with
  | none => rfl
  | some x =>
    rw [e] at hg
    exfalso
    apply hg
    show 0 ≤ x
    unfold dupF at e
    split at e
    · cases e; omega
    · split at e
      · cases e; omega
      · cases e

/-! ### bound, by a list of places -/
def lkP (v : Int) (ps : List PL) : Option (Int × Int) := (ps.find? (isV v)).map Prod.snd
theorem lkP_append (v : Int) (a b : List PL) : lkP v (a ++ b) = (lkP v a).or (lkP v b) := by
  unfold lkP
  rw [List.find?_append]
  cases a.find? (isV v) <;> simp
theorem isV_iff {v : Int} {p : PL} : isV v p = true ↔ p.1 = v := by simp [isV]
theorem lkP_none {v : Int} {ps : List PL} (h : ∀ p ∈ ps, isV v p = false) : lkP v ps = none := by
  unfold lkP
  rw [List.find?_eq_none.2 (fun p hp => by rw [h p hp]; decide)]; rfl
theorem lkP_isSome {v : Int} {ps : List PL} (h : 0 ≤ idxF (isV v) ps 0) : (lkP v ps).isSome = true := by
  have h1 : ps.any (isV v) = true := by rw [← idxF_any, decide_eq_true h]
  obtain ⟨p, hp, h2⟩ := List.any_eq_true.1 h1
  unfold lkP
  rw [Option.isSome_map]
  exact List.find?_isSome.2 ⟨p, hp, h2⟩
theorem lkP_pl1 (h : Hd) (b : Int) (out : List PL) (f : Nat) (v : Int) : lkP v (pl1 h b out f) = (lkP v out).or (if vF h f = true ∧ nF h f = v then some (b, (f : Int)) else none) := by
  unfold pl1
  by_cases h1 : vF h f = true
  · by_cases h2 : 0 ≤ idxF (isV (nF h f)) out 0
    · rw [if_neg (by simp [h2])]
      by_cases h3 : nF h f = v
      · subst h3
        have := lkP_isSome h2
        cases e : lkP (nF h f) out with
        | none => rw [e] at this; cases this
        | some x => simp
      · rw [if_neg (by simp [h3])]; simp
    · rw [if_pos ⟨h1, h2⟩, lkP_append]
      congr 1
      by_cases h3 : nF h f = v
      · rw [if_pos ⟨h1, h3⟩]; simp [lkP, isV, h3]
      · rw [if_neg (by simp [h3])]; simp [lkP, isV, h3]
  · rw [if_neg (by simp [h1]), if_neg (by simp [h1])]; simp
theorem or_assoc' {α : Type} (a b c : Option α) : (a.or b).or c = a.or (b.or c) := by cases a <;> simp
theorem lkP_plTo (h : Hd) (b : Int) (out : List PL) (v : Int) : lkP v (plTo h b out 3) = (lkP v out).or ((firstF h v).map fun f => (b, f)) := by
  show lkP v (pl1 h b (pl1 h b (pl1 h b out 0) 1) 2) = _
  rw [lkP_pl1, lkP_pl1, lkP_pl1, or_assoc', or_assoc']
  congr 1
  unfold firstF
  show ((if h.v0 = true ∧ h.n0 = v then some (b, ((0 : Nat) : Int)) else none).or ((if h.v1 = true ∧ h.n1 = v then some (b, ((1 : Nat) : Int)) else none).or (if h.v2 = true ∧ h.n2 = v then some (b, ((2 : Nat) : Int)) else none))) = _
  by_cases h0 : h.v0 = true ∧ h.n0 = v
  · rw [if_pos h0, if_pos h0]; rfl
  · rw [if_neg h0, if_neg h0]
    by_cases h1 : h.v1 = true ∧ h.n1 = v
    · rw [if_pos h1, if_pos h1]; rfl
    · rw [if_neg h1, if_neg h1]
      by_cases h2 : h.v2 = true ∧ h.n2 = v
      · rw [if_pos h2, if_pos h2]; rfl
      · rw [if_neg h2, if_neg h2]; rfl
theorem lkP_places (v : Int) : ∀ (l : List CT) (b : Int) (out : List PL), lkP v (places l b out) = (lkP v out).or (bound v l b)
  | [], b, out => by simp [places, bound]
  | c :: t, b, out => by
    rw [places, bound]
    split
    · rw [lkP_places v t, lkP_plTo, or_assoc']
      congr 1
      cases firstF c.h v <;> simp
    · rw [lkP_places v t]
theorem lkP_once {v : Int} : ∀ {ps : List PL} {p : PL}, Once ps → p ∈ ps → p.1 = v → lkP v ps = some p.2
  | q :: t, p, ho, hp, hv => by
    obtain ⟨h1, h2⟩ := List.pairwise_cons.1 ho
    rcases List.mem_cons.1 hp with rfl | hp
    · simp [lkP, isV, hv]
    · have h3 := h1 p hp
      have h4 : isV v q = false := by simp [isV]; rw [← hv]; exact h3
      have h5 := lkP_once h2 hp hv
      unfold lkP at h5 ⊢
      rw [List.find?_cons, h4]; exact h5
/-- What is found in the sorted places is what is bound. -/
theorem found_bound {l : List CT} {zs : List PL} {v : Int} {i : Nat} (hp : zs.Perm (places l 0 [])) (hi : i < zs.length) (hv : isV v (zs.getD i t0) = true) : bound v l 0 = some (zs.getD i t0).2 := by
  have h1 : zs.getD i t0 ∈ places l 0 [] := hp.subset (getD_mem hi)
  have h2 := lkP_once (places_once l 0 [] .nil) h1 (isV_iff.1 hv)
  rw [lkP_places] at h2
  simpa [lkP] using h2
theorem found_none {l : List CT} {zs : List PL} {v : Int} (hp : zs.Perm (places l 0 [])) (h : ¬ 0 ≤ idxF (isV v) zs 0) : bound v l 0 = none := by
  have h1 := idxF_neg (Int.le_refl 0) h
  have h2 := lkP_places v l 0 []
  rw [lkP_none (fun p hp' => h1 p (hp.symm.subset hp'))] at h2
  simpa [lkP] using h2.symm
theorem testF_b {ch : List CT} {h : Hd} {f : Nat} {x : Int × Int} (hv : vF h f = true) (hb : bound (nF h f) ch 0 = some x) : testF ch h f = [((f : Int), x.1, x.2)] := by
  unfold testF; rw [if_pos hv, hb]
theorem testF_d {ch : List CT} {h : Hd} {f : Nat} {g : Int} (hv : vF h f = true) (hb : bound (nF h f) ch 0 = none) (hd : dupF h f = some g) : testF ch h f = [((f : Int), -1, g)] := by
  unfold testF; rw [if_pos hv, hb, hd]
theorem testF_n {ch : List CT} {h : Hd} {f : Nat} (hv : vF h f = true) (hb : bound (nF h f) ch 0 = none) (hd : dupF h f = none) : testF ch h f = [] := by
  unfold testF; rw [if_pos hv, hb, hd]

theorem Ss.le {G G' : Ghost} {v : Value} {l : List ST} (h : Ss G v l) (hle : GLe G G') : Ss G' v l := h.mono hle
end Go.Gx.T8
namespace Go.Gx.T8
open Go.Gx Go.Gx.T3 Go.Gx.T4 Go.Gx.T6
theorem terms_sl {h : Hd} {k : Int} {sv : Value} {G : Ghost} {v : Value} {f : Nat} (hf : f < 3) (hv : SlG G v f 2 (fun i j => at_ [Value.int .i64 k, Value.bool h.v0, Value.int .i64 h.n0, Value.bool h.v1, Value.int .i64 h.n1, Value.bool h.v2, Value.int .i64 h.n2, sv] (1 + (i * 2 + j)))) : SlL G v 2 tmC tt0 ((terms h).take f) := by
  match f, hf with
  | 0, _ => exact SlG.congr hv (fun i hi => absurd (show i < 0 from hi) (by omega))
  | 1, _ =>
    refine SlG.congr hv (fun i hi j hj => ?_)
    have hi' : i < 1 := hi
    obtain rfl : i = 0 := by omega
    match j, hj with
    | 0, _ => rfl
    | 1, _ => rfl
  | 2, _ =>
    refine SlG.congr hv (fun i hi j hj => ?_)
    match i, hi with
    | 0, _ =>
      match j, hj with
      | 0, _ => rfl
      | 1, _ => rfl
    | 1, _ =>
      match j, hj with
      | 0, _ => rfl
      | 1, _ => rfl
theorem term_at {h : Hd} {k : Int} {sv : Value} {f : Nat} (hf : f < 3) : aggF 2 (fun i => at_ [Value.int .i64 k, Value.bool h.v0, Value.int .i64 h.n0, Value.bool h.v1, Value.int .i64 h.n1, Value.bool h.v2, Value.int .i64 h.n2, sv] (1 + (f * 2 + i))) = Value.agg #[Value.bool (vF h f), Value.int .i64 (nF h f)] := by
  match f, hf with
  | 0, _ => rfl
  | 1, _ => rfl
  | 2, _ => rfl
end Go.Gx.T8
namespace Go.Gx.T8
open Go.Gx Go.Gx.T3 Go.Gx.T4 Go.Gx.T6
theorem take_rs {rs : List (CT × Value)} {k : Nat} (hk : k < rs.length) : rs.take (k + 1) = rs.take k ++ [rs.getD k d0] := by
  rw [List.take_succ_eq_append_getElem hk]; simp [List.getD, List.getElem?_eq_getElem hk]
end Go.Gx.T8
