/- Plain laws of tests: whether a fact meets a step; no program in sight. -/
import Derived.Test.YtinbigokigkfaaaPl08
import Derived.Test.YtinbigokigkfaaaGxKey
namespace Go.Gx.T13
open Go.Gx Go.Gx.T3 Go.Gx.T4 Go.Gx.T8

abbrev z3 : Tri := (0, 0, 0)
def hasK (t k : Tri) : Bool := decide ((k.1 = 0 ∨ k.1 = t.1) ∧ (k.2.1 = 0 ∨ k.2.1 = t.2.1) ∧ (k.2.2 = 0 ∨ k.2.2 = t.2.2))
def fld (t : Tri) (i : Int) : Int := if i = 0 then t.1 else if i = 1 then t.2.1 else t.2.2
def holdsT (x : TD) (bs : List Tri) (t : Tri) : Bool :=
  if (bs.length : Int) ≤ x.2.1 then false else decide (fld t x.1 = fld (if 0 ≤ x.2.1 then bs.getD x.2.1.toNat z3 else t) x.2.2)
theorem holds_out {f b o : Int} {bs : List Tri} {t : Tri} (h : (bs.length : Int) ≤ b) : holdsT (f, b, o) bs t = false := by rw [holdsT, if_pos h]
theorem holds_back {f o : Int} {b : Nat} {bs : List Tri} {t : Tri} (h : ¬ (bs.length : Int) ≤ (b : Int)) : holdsT (f, (b : Int), o) bs t = decide (fld t f = fld (bs.getD b z3) o) := by
  rw [holdsT, if_neg h, if_pos (by show (0 : Int) ≤ (b : Int); omega)]; rfl
theorem holds_own {f b o : Int} {bs : List Tri} {t : Tri} (h : b < 0) : holdsT (f, b, o) bs t = decide (fld t f = fld t o) := by
  rw [holdsT, if_neg (by show ¬ (bs.length : Int) ≤ b; omega), if_neg (by show ¬ (0 : Int) ≤ b; omega)]
/-- A test whose fields are fields. -/
structure OkT (x : TD) : Prop where
  f : x.1 = 0 ∨ x.1 = 1 ∨ x.1 = 2
  b : -1 ≤ x.2.1 ∧ x.2.1 ≤ 5000
  o : x.2.2 = 0 ∨ x.2.2 = 1 ∨ x.2.2 = 2
def meets (k : Int) (key : Tri) (ts : List TD) (bs : List Tri) (t : Tri) : Bool :=
  if k = 3 ∨ hasK t key = false then false else ts.all fun x => holdsT x bs t
theorem all_drop {ts : List TD} {p : TD → Bool} {k : Nat} (hk : k < ts.length) : (ts.drop k).all p = (p (ts.getD k t0) && (ts.drop (k + 1)).all p) := by
  rw [List.drop_eq_getElem_cons hk, List.all_cons]
  simp [List.getD, List.getElem?_eq_getElem hk]
theorem tri_drop {ts : List Tri} {p : Tri → Bool} {k : Nat} (hk : k < ts.length) : (ts.drop k).all p = (p (ts.getD k z3) && (ts.drop (k + 1)).all p) := by
  rw [List.drop_eq_getElem_cons hk, List.all_cons]
  simp [List.getD, List.getElem?_eq_getElem hk]
theorem SlL.part {α : Type} {G : Ghost} {v : Value} {sz k : Nat} {cells : α → List Value} {e : α} {l : List α} (hk : k ≤ l.length) (h : SlG G v k sz (fun i => at_ (cells (l.getD i e)))) : SlL G v sz cells e (l.take k) := by
  unfold SlL
  rw [List.length_take, Nat.min_eq_left hk]
  refine h.congr fun i hi j _ => ?_
  simp [List.getD, List.getElem?_take, hi]

/-! ### the tests of compiled conditions -/
theorem ok_testF {ch : List CT} {h : Hd} {f : Nat} (hf : f ≤ 2) (hc : ch.length ≤ 5000) {x : TD} (hx : x ∈ testF ch h f) : OkT x := by
  unfold testF at hx
  split at hx
  · split at hx
    · rename_i y hy
      have hb := bound_lt hy
      rw [List.mem_singleton.1 hx]
      exact ⟨by dsimp only; omega, by dsimp only; omega, by dsimp only; omega⟩
    · split at hx
      · rename_i g hg
        rw [List.mem_singleton.1 hx]
        have : g = 0 ∨ g = 1 := by
          unfold dupF at hg
          split at hg
          · simp at hg; omega
          · split at hg
            · simp at hg; omega
            · simp at hg
        exact ⟨by dsimp only; omega, by dsimp only; omega, by dsimp only; omega⟩
      · cases hx
  · cases hx
theorem ok_testsTo {ch : List CT} {h : Hd} (hc : ch.length ≤ 5000) : ∀ f, f ≤ 3 → ∀ x ∈ testsTo ch h f, OkT x
  | 0, _, x, hx => by cases hx
  | f + 1, hf, x, hx => by
    rw [testsTo_succ] at hx
    rcases List.mem_append.1 hx with hx | hx
    · exact ok_testsTo hc f (by omega) x hx
    · exact ok_testF (by omega) hc hx
theorem ok_stepOf {ch : List CT} {c : CT} (hc : ch.length ≤ 5000) : ∀ x ∈ (stepOf ch c).h.ts, OkT x := by
  intro x hx
  by_cases h : c.h.k = 3
  · rw [stepOf_ncc h] at hx; cases hx
  · rw [stepOf_other h] at hx; exact ok_testsTo hc 3 (by omega) x hx
theorem ok_stepsOf : ∀ (l ch : List CT), ch.length + l.length ≤ 5000 → ∀ s ∈ stepsOf ch l, ∀ x ∈ s.h.ts, OkT x
  | [], ch, _, s, hs => by simp [stepsOf] at hs
  | c :: t, ch, hc, s, hs => by
    rw [stepsOf] at hs
    simp only [List.length_cons] at hc
    rcases List.mem_cons.1 hs with rfl | hs
    · exact ok_stepOf (by omega)
    · exact ok_stepsOf t (ch ++ [c]) (by simp; omega) s hs

/-! ### what a step needs -/
structure Need (ts : List TD) (n : Nat) : Prop where
  up : ∀ x ∈ ts, x.2.1 + 1 ≤ n
  at_ : n = 0 ∨ ∃ x ∈ ts, x.2.1 + 1 = n
theorem Need.nil : Need [] 0 := ⟨by simp, .inl rfl⟩
theorem Need.next {ts : List TD} {k n : Nat} (h : Need (ts.take k) n) (hk : k < ts.length) : Need (ts.take (k + 1)) (max n ((ts.getD k t0).2.1 + 1).toNat) := by
  rw [ts_next hk]
  refine ⟨fun x hx => ?_, ?_⟩
  · rcases List.mem_append.1 hx with hx | hx
    · have := h.up x hx; omega
    · rw [List.mem_singleton.1 hx]; omega
  · rcases Nat.le_total ((ts.getD k t0).2.1 + 1).toNat n with c | c
    · rw [Nat.max_eq_left c]
      rcases h.at_ with e | ⟨x, hx, e⟩
      · exact .inl e
      · exact .inr ⟨x, List.mem_append.2 (.inl hx), e⟩
    · rw [Nat.max_eq_right c]
      by_cases z : ((ts.getD k t0).2.1 + 1).toNat = 0
      · exact .inl z
      · exact .inr ⟨_, List.mem_append.2 (.inr (List.mem_singleton.2 rfl)), by omega⟩
/-- Behind fewer than it needs nothing meets it. -/
theorem need_none {k : Int} {key : Tri} {ts : List TD} {t : Tri} {n m : Nat} (h : Need ts n) (hn : m < n) : meets k key ts [] t = false := by
  unfold meets
  split
  · rfl
  · rcases h.at_ with e | ⟨x, hx, e⟩
    · omega
    · rw [← Bool.not_eq_true]
      intro ha
      have h1 := List.all_eq_true.1 ha x hx
      obtain ⟨f, b, o⟩ := x
      rw [holds_out (by simp only [List.length_nil] at *; omega)] at h1
      cases h1
/-- More than it needs changes nothing. -/
theorem need_enough {k : Int} {key : Tri} {ts : List TD} {bs : List Tri} {t : Tri} {n : Nat} (h : Need ts n) (hn : n ≤ bs.length) : meets k key ts (bs.take n) t = meets k key ts bs t := by
  unfold meets
  split
  · rfl
  · rw [Bool.eq_iff_iff, List.all_eq_true, List.all_eq_true]
    have key2 : ∀ x ∈ ts, holdsT x (bs.take n) t = holdsT x bs t := by
      intro x hx
      have h1 := h.up x hx
      obtain ⟨f, b, o⟩ := x
      dsimp only at h1
      by_cases hb : b < 0
      · rw [holds_own hb, holds_own hb]
      · obtain ⟨m, rfl⟩ : ∃ m : Nat, b = (m : Int) := ⟨b.toNat, by omega⟩
        rw [holds_back (by rw [List.length_take]; omega), holds_back (by omega)]
        have : (bs.take n).getD m z3 = bs.getD m z3 := by simp [List.getD, List.getElem?_take, show m < n by omega]
        rw [this]
    exact ⟨fun ha x hx => by rw [← key2 x hx]; exact ha x hx, fun ha x hx => by rw [key2 x hx]; exact ha x hx⟩
end Go.Gx.T13
namespace Go.Gx.T13
open Go.Gx Go.Gx.T3 Go.Gx.T4 Go.Gx.T8
abbrev FD := Int × Tri
def fC (f : FD) : List Value := [.int .i64 f.1, .int .i64 f.2.1, .int .i64 f.2.2.1, .int .i64 f.2.2.2]
abbrev f0 : FD := (0, z3)
/-- The facts that meet a step. -/
def which (k : Int) (key : Tri) (ts : List TD) (bs : List Tri) (fs : List FD) : List Int := (fs.filter fun f => meets k key ts bs f.2).map Prod.fst
theorem which_yes {k : Int} {key : Tri} {ts : List TD} {bs : List Tri} {fs : List FD} {j : Nat} (hj : j < fs.length) (h : meets k key ts bs (fs.getD j f0).2 = true) : which k key ts bs (fs.take (j + 1)) = which k key ts bs (fs.take j) ++ [(fs.getD j f0).1] := by
  have e : fs.getD j f0 = fs[j] := by simp [List.getD, List.getElem?_eq_getElem hj]
  rw [e] at h ⊢
  unfold which
  rw [List.take_succ_eq_append_getElem hj, List.filter_append, List.map_append]
  congr 1
  rw [List.filter_cons, if_pos h]; rfl
theorem which_no {k : Int} {key : Tri} {ts : List TD} {bs : List Tri} {fs : List FD} {j : Nat} (hj : j < fs.length) (h : meets k key ts bs (fs.getD j f0).2 = false) : which k key ts bs (fs.take (j + 1)) = which k key ts bs (fs.take j) := by
  have e : fs.getD j f0 = fs[j] := by simp [List.getD, List.getElem?_eq_getElem hj]
  rw [e] at h
  unfold which
  rw [List.take_succ_eq_append_getElem hj, List.filter_append, List.map_append, List.filter_cons, if_neg (by rw [h]; decide)]
  simp
theorem which_len (k : Int) (key : Tri) (ts : List TD) (bs : List Tri) (fs : List FD) : (which k key ts bs fs).length ≤ fs.length := by
  unfold which; rw [List.length_map]; exact List.length_filter_le _ _
theorem meets_ncc {key : Tri} {ts : List TD} {bs : List Tri} {t : Tri} : meets 3 key ts bs t = false := by unfold meets; rw [if_pos (.inl rfl)]
theorem which_ncc {key : Tri} {ts : List TD} {bs : List Tri} {fs : List FD} : which 3 key ts bs fs = [] := by
  unfold which
  rw [show fs.filter (fun f => meets 3 key ts bs f.2) = [] from List.filter_eq_nil_iff.2 (fun f _ => by rw [meets_ncc]; decide)]; rfl
theorem meets_kinds {key : Tri} {ts : List TD} {bs : List Tri} {t : Tri} : meets 1 key ts bs t = meets 2 key ts bs t := by unfold meets; simp
end Go.Gx.T13
