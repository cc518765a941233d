/- Plain laws of chains of conditions; no program in sight. -/
import Derived.Test.YtoflaphnlfggkaaPl08
import Derived.Test.YtoflaphnlfggkaaGxClos
namespace Go.Gx
theorem RowAt.congr {G : Ghost} {b o n : Nat} {f g : Nat → Value} (h : RowAt G b o n f) (e : ∀ i, i < n → f i = g i) : RowAt G b o n g := by
  obtain ⟨c, T, fr, h1, h2⟩ := h
  exact ⟨c, T, fr, h1, fun j hj => by rw [h2 j hj, e j hj]⟩
end Go.Gx
namespace Go.Gx.T6
open Go.Gx Go.Gx.T3 Go.Gx.T4 Go.Gx.T8

theorem cv_ones {G : Ghost} {rs : List (CT × Value)} (hp : ∀ p ∈ rs, Cs G p.2 p.1.subs) : ∀ i, i < rs.length → ∀ j, j < 8 → (at_ (cvC (rs.getD i d0)) j).oneCell' = true := by
  intro i hi j hj
  have h := (hp _ (getD_mem (d := d0) hi)).one
  match j, hj with
  | 0, _ => rfl
  | 1, _ => rfl
  | 2, _ => rfl
  | 3, _ => rfl
  | 4, _ => rfl
  | 5, _ => rfl
  | 6, _ => rfl
  | 7, _ => exact h
theorem nil_rs {α : Type} {G : Ghost} {n c : Nat} {sz : Nat} {cells : α → List Value} {e : α} {rs : List α} (h : SlL G (.slice none n c) sz cells e rs) : rs = [] := by
  obtain ⟨a, cap, e1, _, h2⟩ := h
  simp only [Value.slice.injEq] at e1
  obtain ⟨rfl, _⟩ := e1
  rcases rs with _ | ⟨x, t⟩
  · rfl
  · obtain ⟨_, _, e3, _⟩ := h2 (by simp)
    cases e3

theorem Tr.slg {α : Type} {subs : α → List α} {cf : α × Value → List Value} {sz : Nat} {d : α × Value} {G : Ghost} {v : Value} {l : List α} (h : Tr subs cf sz d G v l) : ∃ f, SlG G v l.length sz f := by
  obtain ⟨rs, hr, _, rfl⟩ := h.inv
  exact ⟨_, by rw [List.length_map]; exact hr⟩

mutual
/-- The chains of what stands in a condition, and its own. -/
def chain1 : List CT → CT → List (List CT)
  | ah, .mk h l => (if h.k = 3 then chains ah l else []) ++ [ah ++ [.mk h l]]
/-- The chains of conditions behind a beginning. -/
def chains : List CT → List CT → List (List CT)
  | _, [] => []
  | ah, c :: t => chain1 ah c ++ chains (ah ++ [c]) t
end
theorem chain1_ncc {ah : List CT} {c : CT} (h : c.h.k = 3) : chain1 ah c = chains ah c.subs ++ [ah ++ [c]] := by
  cases c with | mk hd l => have h' : hd.k = 3 := h; rw [chain1, if_pos h']; rfl
theorem chain1_other {ah : List CT} {c : CT} (h : c.h.k ≠ 3) : chain1 ah c = [ah ++ [c]] := by
  cases c with | mk hd l => have h' : hd.k ≠ 3 := h; rw [chain1, if_neg h']; rfl
theorem chains_append (a b : List CT) : ∀ ah, chains ah (a ++ b) = chains ah a ++ chains (ah ++ a) b := by
  induction a with
  | nil => intro ah; simp [chains]
  | cons c t ih => intro ah; simp [chains, ih]
theorem chains_take {rs : List (CT × Value)} {k : Nat} {ah : List CT} (hk : k < rs.length) : chains ah ((rs.map Prod.fst).take (k + 1)) = chains ah ((rs.map Prod.fst).take k) ++ chain1 (ah ++ (rs.map Prod.fst).take k) (rs.getD k d0).1 := by
  rw [map_take (d := d0) hk, chains_append]; simp [chains]
mutual
theorem chain1_len : ∀ (c : CT) (ah : List CT), (chain1 ah c).length ≤ size c
  | .mk h l, ah => by
    have := chains_len l ah
    rw [chain1, size]
    split <;> simp <;> omega
theorem chains_len : ∀ (l : List CT) (ah : List CT), (chains ah l).length ≤ sizeL l
  | [], _ => by simp [chains, sizeL]
  | c :: t, ah => by
    have h1 := chain1_len c ah
    have h2 := chains_len t (ah ++ [c])
    rw [chains, sizeL, List.length_append]; omega
end
/-- A part of them, and what is behind. -/
theorem chains_take_le (ah : List CT) (rs : List (CT × Value)) (k : Nat) : (chains ah ((rs.map Prod.fst).take k)).length ≤ sizeL ((rs.map Prod.fst).take k) := chains_len _ _

theorem sub_size {rs : List (CT × Value)} {k : Nat} (hk : k < rs.length) : SizeOf.sizeOf (rs.getD k d0).1.subs < SizeOf.sizeOf (rs.map Prod.fst) := by
  have h1 : (rs.getD k d0).1 ∈ rs.map Prod.fst := List.mem_map.2 ⟨_, getD_mem hk, rfl⟩
  have h2 := List.sizeOf_lt_of_mem h1
  have h3 := size_subs (rs.getD k d0).1
  omega
/-- What is known of the chains that were found: each is a slice of conditions. -/
abbrev ChC (G : Ghost) (z : List (List CT × Value)) : Prop := ∀ q ∈ z, Cs G q.2 q.1
theorem ChC.mono {G G' : Ghost} {z : List (List CT × Value)} (h : ChC G z) (hle : GLe G G') : ChC G' z := fun q hq => (h q hq).mono hle
theorem ChC.snoc {G : Ghost} {z : List (List CT × Value)} {v : Value} {l : List CT} (h : ChC G z) (hl : Cs G v l) : ChC G (z ++ [(l, v)]) := fun q hq => by
  rcases List.mem_append.1 hq with h1 | h1
  · exact h q h1
  · rw [List.mem_singleton.1 h1]; exact hl

/-! ### alike -/
def hEq (a b : Hd) : Bool := decide (a.k = b.k) && csEq [.bool a.v0, .int .i64 a.n0, .bool a.v1, .int .i64 a.n1, .bool a.v2, .int .i64 a.n2] [.bool b.v0, .int .i64 b.n0, .bool b.v1, .int .i64 b.n1, .bool b.v2, .int .i64 b.n2]
theorem hEq_r (a b : Hd) : csEq [.int .i64 (vi a.v0), .int .i64 a.n0, .int .i64 (vi a.v1), .int .i64 a.n1, .int .i64 (vi a.v2), .int .i64 a.n2] [.int .i64 (vi b.v0), .int .i64 b.n0, .int .i64 (vi b.v1), .int .i64 b.n1, .int .i64 (vi b.v2), .int .i64 b.n2] = csEq [.bool a.v0, .int .i64 a.n0, .bool a.v1, .int .i64 a.n1, .bool a.v2, .int .i64 a.n2] [.bool b.v0, .int .i64 b.n0, .bool b.v1, .int .i64 b.n1, .bool b.v2, .int .i64 b.n2] := by
  cases a.v0 <;> cases a.v1 <;> cases a.v2 <;> cases b.v0 <;> cases b.v1 <;> cases b.v2 <;> simp [csEq, cEq, vi]
def hRb (a b : Hd) : Bool := csEq [.int .i64 (vi a.v0), .int .i64 a.n0, .int .i64 (vi a.v1), .int .i64 a.n1, .int .i64 (vi a.v2), .int .i64 a.n2] [.int .i64 (vi b.v0), .int .i64 b.n0, .int .i64 (vi b.v1), .int .i64 b.n1, .int .i64 (vi b.v2), .int .i64 b.n2]
theorem hEq_rb (a b : Hd) : hEq a b = (decide (a.k = b.k) && hRb a b) := by unfold hEq hRb; rw [hEq_r]
theorem hEq_iff (a b : Hd) : hEq a b = true ↔ a = b := by
  obtain ⟨a0, a1, a2, a3, a4, a5, a6⟩ := a
  obtain ⟨b0, b1, b2, b3, b4, b5, b6⟩ := b
  simp [hEq, csEq, cEq]
mutual
def ceq : CT → CT → Bool
  | .mk h l, .mk h' l' => hEq h h' && ceqL l l'
def ceqL : List CT → List CT → Bool
  | [], [] => true
  | c :: t, c' :: t' => ceq c c' && ceqL t t'
  | _, _ => false
end
theorem ceq_eq (a b : CT) : ceq a b = (hEq a.h b.h && ceqL a.subs b.subs) := by cases a; cases b; rw [ceq]; rfl
theorem ceqL_len : ∀ {l l' : List CT}, l.length ≠ l'.length → ceqL l l' = false
  | [], [], h => absurd rfl h
  | [], _ :: _, _ => by simp [ceqL]
  | _ :: _, [], _ => by simp [ceqL]
  | c :: t, c' :: t', h => by rw [ceqL, ceqL_len (by simpa using h), Bool.and_false]
theorem ceq_no {c c2 : CT} (h : (¬ c.h.k = c2.h.k ∨ hRb c.h c2.h = false) ∨ ¬ c.subs.length = c2.subs.length) : ceq c c2 = false := by
  rw [ceq_eq, hEq_rb]
  rcases h with (h | h) | h
  · rw [decide_eq_false h]; rfl
  · rw [h, Bool.and_false]; rfl
  · rw [ceqL_len h, Bool.and_false]
theorem ceq_sub {c c2 : CT} (h : c.h.k = c2.h.k ∧ hRb c.h c2.h = true) : ceq c c2 = ceqL c.subs c2.subs := by
  rw [ceq_eq, hEq_rb, decide_eq_true h.1, h.2]; rfl
theorem ceqL_no {rs rs2 : List (CT × Value)} {k : Nat} (h1 : k < rs.length) (h2 : k < rs2.length) (h : ceq (rs.getD k d0).1 (rs2.getD k d0).1 = false) : ceqL ((rs.map Prod.fst).drop k) ((rs2.map Prod.fst).drop k) = false := by
  rw [map_drop (d := d0) h1, map_drop (d := d0) h2, ceqL, h, Bool.false_and]
theorem ceqL_yes {rs rs2 : List (CT × Value)} {k : Nat} (h1 : k < rs.length) (h2 : k < rs2.length) (h : ceq (rs.getD k d0).1 (rs2.getD k d0).1 = true) : ceqL ((rs.map Prod.fst).drop (k + 1)) ((rs2.map Prod.fst).drop (k + 1)) = ceqL ((rs.map Prod.fst).drop k) ((rs2.map Prod.fst).drop k) := by
  rw [map_drop (d := d0) h1, map_drop (d := d0) h2, ceqL, h, Bool.true_and]
mutual
theorem ceq_iff : ∀ (a b : CT), ceq a b = true ↔ a = b
  | .mk h l, .mk h' l' => by
    rw [ceq, Bool.and_eq_true, hEq_iff, ceqL_iff l l']
    simp
theorem ceqL_iff : ∀ (l l' : List CT), ceqL l l' = true ↔ l = l'
  | [], [] => by simp [ceqL]
  | [], _ :: _ => by simp [ceqL]
  | _ :: _, [] => by simp [ceqL]
  | c :: t, c' :: t' => by
    rw [ceqL, Bool.and_eq_true, ceq_iff c c', ceqL_iff t t']
    simp
end
/-- The chains that conditions end themselves. -/
def ownC (l : List CT) : List Int := (List.range l.length).map fun i => (sizeL (l.take (i + 1)) : Int) - 1
def ownCTo (l : List CT) (k : Nat) : List Int := (List.range k).map fun i => (sizeL (l.take (i + 1)) : Int) - 1
theorem ownCTo_succ (l : List CT) (k : Nat) : ownCTo l (k + 1) = ownCTo l k ++ [(sizeL (l.take (k + 1)) : Int) - 1] := by simp [ownCTo, List.range_succ]
theorem ownCTo_len (l : List CT) (k : Nat) : (ownCTo l k).length = k := by simp [ownCTo]
theorem rv_one1 {G : Ghost} {z : List (List CT × Value)} (hz : ∀ q ∈ z, Rs G q.2 q.1) : ∀ i, i < z.length → ∀ j, j < 1 → (at_ (lC (z.getD i ([], .slice none 0 0))) j).oneCell' = true := by
  intro i hi j hj
  have h := (hz _ (getD_mem (d := ([], .slice none 0 0)) hi)).one
  match j, hj with
  | 0, _ => exact h
theorem rv_all {G : Ghost} {rs : List (CT × Value)} (hp : ∀ p ∈ rs, Rs G p.2 p.1.subs) : ∀ u ∈ rs.flatMap rvC, u.oneCell' = true := by
  intro u hu
  obtain ⟨p, h1, h2⟩ := List.mem_flatMap.1 hu
  have h3 := (hp p h1).one
  simp only [rvC, List.mem_cons, List.not_mem_nil, or_false] at h2
  rcases h2 with rfl | rfl | rfl | rfl | rfl | rfl | rfl | rfl
  all_goals first | rfl | exact h3
abbrev RhC (G : Ghost) (z : List (List CT × Value)) : Prop := ∀ q ∈ z, Rs G q.2 q.1
theorem RhC.mono {G G' : Ghost} {z : List (List CT × Value)} (h : RhC G z) (hle : GLe G G') : RhC G' z := fun q hq => (h q hq).mono hle
theorem RhC.snoc {G : Ghost} {z : List (List CT × Value)} {v : Value} {l : List CT} (h : RhC G z) (hl : Rs G v l) : RhC G (z ++ [(l, v)]) := fun q hq => by
  rcases List.mem_append.1 hq with h1 | h1
  · exact h q h1
  · rw [List.mem_singleton.1 h1]; exact hl
theorem RhC.app {G : Ghost} {z z' : List (List CT × Value)} (h : RhC G z) (h' : RhC G z') : RhC G (z ++ z') := fun q hq => by
  rcases List.mem_append.1 hq with h1 | h1
  · exact h q h1
  · exact h' q h1
end Go.Gx.T6
