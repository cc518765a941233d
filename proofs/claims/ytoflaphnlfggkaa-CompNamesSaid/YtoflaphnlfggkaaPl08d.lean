/- Plain laws of steps: alike, right, few; no program in sight. -/
import Derived.Test.YtoflaphnlfggkaaPl08c
namespace Go.Gx.T8
open Go.Gx Go.Gx.T3 Go.Gx.T4 Go.Gx.T6

theorem tC_eq (a b : TD) : csEq (tC a) (tC b) = decide (a = b) := by
  obtain ⟨a0, a1, a2⟩ := a
  obtain ⟨b0, b1, b2⟩ := b
  by_cases h0 : a0 = b0 <;> by_cases h1 : a1 = b1 <;> by_cases h2 : a2 = b2 <;> simp [tC, csEq, cEq, h0, h1, h2]
theorem take_eq_succ {α : Type} {a b : List α} {k : Nat} {d : α} (ha : k < a.length) (hb : k < b.length) (h : a.take k = b.take k) (he : a.getD k d = b.getD k d) : a.take (k + 1) = b.take (k + 1) := by
  rw [List.take_succ_eq_append_getElem ha, List.take_succ_eq_append_getElem hb, h]
  simp [List.getD, List.getElem?_eq_getElem ha, List.getElem?_eq_getElem hb] at he
  rw [he]
theorem ne_of_get {α : Type} {a b : List α} {k : Nat} {d : α} (he : a.getD k d ≠ b.getD k d) : a ≠ b := fun h => he (by rw [h])
theorem ne_of_len {α : Type} {a b : List α} (h : a.length ≠ b.length) : a ≠ b := fun e => h (by rw [e])
def kEq (a b : SH) : Bool := csEq [.int .i64 a.k0, .int .i64 a.k1, .int .i64 a.k2] [.int .i64 b.k0, .int .i64 b.k1, .int .i64 b.k2]
theorem kEq_iff (a b : SH) : kEq a b = true ↔ a.k0 = b.k0 ∧ a.k1 = b.k1 ∧ a.k2 = b.k2 := by simp [kEq, csEq, cEq, and_assoc]
mutual
def seq : ST → ST → Bool
  | .mk h l, .mk h' l' => (decide (h.k = h'.k) && kEq h h') && (decide (h.ts = h'.ts) && seqL l l')
def seqL : List ST → List ST → Bool
  | [], [] => true
  | c :: t, c' :: t' => seq c c' && seqL t t'
  | _, _ => false
end
theorem seq_eq (a b : ST) : seq a b = ((decide (a.h.k = b.h.k) && kEq a.h b.h) && (decide (a.h.ts = b.h.ts) && seqL a.subs b.subs)) := by cases a; cases b; rw [seq]; rfl
theorem seqL_len : ∀ {l l' : List ST}, l.length ≠ l'.length → seqL l l' = false
  | [], [], h => absurd rfl h
  | [], _ :: _, _ => by simp [seqL]
  | _ :: _, [], _ => by simp [seqL]
  | c :: t, c' :: t', h => by rw [seqL, seqL_len (by simpa using h), Bool.and_false]
theorem sv_drop {rs : List SVal} {k : Nat} (hk : k < rs.length) : (rs.map Prod.fst).drop k = (rs.getD k s0).1 :: (rs.map Prod.fst).drop (k + 1) := by
  rw [List.drop_eq_getElem_cons (by simpa using hk)]
  simp [List.getD, List.getElem?_eq_getElem hk]
theorem seqL_no {rs rs2 : List SVal} {k : Nat} (h1 : k < rs.length) (h2 : k < rs2.length) (h : seq (rs.getD k s0).1 (rs2.getD k s0).1 = false) : seqL ((rs.map Prod.fst).drop k) ((rs2.map Prod.fst).drop k) = false := by
  rw [sv_drop h1, sv_drop h2, seqL, h, Bool.false_and]
theorem seqL_yes {rs rs2 : List SVal} {k : Nat} (h1 : k < rs.length) (h2 : k < rs2.length) (h : seq (rs.getD k s0).1 (rs2.getD k s0).1 = true) : seqL ((rs.map Prod.fst).drop (k + 1)) ((rs2.map Prod.fst).drop (k + 1)) = seqL ((rs.map Prod.fst).drop k) ((rs2.map Prod.fst).drop k) := by
  rw [sv_drop h1, sv_drop h2, seqL, h, Bool.true_and]
mutual
theorem seq_iff : ∀ (a b : ST), seq a b = true ↔ a = b
  | .mk h l, .mk h' l' => by
    rw [seq, Bool.and_eq_true, Bool.and_eq_true, Bool.and_eq_true, decide_eq_true_iff, decide_eq_true_iff, kEq_iff, seqL_iff l l']
    obtain ⟨a, b, c, d, e⟩ := h
    obtain ⟨a', b', c', d', e'⟩ := h'
    simp only [ST.mk.injEq, SH.mk.injEq]
    constructor
    · rintro ⟨⟨h1, h2, h3, h4⟩, h5, h6⟩; exact ⟨⟨h1, h2, h3, h4, h5⟩, h6⟩
    · rintro ⟨⟨h1, h2, h3, h4, h5⟩, h6⟩; exact ⟨⟨h1, h2, h3, h4⟩, h5, h6⟩
theorem seqL_iff : ∀ (l l' : List ST), seqL l l' = true ↔ l = l'
  | [], [] => by simp [seqL]
  | [], _ :: _ => by simp [seqL]
  | _ :: _, [] => by simp [seqL]
  | c :: t, c' :: t' => by
    rw [seqL, Bool.and_eq_true, seq_iff c c', seqL_iff t t']
    simp
end
theorem seq_no {a b : ST} (h : ((¬ a.h.k = b.h.k ∨ kEq a.h b.h = false) ∨ ¬ a.h.ts.length = b.h.ts.length) ∨ ¬ a.subs.length = b.subs.length) : seq a b = false := by
  rw [seq_eq]
  rcases h with ((h | h) | h) | h
  · rw [decide_eq_false h]; rfl
  · rw [h, Bool.and_false]; rfl
  · rw [decide_eq_false (ne_of_len h), Bool.false_and, Bool.and_false]
  · rw [seqL_len h, Bool.and_false, Bool.and_false]
theorem seq_ts {a b : ST} (h : a.h.ts ≠ b.h.ts) : seq a b = false := by rw [seq_eq, decide_eq_false h, Bool.false_and, Bool.and_false]
theorem seq_sub {a b : ST} (h1 : a.h.k = b.h.k) (h2 : kEq a.h b.h = true) (h3 : a.h.ts = b.h.ts) : seq a b = seqL a.subs b.subs := by
  rw [seq_eq, decide_eq_true h1, h2, decide_eq_true h3]; rfl
theorem ssz_at {a : ST} {rs : List SVal} {i n : Nat} (h : a.subs = rs.map Prod.fst) (hi : i < rs.length) (hn : SizeOf.sizeOf a ≤ n + 1) : SizeOf.sizeOf (rs.getD i s0).1 ≤ n := by
  have h1 : (rs.getD i s0).1 ∈ a.subs := by rw [h]; exact sv_mem hi
  have h2 := List.sizeOf_lt_of_mem h1
  have h3 : SizeOf.sizeOf a.subs < SizeOf.sizeOf a := by
    cases a with
    | mk h l => simp [ST.subs]; omega
  omega
theorem s_pos (a : ST) : 0 < SizeOf.sizeOf a := by cases a; simp; omega
end Go.Gx.T8
namespace Go.Gx.T8
open Go.Gx Go.Gx.T3 Go.Gx.T4 Go.Gx.T6
abbrev L8 : List CT := [.mk ⟨1, true, 1, false, 4, true, 2⟩ [], .mk ⟨1, true, 2, false, 4, true, 1⟩ []]
abbrev S80 : ST := .mk ⟨1, 0, 4, 0, []⟩ []
abbrev S81 : ST := .mk ⟨1, 0, 4, 0, [(0, 0, 2), (2, 0, 0)]⟩ []
theorem L8_steps : stepsOf [] L8 = [S80, S81] := (seqL_iff _ _).1 (by decide +kernel)
theorem L8_open {qs : List SVal} (h : stepsOf [] L8 = qs.map Prod.fst) : ∃ a0 b0 a1 b1, qs = [(S80, a0, b0), (S81, a1, b1)] := by
  rw [L8_steps] at h
  match qs, h with
  | [(c0, a0, b0), (c1, a1, b1)], h =>
    simp only [List.map_cons, List.map_nil, List.cons.injEq, and_true] at h
    obtain ⟨rfl, rfl⟩ := h
    exact ⟨a0, b0, a1, b1, rfl⟩
end Go.Gx.T8
namespace Go.Gx.T8
theorem s_subs (a : ST) : SizeOf.sizeOf a.subs < SizeOf.sizeOf a := by
  cases a with
  | mk h l => simp [ST.subs]; omega
end Go.Gx.T8
namespace Go.Gx.T8
open Go.Gx Go.Gx.T3 Go.Gx.T4 Go.Gx.T6
theorem sv_getD {qs : List SVal} {cs : List ST} (h : cs = qs.map Prod.fst) (k : Nat) : (qs.getD k s0).1 = cs.getD k s0.1 := by
  rw [h]
  simp only [List.getD, List.getElem?_map]
  cases qs[k]? <;> rfl
theorem steps_at {rs : List (CT × Value)} {ch : List CT} {k : Nat} (hk : k < rs.length) : (stepsOf ch (rs.map Prod.fst)).getD k s0.1 = stepOf (ch ++ (rs.map Prod.fst).take k) (rs.getD k d0).1 := by
  have e : rs.map Prod.fst = (rs.map Prod.fst).take k ++ ((rs.getD k d0).1 :: (rs.map Prod.fst).drop (k + 1)) := by
    rw [← map_drop (d := d0) hk, List.take_append_drop]
  have h2 : stepsOf ch (rs.map Prod.fst) = stepsOf ch ((rs.map Prod.fst).take k) ++ (stepOf (ch ++ (rs.map Prod.fst).take k) (rs.getD k d0).1 :: stepsOf (ch ++ (rs.map Prod.fst).take k ++ [(rs.getD k d0).1]) ((rs.map Prod.fst).drop (k + 1))) := by
    conv => lhs; rw [e]
    rw [stepsOf_append]
    simp [stepsOf]
  have h3 : (stepsOf ch ((rs.map Prod.fst).take k)).length = k := by rw [stepsOf_len]; simp; omega
  rw [h2]
  simp [List.getD, List.getElem?_append_right, h3]
theorem steps_at_take {rs : List (CT × Value)} {n k : Nat} (hk : k < n) (hn : n ≤ rs.length) : (stepsOf [] ((rs.map Prod.fst).take n)).getD k s0.1 = stepOf ((rs.map Prod.fst).take k) (rs.getD k d0).1 := by
  have h1 : (rs.take n).getD k d0 = rs.getD k d0 := by simp [List.getD, List.getElem?_take, hk]
  have h2 := steps_at (rs := rs.take n) (ch := []) (k := k) (by simp; omega)
  rw [h1, List.map_take, List.take_take, Nat.min_eq_left (by omega)] at h2
  exact h2
end Go.Gx.T8
