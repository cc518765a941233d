/- Texts of this work, laid together: a logic of steps, plain laws, and walks of Go functions, each without a condition but those that its theorems name. -/
import Derived.Test.YtpadfgomhojjnaaKPlainSteps1
import Derived.Test.YtpadfgomhojjnaaRows
/- Plain laws of chains: their sizes, where they stand; no program in sight. -/
namespace Go.Gx.T6
open Go.Gx Go.Gx.T3 Go.Gx.T4 Go.Gx.T8

theorem sizeL_append (a b : List CT) : sizeL (a ++ b) = sizeL a + sizeL b := by
  induction a with
  | nil => simp [sizeL]
  | cons c t ih => simp only [List.cons_append, sizeL, ih]; omega
mutual
theorem chain1_size : ∀ (c : CT) (ah : List CT), ∀ x ∈ chain1 ah c, sizeL x ≤ sizeL ah + size c
  | .mk h l, ah, x, hx => by
    rw [chain1] at hx
    rcases List.mem_append.1 hx with hx | hx
    · split at hx
      · have := chains_size l ah x hx
        rw [size]; omega
      · cases hx
    · rw [List.mem_singleton.1 hx, sizeL_append]
      simp [sizeL]
theorem chains_size : ∀ (l : List CT) (ah : List CT), ∀ x ∈ chains ah l, sizeL x ≤ sizeL ah + sizeL l
  | [], _, x, hx => by rw [chains] at hx; cases hx
  | c :: t, ah, x, hx => by
    rw [chains] at hx
    rcases List.mem_append.1 hx with hx | hx
    · have := chain1_size c ah x hx
      rw [sizeL]; omega
    · have := chains_size t (ah ++ [c]) x hx
      rw [sizeL_append] at this
      simp only [sizeL] at this ⊢
      omega
end
mutual
/-- Only Ncc have conditions in them. -/
def flatOk : CT → Bool
  | .mk h l => (decide (h.k = 3) || l.isEmpty) && flatOkL l
def flatOkL : List CT → Bool
  | [] => true
  | c :: t => flatOk c && flatOkL t
end
mutual
theorem flat_of_check : ∀ (c : CT) (d : Int), check c d = 0 → flatOk c = true
  | .mk h l, d, hc => by
    rw [check] at hc
    rw [flatOk]
    split at hc
    · omega
    · split at hc
      · rename_i h3
        split at hc
        · omega
        · split at hc
          · omega
          · rw [flat_of_checkL l _ hc, decide_eq_true h3]; rfl
      · split at hc
        · omega
        · split at hc
          · omega
          · rename_i _ _ h4
            have : l = [] := by
              rcases l with _ | ⟨a, b⟩
              · rfl
              · exact absurd (.inr (by simp)) h4
            subst this
            simp [flatOkL]
theorem flat_of_checkL : ∀ (l : List CT) (d : Int), checkL l d = 0 → flatOkL l = true
  | [], _, _ => by rw [flatOkL]
  | c :: t, d, hc => by
    rw [checkL] at hc
    split at hc
    · rename_i h
      rw [flatOkL, flat_of_check c d h, flat_of_checkL t d hc]; rfl
    · rename_i h; exact absurd hc h
end
mutual
theorem chain1_eq : ∀ (c : CT) (ah : List CT), flatOk c = true → (chain1 ah c).length = size c
  | .mk h l, ah, hc => by
    rw [flatOk, Bool.and_eq_true] at hc
    rw [chain1, size]
    split
    · rw [List.length_append, chains_eq l ah hc.2]; simp; omega
    · rename_i h3
      have : l = [] := by
        have h4 := hc.1
        rw [decide_eq_false h3, Bool.false_or] at h4
        simpa using h4
      subst this
      simp [sizeL]
theorem chains_eq : ∀ (l : List CT) (ah : List CT), flatOkL l = true → (chains ah l).length = sizeL l
  | [], _, _ => by simp [chains, sizeL]
  | c :: t, ah, h => by
    rw [flatOkL, Bool.and_eq_true] at h
    rw [chains, List.length_append, chain1_eq c ah h.1, chains_eq t _ h.2, sizeL]
end
/-! ### each but its last condition stands ahead -/
def Ahead (ah : List CT) (cs : List (List CT)) : Prop := ∀ i (hi : i < cs.length), cs[i] ≠ [] ∧ (cs[i].dropLast = ah ∨ ∃ j, ∃ (hj : j < i), cs[j]'(by omega) = cs[i].dropLast)
theorem Ahead.snoc {ah : List CT} {cs : List (List CT)} {c : CT} (h : Ahead ah cs) : Ahead ah (cs ++ [ah ++ [c]]) := by
  intro i hi
  by_cases hlt : i < cs.length
  · have h1 := h i hlt
    rw [List.getElem_append_left hlt]
    refine ⟨h1.1, h1.2.imp id ?_⟩
    rintro ⟨j, hj, e⟩
    exact ⟨j, hj, by rw [List.getElem_append_left (by omega)]; exact e⟩
  · have e : i = cs.length := by simp at hi; omega
    subst e
    simp
theorem Ahead.app {ah : List CT} {cs ds : List (List CT)} {c : CT} (h : Ahead ah (cs ++ [ah ++ [c]])) (h2 : Ahead (ah ++ [c]) ds) : Ahead ah ((cs ++ [ah ++ [c]]) ++ ds) := by
  intro i hi
  by_cases hlt : i < (cs ++ [ah ++ [c]]).length
  · have h1 := h i hlt
    rw [List.getElem_append_left hlt]
    refine ⟨h1.1, h1.2.imp id ?_⟩
    rintro ⟨j, hj, e⟩
    exact ⟨j, hj, by rw [List.getElem_append_left (by omega)]; exact e⟩
  · have hge : (cs ++ [ah ++ [c]]).length ≤ i := by omega
    have h1 := h2 (i - (cs ++ [ah ++ [c]]).length) (by simp at hi hge ⊢; omega)
    rw [List.getElem_append_right hge]
    refine ⟨h1.1, .inr ?_⟩
    rcases h1.2 with e | ⟨j, hj, e⟩
    · refine ⟨cs.length, by simp at hge; omega, ?_⟩
      rw [e]
      rw [List.getElem_append_left (by simp)]
      simp
    · refine ⟨j + (cs ++ [ah ++ [c]]).length, by omega, ?_⟩
      rw [← e, List.getElem_append_right (by omega)]
      congr 1
      omega
mutual
theorem chain1_ahead : ∀ (c : CT) (ah : List CT), ∃ cs, chain1 ah c = cs ++ [ah ++ [c]] ∧ Ahead ah (cs ++ [ah ++ [c]])
  | .mk h l, ah => by
    refine ⟨if h.k = 3 then chains ah l else [], by rw [chain1], Ahead.snoc ?_⟩
    split
    · exact chains_ahead l ah
    · intro i hi; simp at hi
theorem chains_ahead : ∀ (l : List CT) (ah : List CT), Ahead ah (chains ah l)
  | [], _ => by rw [chains]; intro i hi; simp at hi
  | c :: t, ah => by
    obtain ⟨cs, e, h⟩ := chain1_ahead c ah
    rw [chains, e]
    exact Ahead.app h (chains_ahead t (ah ++ [c]))
end
/-- Is a chain the beginning of another? -/
def hadPre (qs : List (List CT)) (x : List CT) (i : Nat) : Bool := decide (x.length = 1) || (qs.take i).any fun y => ceqL y x.dropLast
def foundTo (qs : List (List CT)) (x : List CT) (j : Nat) : Bool := decide (x.length = 1) || (qs.take j).any fun y => ceqL y x.dropLast
end Go.Gx.T6
namespace Go.Gx.T6
open Go.Gx Go.Gx.T3 Go.Gx.T4 Go.Gx.T8
abbrev e6 : List CT × Value := ([], .slice none 0 0)
end Go.Gx.T6
namespace Go.Gx.T6
open Go.Gx Go.Gx.T3 Go.Gx.T4 Go.Gx.T8
end Go.Gx.T6

/-
  GX: results that lie in memory of the call's own alone; parts of arrays. Generic in the program.
-/
namespace Go.Gx
open Go.RowKit

/-- What is known of the memory that was laid since a world. -/
def fr (w0 : World) (G : Ghost) : Ghost := fun b => if w0.heap.size ≤ b then G b else none
theorem fr_le (w0 : World) (G : Ghost) : GLe (fr w0 G) G := fun b o e => by
  unfold fr at e
  split at e
  · exact e
  · cases e
theorem fr_new (w0 : World) (G : Ghost) (b : Nat) (h : fr w0 G b ≠ none) : w0.heap.size ≤ b := by
  unfold fr at h
  split at h
  · assumption
  · exact absurd rfl h
theorem RowAt.fr {w0 : World} {G : Ghost} {b o n : Nat} {g : Nat → Value} (h : RowAt G b o n g) (hb : w0.heap.size ≤ b) : RowAt (fr w0 G) b o n g := by
  obtain ⟨c, T, f, h1, h2⟩ := h
  exact ⟨c, T, f, by unfold Gx.fr; rw [if_pos hb]; exact h1, h2⟩
theorem SlG.fr {w0 : World} {G : Ghost} {v : Value} {n sz : Nat} {f : Nat → Nat → Value} (h : SlG G v n sz f) (hv : ∀ b, v.ownBlock = some b → w0.heap.size ≤ b) : SlG (fr w0 G) v n sz f := by
  obtain ⟨a, cap, rfl, hc, hr⟩ := h
  refine ⟨a, cap, rfl, hc, fun hn => ?_⟩
  obtain ⟨b, o, rfl, h2⟩ := hr hn
  exact ⟨b, o, rfl, fun i hi => (h2 i hi).fr (hv b rfl)⟩
theorem RowAt.sub {G : Ghost} {b o n j m : Nat} {g : Nat → Value} (h : RowAt G b o n g) (hj : j + m ≤ n) : RowAt G b (o + j) m (fun i => g (j + i)) := by
  obtain ⟨c, T, f, h1, h2⟩ := h
  exact ⟨c, T, f, h1, fun i hi => by rw [Nat.add_assoc]; exact h2 (j + i) (by omega)⟩

section
variable {P : Program} {ops : Array Oper} {Q : Exit → Act → World → Prop} {N : Nat} {w0 : World} {G : Ghost} {l : List (Nat × Value)} {L : List Asrt}
variable {rest : List Oper} {d : Nat} {ty : TypeId} {pos : String} {after : Array Edge} {gd : Option (Nat × Bool)} {v : Value}

end

section
variable {P : Program} {N : Nat} {X : Nat → Prop} {w0 : World} {G : Ghost} {l : List (Nat × Value)} {L : List Asrt} {d : Nat} {ty : TypeId} {pos : String} {after : Array Edge} {gd : Option (Nat × Bool)} {x y : Operand}
end
end Go.Gx

/- Plain laws of compiled steps: where variables were bound, found in a sorted list of places; steps that are alike; no program in sight. -/
namespace Go.Gx.T8
open Go.Gx Go.Gx.T3 Go.Gx.T4 Go.Gx.T6

/-! ### the first alike term -/
abbrev TT := Bool × Int
def tmC (t : TT) : List Value := [.bool t.1, .int .i64 t.2]
abbrev tt0 : TT := (false, 0)
def terms (h : Hd) : List TT := [(h.v0, h.n0), (h.v1, h.n1), (h.v2, h.n2)]
def sameT (t z : TT) : Bool := csEq (tmC t) (tmC z)
/-- Where the first term ahead of term f stands that is alike; -1: none. -/
def ownG (h : Hd) (f : Nat) : Int := idxF (sameT (vF h f, nF h f)) ((terms h).take f) 0
/-! ### bound, by a list of places -/
def lkP (v : Int) (ps : List PL) : Option (Int × Int) := (ps.find? (isV v)).map Prod.snd
theorem Ss.le {G G' : Ghost} {v : Value} {l : List ST} (h : Ss G v l) (hle : GLe G G') : Ss G' v l := h.mono hle
end Go.Gx.T8
namespace Go.Gx.T8
open Go.Gx Go.Gx.T3 Go.Gx.T4 Go.Gx.T6
end Go.Gx.T8
namespace Go.Gx.T8
open Go.Gx Go.Gx.T3 Go.Gx.T4 Go.Gx.T6
end Go.Gx.T8

/- Plain laws of steps: alike, right, few; no program in sight. -/
namespace Go.Gx.T8
open Go.Gx Go.Gx.T3 Go.Gx.T4 Go.Gx.T6

theorem take_eq_succ {α : Type} {a b : List α} {k : Nat} {d : α} (ha : k < a.length) (hb : k < b.length) (h : a.take k = b.take k) (he : a.getD k d = b.getD k d) : a.take (k + 1) = b.take (k + 1) := by
  rw [List.take_succ_eq_append_getElem ha, List.take_succ_eq_append_getElem hb, h]
  simp [List.getD, List.getElem?_eq_getElem ha, List.getElem?_eq_getElem hb] at he
  rw [he]
theorem ne_of_get {α : Type} {a b : List α} {k : Nat} {d : α} (he : a.getD k d ≠ b.getD k d) : a ≠ b := fun h => he (by rw [h])
theorem ne_of_len {α : Type} {a b : List α} (h : a.length ≠ b.length) : a ≠ b := fun e => h (by rw [e])
def kEq (a b : SH) : Bool := csEq [.int .i64 a.k0, .int .i64 a.k1, .int .i64 a.k2] [.int .i64 b.k0, .int .i64 b.k1, .int .i64 b.k2]
theorem kEq_iff (a b : SH) : kEq a b = true ↔ a.k0 = b.k0 ∧ a.k1 = b.k1 ∧ a.k2 = b.k2 := by simp [kEq, csEq, cEq, and_assoc]
mutual
def seq : ST → ST → Bool
  | .mk h l, .mk h' l' => (decide (h.k = h'.k) && kEq h h') && (decide (h.ts = h'.ts) && seqL l l')
def seqL : List ST → List ST → Bool
  | [], [] => true
  | c :: t, c' :: t' => seq c c' && seqL t t'
  | _, _ => false
end
mutual
theorem seq_iff : ∀ (a b : ST), seq a b = true ↔ a = b
  | .mk h l, .mk h' l' => by
    rw [seq, Bool.and_eq_true, Bool.and_eq_true, Bool.and_eq_true, decide_eq_true_iff, decide_eq_true_iff, kEq_iff, seqL_iff l l']
    obtain ⟨a, b, c, d, e⟩ := h
    obtain ⟨a', b', c', d', e'⟩ := h'
    simp only [ST.mk.injEq, SH.mk.injEq]
    constructor
    · rintro ⟨⟨h1, h2, h3, h4⟩, h5, h6⟩; exact ⟨⟨h1, h2, h3, h4, h5⟩, h6⟩
    · rintro ⟨⟨h1, h2, h3, h4, h5⟩, h6⟩; exact ⟨⟨h1, h2, h3, h4⟩, h5, h6⟩
theorem seqL_iff : ∀ (l l' : List ST), seqL l l' = true ↔ l = l'
  | [], [] => by simp [seqL]
  | [], _ :: _ => by simp [seqL]
  | _ :: _, [] => by simp [seqL]
  | c :: t, c' :: t' => by
    rw [seqL, Bool.and_eq_true, seq_iff c c', seqL_iff t t']
    simp
end
end Go.Gx.T8
namespace Go.Gx.T8
open Go.Gx Go.Gx.T3 Go.Gx.T4 Go.Gx.T6
abbrev L8 : List CT := [.mk ⟨1, true, 1, false, 4, true, 2⟩ [], .mk ⟨1, true, 2, false, 4, true, 1⟩ []]
abbrev S80 : ST := .mk ⟨1, 0, 4, 0, []⟩ []
abbrev S81 : ST := .mk ⟨1, 0, 4, 0, [(0, 0, 2), (2, 0, 0)]⟩ []
end Go.Gx.T8
namespace Go.Gx.T8
theorem s_subs (a : ST) : SizeOf.sizeOf a.subs < SizeOf.sizeOf a := by
  cases a with
  | mk h l => simp [ST.subs]; omega
end Go.Gx.T8
namespace Go.Gx.T8
open Go.Gx Go.Gx.T3 Go.Gx.T4 Go.Gx.T6
end Go.Gx.T8

/- Plain laws of chains of steps; no program in sight. -/
namespace Go.Gx.T8
open Go.Gx Go.Gx.T3 Go.Gx.T4 Go.Gx.T6
mutual
/-- The chains of what stands in a step, and its own. -/
def schain1 : List ST → ST → List (List ST)
  | ah, .mk h l => (if h.k = 3 then schains ah l else []) ++ [ah ++ [.mk h l]]
/-- The chains of steps behind a beginning. -/
def schains : List ST → List ST → List (List ST)
  | _, [] => []
  | ah, c :: t => schain1 ah c ++ schains (ah ++ [c]) t
end
theorem schain1_ncc {ah : List ST} {c : ST} (h : c.h.k = 3) : schain1 ah c = schains ah c.subs ++ [ah ++ [c]] := by
  cases c with | mk hd l => have h' : hd.k = 3 := h; rw [schain1, if_pos h']; rfl
theorem schain1_other {ah : List ST} {c : ST} (h : c.h.k ≠ 3) : schain1 ah c = [ah ++ [c]] := by
  cases c with | mk hd l => have h' : hd.k ≠ 3 := h; rw [schain1, if_neg h']; rfl
theorem schains_append (a b : List ST) : ∀ ah, schains ah (a ++ b) = schains ah a ++ schains (ah ++ a) b := by
  induction a with
  | nil => intro ah; simp [schains]
  | cons c t ih => intro ah; simp [schains, ih]
theorem schains_take {rs : List SVal} {k : Nat} {ah : List ST} (hk : k < rs.length) : schains ah ((rs.map Prod.fst).take (k + 1)) = schains ah ((rs.map Prod.fst).take k) ++ schain1 (ah ++ (rs.map Prod.fst).take k) (rs.getD k s0).1 := by
  rw [sv_take hk, schains_append]; simp [schains]
mutual
theorem schain1_len : ∀ (c : ST) (ah : List ST), (schain1 ah c).length ≤ ssz c
  | .mk h l, ah => by
    have := schains_len l ah
    rw [schain1, ssz]
    split <;> simp <;> omega
theorem schains_len : ∀ (l : List ST) (ah : List ST), (schains ah l).length ≤ sszL l
  | [], _ => by simp [schains, sszL]
  | c :: t, ah => by
    have h1 := schain1_len c ah
    have h2 := schains_len t (ah ++ [c])
    rw [schains, sszL, List.length_append]; omega
end
theorem sszL_append (a b : List ST) : sszL (a ++ b) = sszL a + sszL b := by
  induction a with
  | nil => simp [sszL]
  | cons c t ih => simp only [List.cons_append, sszL, ih]; omega
theorem sszL_take {rs : List SVal} {k : Nat} (hk : k < rs.length) : sszL ((rs.map Prod.fst).take (k + 1)) = sszL ((rs.map Prod.fst).take k) + ssz (rs.getD k s0).1 := by
  rw [sv_take hk, sszL_append]; simp [sszL]
theorem sszL_take_le : ∀ (l : List ST) (k : Nat), sszL (l.take k) ≤ sszL l
  | [], k => by simp
  | c :: t, 0 => by simp [sszL]
  | c :: t, k + 1 => by have := sszL_take_le t k; simp only [List.take_succ_cons, sszL]; omega
mutual
theorem schain1_size : ∀ (c : ST) (ah : List ST), ∀ x ∈ schain1 ah c, sszL x ≤ sszL ah + ssz c
  | .mk h l, ah, x, hx => by
    rw [schain1] at hx
    rcases List.mem_append.1 hx with hx | hx
    · split at hx
      · have := schains_size l ah x hx
        rw [ssz]; omega
      · cases hx
    · rw [List.mem_singleton.1 hx, sszL_append]
      simp [sszL]
theorem schains_size : ∀ (l : List ST) (ah : List ST), ∀ x ∈ schains ah l, sszL x ≤ sszL ah + sszL l
  | [], _, x, hx => by rw [schains] at hx; cases hx
  | c :: t, ah, x, hx => by
    rw [schains] at hx
    rcases List.mem_append.1 hx with hx | hx
    · have := schain1_size c ah x hx
      rw [sszL]; omega
    · have := schains_size t (ah ++ [c]) x hx
      rw [sszL_append] at this
      simp only [sszL] at this ⊢
      omega
end
theorem ssub_size {rs : List SVal} {k : Nat} (hk : k < rs.length) : SizeOf.sizeOf (rs.getD k s0).1.subs < SizeOf.sizeOf (rs.map Prod.fst) := by
  have h2 := List.sizeOf_lt_of_mem (sv_mem hk)
  have h3 := s_subs (rs.getD k s0).1
  omega
/-- What is known of chains of steps that were found. -/
abbrev StC (G : Ghost) (z : List (List ST × Value)) : Prop := ∀ q ∈ z, Ss G q.2 q.1
theorem StC.mono {G G' : Ghost} {z : List (List ST × Value)} (h : StC G z) (hle : GLe G G') : StC G' z := fun q hq => (h q hq).mono hle
theorem StC.snoc {G : Ghost} {z : List (List ST × Value)} {v : Value} {l : List ST} (h : StC G z) (hl : Ss G v l) : StC G (z ++ [(l, v)]) := fun q hq => by
  rcases List.mem_append.1 hq with h1 | h1
  · exact h q h1
  · rw [List.mem_singleton.1 h1]; exact hl
theorem StC.app {G : Ghost} {z z' : List (List ST × Value)} (h : StC G z) (h' : StC G z') : StC G (z ++ z') := fun q hq => by
  rcases List.mem_append.1 hq with h1 | h1
  · exact h q h1
  · exact h' q h1
theorem ss_ones {G : Ghost} {rs : List SVal} (hpt : ∀ p ∈ rs, SlL G p.2.1 3 tC t0 p.1.h.ts) (hps : ∀ p ∈ rs, Ss G p.2.2 p.1.subs) : ∀ i, i < rs.length → ∀ j, j < 6 → (at_ (sC (rs.getD i s0)) j).oneCell' = true := by
  intro i hi j hj
  have h1 := SlG.one (hpt _ (getD_mem (d := s0) hi))
  have h2 := (hps _ (getD_mem (d := s0) hi)).one
  match j, hj with
  | 0, _ => rfl
  | 1, _ => rfl
  | 2, _ => rfl
  | 3, _ => rfl
  | 4, _ => exact h1
  | 5, _ => exact h2
theorem ss_all {G : Ghost} {rs : List SVal} (hpt : ∀ p ∈ rs, SlL G p.2.1 3 tC t0 p.1.h.ts) (hps : ∀ p ∈ rs, Ss G p.2.2 p.1.subs) : ∀ u ∈ rs.flatMap sC, u.oneCell' = true := by
  intro u hu
  obtain ⟨p, h1, h2⟩ := List.mem_flatMap.1 hu
  have h3 := SlG.one (hpt p h1)
  have h4 := (hps p h1).one
  simp only [sC, List.mem_cons, List.not_mem_nil, or_false] at h2
  rcases h2 with rfl | rfl | rfl | rfl | rfl | rfl
  all_goals first | rfl | exact h3 | exact h4
theorem ss_one1 {G : Ghost} {z : List (List ST × Value)} (hz : StC G z) : ∀ i, i < z.length → ∀ j, j < 1 → (at_ (lC (z.getD i ([], .slice none 0 0))) j).oneCell' = true := by
  intro i hi j hj
  have h := (hz _ (getD_mem (d := ([], .slice none 0 0)) hi)).one
  match j, hj with
  | 0, _ => exact h
theorem ss_take {G : Ghost} {v : Value} {rs : List SVal} {k : Nat} (hk : k ≤ rs.length) (h : SlG G v k 6 (fun i => at_ (sC (rs.getD i s0)))) : SlL G v 6 sC s0 (rs.take k) := by
  unfold SlL
  rw [List.length_take, Nat.min_eq_left hk]
  refine h.congr fun i hi j _ => ?_
  simp [List.getD, List.getElem?_take, hi]
abbrev es6 : List ST × Value := ([], .slice none 0 0)
end Go.Gx.T8

/- Plain laws of matching: the matches of steps behind a match; no program in sight. -/
namespace Go.Gx.T14
open Go.Gx Go.Gx.T3 Go.Gx.T4 Go.Gx.T8 Go.Gx.T13
/-- A choice on its way: ids and triples. -/
abbrev MT := List Int × List Tri
abbrev sKey (h : SH) : Tri := (h.k0, h.k1, h.k2)
def mw (m : MT) (f : FD) : MT := (m.1 ++ [f.1], m.2 ++ [f.2])
section
variable (fs : List FD)
mutual
/-- The matches of steps behind a match. -/
def gm1 : ST → MT → List MT
  | .mk _ s, m => gm s m
def gm : List ST → MT → List MT
  | [], m => [m]
  | c :: rest, m => if c.h.k = 1 then (fs.filter fun f => meets c.h.k (sKey c.h) c.h.ts m.2 f.2).flatMap fun f => gm rest (mw m f)
      else if c.h.k = 2 then (if (which c.h.k (sKey c.h) c.h.ts m.2 fs).length = 0 then gm rest m else [])
      else if (gm1 c m).isEmpty = true then gm rest m else []
end
end
theorem gm1_eq (fs : List FD) (c : ST) (m : MT) : gm1 fs c m = gm fs c.subs m := by cases c; rw [gm1]; rfl
/-- .. those of the first facts. -/
def gmTo (fs : List FD) (c : ST) (rest : List ST) (m : MT) (k : Nat) : List MT := ((fs.take k).filter fun f => meets c.h.k (sKey c.h) c.h.ts m.2 f.2).flatMap fun f => gm fs rest (mw m f)
section
variable {fs : List FD} {c : ST} {rest : List ST} {m : MT} {k : Nat}
theorem gmTo_zero : gmTo fs c rest m 0 = [] := rfl
theorem gmTo_yes (hk : k < fs.length) (h : meets c.h.k (sKey c.h) c.h.ts m.2 (fs.getD k f0).2 = true) : gmTo fs c rest m (k + 1) = gmTo fs c rest m k ++ gm fs rest (mw m (fs.getD k f0)) := by
  have e : fs.getD k f0 = fs[k] := by simp [List.getD, List.getElem?_eq_getElem hk]
  rw [e] at h ⊢
  unfold gmTo
  rw [List.take_succ_eq_append_getElem hk, List.filter_append, List.flatMap_append]
  simp [h]
theorem gmTo_no (hk : k < fs.length) (h : meets c.h.k (sKey c.h) c.h.ts m.2 (fs.getD k f0).2 = false) : gmTo fs c rest m (k + 1) = gmTo fs c rest m k := by
  have e : fs.getD k f0 = fs[k] := by simp [List.getD, List.getElem?_eq_getElem hk]
  rw [e] at h
  unfold gmTo
  rw [List.take_succ_eq_append_getElem hk, List.filter_append, List.flatMap_append]
  simp [h]
theorem gm_pos (h : c.h.k = 1) : gm fs (c :: rest) m = gmTo fs c rest m fs.length := by rw [gm, if_pos h, gmTo, List.take_length]
theorem gm_neg_no (h : c.h.k = 2) (hw : ¬ (which c.h.k (sKey c.h) c.h.ts m.2 fs).length = 0) : gm fs (c :: rest) m = [] := by rw [gm, if_neg (by omega), if_pos h, if_neg hw]
theorem gm_neg (h : c.h.k = 2) (hw : (which c.h.k (sKey c.h) c.h.ts m.2 fs).length = 0) : gm fs (c :: rest) m = gm fs rest m := by rw [gm, if_neg (by omega), if_pos h, if_pos hw]
theorem gm_ncc_no (h1 : ¬ c.h.k = 1) (h2 : ¬ c.h.k = 2) (hw : (gm fs c.subs m).isEmpty = false) : gm fs (c :: rest) m = [] := by rw [gm, if_neg h1, if_neg h2, gm1_eq, if_neg (by rw [hw]; decide)]
theorem gm_ncc (h1 : ¬ c.h.k = 1) (h2 : ¬ c.h.k = 2) (hw : (gm fs c.subs m).isEmpty = true) : gm fs (c :: rest) m = gm fs rest m := by rw [gm, if_neg h1, if_neg h2, gm1_eq, if_pos hw]
theorem gmTo_split (hk : k ≤ fs.length) (h : c.h.k = 1) : ∃ r, gm fs (c :: rest) m = gmTo fs c rest m k ++ r := by
  rw [gm_pos h]
  refine ⟨((fs.drop k).filter fun f => meets c.h.k (sKey c.h) c.h.ts m.2 f.2).flatMap fun f => gm fs rest (mw m f), ?_⟩
  unfold gmTo
  rw [← List.flatMap_append, ← List.filter_append, List.take_length, List.take_append_drop]
theorem gmTo_len (hk : k ≤ fs.length) (h : c.h.k = 1) : (gmTo fs c rest m k).length ≤ (gm fs (c :: rest) m).length := by
  obtain ⟨r, e⟩ := gmTo_split (rest := rest) (m := m) hk h
  rw [e]; simp
end
/-- What is handed out: all, or the first one. -/
def proc (b : Bool) (l : List MT) : List MT := if b = true then l else l.take 1
theorem proc_nil (b : Bool) : proc b [] = [] := by cases b <;> rfl
theorem proc_first {a : List MT} (h : a.isEmpty = false) (r : List MT) : proc false (a ++ r) = proc false a := by
  cases a with
  | nil => cases h
  | cons x t => rfl
theorem proc_all {b : Bool} {l : List MT} (h : b = false → l = []) : proc b l = l := by
  cases b with
  | true => rfl
  | false => rw [h rfl]; rfl
/-! ### tests whose fields are fields, at any depth -/
mutual
def okS : ST → Prop
  | .mk h s => (∀ x ∈ h.ts, OkT x) ∧ okSL s
def okSL : List ST → Prop
  | [] => True
  | c :: t => okS c ∧ okSL t
end
theorem okS_eq (c : ST) : okS c = ((∀ x ∈ c.h.ts, OkT x) ∧ okSL c.subs) := by cases c; rw [okS]; rfl
mutual
theorem okS_of : ∀ (c : CT) (ch : List CT), ch.length + size c ≤ 5000 → okS (stepOf ch c)
  | .mk h l, ch, hz => by
    rw [size] at hz
    have h1 := ok_stepOf (ch := ch) (c := .mk h l) (by omega)
    rw [okS_eq]
    refine ⟨h1, ?_⟩
    rw [stepOf]
    split
    · exact okSL_of l ch (by omega)
    · show okSL []
      rw [okSL]; trivial
theorem okSL_of : ∀ (l ch : List CT), ch.length + sizeL l ≤ 5000 → okSL (stepsOf ch l)
  | [], _, _ => by rw [stepsOf, okSL]; trivial
  | c :: t, ch, hz => by
    rw [sizeL] at hz
    have := size_pos c
    rw [stepsOf, okSL]
    exact ⟨okS_of c ch (by omega), okSL_of t (ch ++ [c]) (by simp; omega)⟩
end
theorem okSL_cons {c : ST} {t : List ST} (h : okSL (c :: t)) : ((∀ x ∈ c.h.ts, OkT x) ∧ okSL c.subs) ∧ okSL t := by
  rw [okSL, okS_eq] at h; exact h
theorem okSL_take : ∀ {l : List ST} (k : Nat), okSL l → okSL (l.take k)
  | [], k, h => by simpa using h
  | c :: t, 0, _ => by rw [List.take_zero, okSL]; trivial
  | c :: t, k + 1, h => by
    rw [okSL] at h
    rw [List.take_succ_cons, okSL]
    exact ⟨h.1, okSL_take k h.2⟩
/-- Matches with the values of their ids. -/
abbrev PaC (G : Ghost) (ms : List MT) (z : List (List Int × Value)) : Prop := (z.map Prod.fst = ms.map Prod.fst) ∧ ∀ q ∈ z, SlL G q.2 1 cI 0 q.1
theorem PaC.mono {G G' : Ghost} {ms : List MT} {z : List (List Int × Value)} (h : PaC G ms z) (hle : GLe G G') : PaC G' ms z := ⟨h.1, fun q hq => (h.2 q hq).mono hle⟩
theorem PaC.snoc {G : Ghost} {ms : List MT} {z : List (List Int × Value)} {m : MT} {v : Value} (h : PaC G ms z) (hl : SlL G v 1 cI 0 m.1) : PaC G (ms ++ [m]) (z ++ [(m.1, v)]) := by
  refine ⟨by rw [List.map_append, List.map_append, h.1]; rfl, fun q hq => ?_⟩
  rcases List.mem_append.1 hq with h1 | h1
  · exact h.2 q h1
  · rw [List.mem_singleton.1 h1]; exact hl
abbrev es14 : List Int × Value := ([], .slice none 0 0)
/-! ### without facts -/
end Go.Gx.T14
namespace Go.Gx.T14
open Go.Gx Go.Gx.T3 Go.Gx.T4 Go.Gx.T8 Go.Gx.T13
theorem ss_cons {l : List ST} {rs : List SVal} (hl : l = rs.map Prod.fst) (h : 0 < rs.length) : l = (rs.getD 0 s0).1 :: (rs.drop 1).map Prod.fst := by
  subst hl
  cases rs with
  | nil => simp at h
  | cons a t => simp
theorem ss_drop {G : Ghost} {v : Value} {rs : List SVal} (h : SlG G v (rs.length - 1) 6 (fun i => at_ (sC (rs.getD (1 + i) s0)))) (ht : ∀ p ∈ rs, SlL G p.2.1 3 tC t0 p.1.h.ts) (hs : ∀ p ∈ rs, Ss G p.2.2 p.1.subs) : Ss G v ((rs.drop 1).map Prod.fst) := by
  refine Ss.mk (rs.drop 1) ?_ (fun p hp => ht p (List.mem_of_mem_drop hp)) (fun p hp => hs p (List.mem_of_mem_drop hp))
  unfold SlL
  rw [List.length_drop]
  refine h.congr fun i hi j _ => ?_
  have e : (rs.drop 1).getD i s0 = rs.getD (1 + i) s0 := by unfold List.getD; rw [List.getElem?_drop]
  show at_ (sC (rs.getD (1 + i) s0)) j = _
  rw [← e]
theorem drop_lt {rs : List SVal} (h : 0 < rs.length) : SizeOf.sizeOf ((rs.drop 1).map Prod.fst) < SizeOf.sizeOf (rs.map Prod.fst) := by
  cases rs with
  | nil => simp at h
  | cons a t => simp; omega
theorem growP_stop {fs : List FD} {c : ST} {rest : List ST} {m : MT} {k : Nat} (hk : k < fs.length) (h1 : c.h.k = 1) (hM : meets c.h.k (sKey c.h) c.h.ts m.2 (fs.getD k f0).2 = true) (hno : gmTo fs c rest m k = []) (hE : (gm fs rest (mw m (fs.getD k f0))).isEmpty = false) :
    (gm fs (c :: rest) m).isEmpty = false ∧ proc false (gm fs (c :: rest) m) = proc false (gm fs rest (mw m (fs.getD k f0))) := by
  obtain ⟨r, e⟩ := gmTo_split (rest := rest) (m := m) (show k + 1 ≤ fs.length by omega) h1
  rw [gmTo_yes hk hM, hno, List.nil_append] at e
  rw [e]
  refine ⟨?_, proc_first hE r⟩
  cases h : gm fs rest (mw m (fs.getD k f0)) with
  | nil => rw [h] at hE; cases hE
  | cons a t => rfl
theorem proc_go {b : Bool} {l : List MT} (h : (b || l.isEmpty) = true) : proc b l = l := by
  cases b with
  | true => rfl
  | false =>
    have h2 : l = [] := by simpa using h
    rw [h2]; rfl
theorem go_nil {b : Bool} {l : List MT} (h : (b || l.isEmpty) = true) (hb : b = false) : l = [] := by
  subst hb; simpa using h
theorem proc_one (b : Bool) (m : MT) : proc b [m] = [m] := by cases b <;> rfl
theorem end_true {b : Bool} {l : List MT} (h : b = false → l = []) : (b || l.isEmpty) = true := by
  cases b with
  | true => rfl
  | false => rw [h rfl]; rfl
end Go.Gx.T14
namespace Go.Gx.T14
open Go.Gx Go.Gx.T3 Go.Gx.T4 Go.Gx.T6 Go.Gx.T8 Go.Gx.T13
/-- Slices of ids. -/
abbrev LI (G : Ghost) (v : Value) (l : List (List Int)) : Prop := Ls (fun G v l => SlL G v 1 cI 0 l) ([] : List Int) G v l
theorem fst_getD (qs : List (List Int × Value)) (k : Nat) : (qs.map Prod.fst).getD k [] = (qs.getD k es14).1 := mapfst_getD [] _ k
theorem same_ne {a b : List (List Int)} {qs qs2 : List (List Int × Value)} {k : Nat} (ha : a = qs.map Prod.fst) (hb : b = qs2.map Prod.fst) (h : (qs.getD k es14).1 ≠ (qs2.getD k es14).1) : a ≠ b := by
  intro e
  apply h
  rw [← fst_getD, ← fst_getD, ← ha, ← hb, e]
theorem same_len {a b : List (List Int)} {qs qs2 : List (List Int × Value)} (ha : a = qs.map Prod.fst) (hb : b = qs2.map Prod.fst) (h : qs.length ≠ qs2.length) : a ≠ b := by
  intro e
  apply h
  have := congrArg List.length e
  rw [ha, hb, List.length_map, List.length_map] at this
  exact this
theorem same_next {qs qs2 : List (List Int × Value)} {k : Nat} (h1 : k < qs.length) (h2 : k < qs2.length) (h : (qs.map Prod.fst).take k = (qs2.map Prod.fst).take k) (he : (qs.getD k es14).1 = (qs2.getD k es14).1) : (qs.map Prod.fst).take (k + 1) = (qs2.map Prod.fst).take (k + 1) :=
  take_eq_succ (d := []) (by simpa using h1) (by simpa using h2) h (by rw [fst_getD, fst_getD]; exact he)
theorem same_end {a b : List (List Int)} {qs qs2 : List (List Int × Value)} {k : Nat} (ha : a = qs.map Prod.fst) (hb : b = qs2.map Prod.fst) (hk : qs.length ≤ k) (hl : qs.length = qs2.length) (h : (qs.map Prod.fst).take k = (qs2.map Prod.fst).take k) : a = b := by
  rw [List.take_of_length_le (by simpa using hk), List.take_of_length_le (by simpa using (by omega : qs2.length ≤ k))] at h
  rw [ha, hb, h]
theorem ints_end {a b : List Int} {j : Nat} (hk : a.length ≤ j) (hl : a.length = b.length) (h : a.take j = b.take j) : a = b := by
  rw [List.take_of_length_le hk, List.take_of_length_le (by omega)] at h; exact h
abbrev A14 : CT := .mk ⟨1, true, 1, false, 9, true, 2⟩ []
abbrev B14 (k : Int) : CT := .mk ⟨k, true, 2, false, 9, true, 3⟩ []
abbrev F14 : List FD := [(1, (1, 9, 2)), (2, (2, 9, 3))]
theorem gm14a : (gm F14 (stepsOf [] [A14, B14 1]) ([], [])).map Prod.fst = [[1, 2]] := by decide +kernel
theorem gm14b : (gm F14 (stepsOf [] [A14, B14 2]) ([], [])).map Prod.fst = [[2]] := by decide +kernel
abbrev nilV : Value := .slice none 0 0
theorem no_ints {k : Int} {o : Nat} {n n' : Int} {m m' : IntKind} (h1 : (row (at_ (cvC (A14, nilV) ++ cvC (B14 k, nilV))) 0 16).toArray[o]? = some (.int m n)) (h2 : (row (at_ (cvC (A14, nilV) ++ cvC (B14 k, nilV))) 0 16).toArray[o + 1]? = some (.int m' n')) : False := by
  match o, h1, h2 with
  | 0, _, h2 => simp [row, cvC, at_, CT.h] at h2
  | 1, h1, _ => simp [row, cvC, at_, CT.h] at h1
  | 2, _, h2 => simp [row, cvC, at_, CT.h] at h2
  | 3, h1, _ => simp [row, cvC, at_, CT.h] at h1
  | 4, _, h2 => simp [row, cvC, at_, CT.h] at h2
  | 5, h1, _ => simp [row, cvC, at_, CT.h] at h1
  | 6, _, h2 => simp [row, cvC, at_, CT.h] at h2
  | 7, h1, _ => simp [row, cvC, at_, CT.h] at h1
  | 8, _, h2 => simp [row, cvC, at_, CT.h] at h2
  | 9, h1, _ => simp [row, cvC, at_, CT.h] at h1
  | 10, _, h2 => simp [row, cvC, at_, CT.h] at h2
  | 11, h1, _ => simp [row, cvC, at_, CT.h] at h1
  | 12, _, h2 => simp [row, cvC, at_, CT.h] at h2
  | 13, h1, _ => simp [row, cvC, at_, CT.h] at h1
  | 14, _, h2 => simp [row, cvC, at_, CT.h] at h2
  | o + 15, h1, _ =>
    cases o with
    | zero => simp [row, cvC, at_, CT.h] at h1
    | succ o => simp [row] at h1
end Go.Gx.T14
namespace Go.Gx.T14
open Go.Gx Go.Gx.T3 Go.Gx.T4 Go.Gx.T6 Go.Gx.T8 Go.Gx.T13
theorem LI.mono {G G' : Ghost} {v : Value} {l : List (List Int)} (h : LI G v l) (hle : GLe G G') : LI G' v l := by
  obtain ⟨rs, h1, h2, h3⟩ := h
  exact ⟨rs, h1.mono hle, fun p hp => (h2 p hp).mono hle, h3⟩
end Go.Gx.T14

/-
  GX: a function value that was handed in is called; an object of no blocks. Generic in the program.
-/
namespace Go.Gx
open Go.RowKit
/-- Nothing. -/
def empA : Asrt where
  holds _ F := ∀ b, ¬ F b
  frame := fun h _ => h
  dom := fun h hb => (h _ hb).elim
theorem evs_app {l : List (Nat × Value)} {cs : List Value} : ∀ {xs : List Operand} {us : List Value}, evs l xs = some us → evs l (xs ++ cs.map Operand.const) = some (us ++ cs)
  | [], us, h => by
    simp only [evs, Option.some.injEq] at h
    subst h
    rw [List.nil_append, List.nil_append]
    induction cs with
    | nil => rfl
    | cons c t ih => simp [evs, ih, ev]
  | x :: xs, us, h => by
    simp only [List.cons_append]
    unfold evs at h ⊢
    cases hx : ev l x with
    | none => simp [hx] at h
    | some u =>
      cases hr : evs l xs with
      | none => simp [hx, hr] at h
      | some r =>
        simp [hx, hr] at h
        subst h
        simp [evs_app hr]
section
variable {P : Program} {ops : Array Oper} {Q : Exit → Act → World → Prop} {N : Nat} {X : Nat → Prop} {w0 : World} {G : Ghost} {l : List (Nat × Value)} {L : List Asrt}
variable {rest : List Oper} {d : Nat} {ty : TypeId} {pos : String} {after : Array Edge} {gd : Option (Nat × Bool)}
theorem Mem.emp {w : World} (h : Mem X w0 G w L) : Mem X w0 G w (empA :: L) := ⟨h.since, h.has, (fun _ => False), fun _ hb => hb, fun _ hb => hb.elim, h.sep.mono (fun _ _ hb => ⟨hb, id⟩)⟩
theorem r_emp (h : Runs P ops Q N X w0 G rest l (empA :: L)) : Runs P ops Q N X w0 G rest l L := fun a w hS => h a w ⟨hS.fr, hS.mem.emp⟩
theorem r_yield {τ : Type} {k : Nat} {f : FuncId} {y : Operand} {xs : List Operand} {us cs : List Value} {ats : Array TypeId} {A : Asrt} {B : τ → Asrt} {S : Ghost → Value → τ → Prop} (hw : Wt ops l gd) (hd : Nat.blt d N = true) (hy : ev l y = some (.func (.func f) #[] cs.toArray)) (hx : evs l xs = some us) (hf : Callable P f) (hL : L[k]? = some A)
    (hc : ∀ w F, Has G w → A.holds w F → (∀ b, F b → G b = none) → Calls P f (us ++ cs).toArray w (Ret fun r w' => ∃ G' z, GNew w F G G' ∧ Has G' w' ∧ S G' r z ∧ KeptG (B z) F G' w w'))
    (h : ∀ G' r z, GNew w0 X G G' → S G' r z → Runs P ops Q N X w0 G' rest ((d, r) :: l) (L.set k (B z))) : Runs P ops Q N X w0 G (⟨some d, .call ⟨.value y, xs.toArray, ats⟩, ty, pos, after, gd⟩ :: rest) l L :=
  r_fun hw hy (r_callox (vs := us ++ cs) hw hd hf (evs_app hx) hL hc h)
end
section
variable {P : Program} {ops : Array Oper} {Q : Exit → Act → World → Prop} {N : Nat} {X : Nat → Prop} {w0 : World} {G : Ghost} {l l0 : List (Nat × Value)} {L : List Asrt}
variable {brk : Nat → Bool} {G0 : Ghost} {L0 : List Asrt} {n : Nat} {listed : Array Bool} {o o' o2 : Oper}
/-- Either of three operations may come. -/
theorem d_eff3 (i j m : Nat) {ph : Bool} (hi : ops[i]? = some o) (hj : ops[j]? = some o') (hm : ops[m]? = some o2) (hr : Region.ready .any ops listed = [i, j, m])
    (h : (∀ K : Act → World → Prop, (∀ a w, (K a w ↔ ((brk i = false → Cls w0 G0 L0 w) ∧ wpAnyD P ops (Cls w0 G0 L0) brk Q n (listed.setIfInBounds i true) a w))) → Closed ops (listed.setIfInBounds i true) → Runs P ops (Exit.then K Q0) N X w0 G [o] l L))
    (h' : (∀ K : Act → World → Prop, (∀ a w, (K a w ↔ ((brk j = false → Cls w0 G0 L0 w) ∧ wpAnyD P ops (Cls w0 G0 L0) brk Q n (listed.setIfInBounds j true) a w))) → Closed ops (listed.setIfInBounds j true) → Runs P ops (Exit.then K Q0) N X w0 G [o'] l L))
    (h2 : (∀ K : Act → World → Prop, (∀ a w, (K a w ↔ ((brk m = false → Cls w0 G0 L0 w) ∧ wpAnyD P ops (Cls w0 G0 L0) brk Q n (listed.setIfInBounds m true) a w))) → Closed ops (listed.setIfInBounds m true) → Runs P ops (Exit.then K Q0) N X w0 G [o2] l L)) :
    DR P ops brk G0 L0 Q N X w0 G ph (n + 1) listed l L := by
  intro hcl a w hS hC
  refine ⟨fun h0 => (by rw [h0] at hr; cases hr), fun k hk => ?_⟩
  have hki : k = i ∨ k = j ∨ k = m := by rw [hr] at hk; simpa using hk
  have fin : ∀ (k : Nat) (o : Oper), ops[k]? = some o → k ∈ Region.ready .any ops listed →
      (∀ K : Act → World → Prop, (∀ a w, (K a w ↔ ((brk k = false → Cls w0 G0 L0 w) ∧ wpAnyD P ops (Cls w0 G0 L0) brk Q n (listed.setIfInBounds k true) a w))) → Closed ops (listed.setIfInBounds k true) → Runs P ops (Exit.then K Q0) N X w0 G [o] l L) →
      wpOp P ops Q0 k (fun a' w' => (brk k = false → Cls w0 G0 L0 w') ∧ wpAnyD P ops (Cls w0 G0 L0) brk Q n (listed.setIfInBounds k true) a' w') a w := by
    intro k o ho hk h
    have h1 := h (fun a w => ((brk k = false → Cls w0 G0 L0 w) ∧ wpAnyD P ops (Cls w0 G0 L0) brk Q n (listed.setIfInBounds k true) a w)) (fun _ _ => Iff.rfl) (hcl.set hk) a w hS
    unfold wpOp
    simp only [ho]
    unfold wpList at h1
    split
    · rename_i hw
      rw [if_pos hw] at h1
      rcases h1 with h1 | ⟨_, _, _, hf⟩
      · exact .inl (wp_Q0 (Q := Q0) (fun a w h => h) (wp_QX h1))
      · exact hf.elim
    · rename_i hw
      rw [if_neg hw] at h1
      exact h1
  rcases hki with rfl | rfl | rfl
  · exact fin _ _ hi hk h
  · exact fin _ _ hj hk h'
  · exact fin _ _ hm hk h2
end
section
variable {P : Program} {ops : Array Oper} {brk : Nat → Bool} {G0 : Ghost} {L0 : List Asrt} {Q : Exit → Act → World → Prop} {N : Nat} {X : Nat → Prop} {w0 : World} {G : Ghost} {l : List (Nat × Value)} {L : List Asrt}
variable {d n : Nat} {listed : Array Bool} {ty : TypeId} {pos : String} {after : Array Edge} {gd : Option (Nat × Bool)} {v : Value} {T E : TypeId} {m sz : Nat} {q : IntKind} {f : Nat → Nat → Value} {x o : Operand}
/-- A part of a slice, up to its end, in a drawn region. -/
theorem d_sliceL (i a : Nat) (hi : ops[i]? = some ⟨some d, .slice T x (some o) none none, ty, pos, after, gd⟩) (hb : brk i = false) (hf : firstB ops brk listed i = true) (hbig : ∀ j, ops.size ≤ j → brk j = false) (hw : Wt ops l gd) (hd : Nat.blt d N = true)
    (hT : P.underlying T = some (.slice E)) (hE : SzIs P E sz) (hx : ev l x = some v) (hs : SlG G0 v m sz f) (hlo : ev l o = some (.int q (a : Nat))) (han : a ≤ m)
    (h : ∀ v', SlG G0 v' (m - a) sz (fun i j => f (a + i) j) → DR P ops brk G0 L0 Q N X w0 G true n (listed.setIfInBounds i true) ((d, v') :: l) L) : DR P ops brk G0 L0 Q N X w0 G true (n + 1) listed l L := by
  obtain ⟨v', h1, h2⟩ := p_slice (P := P) (N := N) (X := aX) (w0 := w0) (l := l) (L := L0) (d := d) (ty := ty) (pos := pos) (after := after) (gd := gd) (q := q) (q' := .i64) (a := a) (b := m) hT hE hx hs (some o) none hlo rfl han (Nat.le_refl _)
  exact d_val1 i hi hb hf hbig hw hd h2 (h v' h1)
end
section
variable {P : Program} {ops : Array Oper} {brk : Nat → Bool} {G0 : Ghost} {L0 : List Asrt} {Q : Exit → Act → World → Prop} {N : Nat} {X : Nat → Prop} {w0 : World} {G : Ghost} {l : List (Nat × Value)} {L : List Asrt} {ph : Bool} {m : Nat} {listed : Array Bool}
theorem d_rowsl {E : TypeId} {k n sz : Nat} {v : Value} {xs : List Value} (hL : L[k]? = some (rowA v E sz n xs)) (h : ∀ a c, v = .slice a n c → DR P ops brk G0 L0 Q N X w0 G ph m listed l L) : DR P ops brk G0 L0 Q N X w0 G ph m listed l L := by
  intro hcl ac w hS hC
  obtain ⟨F, ⟨⟨hlen, hown⟩, _⟩, _, _⟩ := hS.mem.take hL
  rcases hown with ⟨rfl, h0⟩ | ⟨g, cap, cur, rfl, _⟩
  · exact h _ _ (by rw [h0]) hcl ac w hS hC
  · exact h _ _ rfl hcl ac w hS hC
end
end Go.Gx
namespace Go.Gx
open Go.RowKit
section
variable {P : Program} {ops : Array Oper} {Q : Exit → Act → World → Prop} {N : Nat} {X : Nat → Prop} {w0 : World} {G : Ghost} {l : List (Nat × Value)} {L : List Asrt}
variable {rest : List Oper} {d : Nat} {ty : TypeId} {pos : String} {after : Array Edge} {gd : Option (Nat × Bool)}
/-- A block of the call's own is read by a call whose result lies in memory of its own alone. -/
theorem r_callbm {f : FuncId} {xs : List Operand} {vs : List Value} {ats : Array TypeId} {k n b : Nat} {E : TypeId} {g : Nat → Value} {S : Ghost → Value → Prop} (hw : Wt ops l gd) (hd : Nat.blt d N = true) (hf : Callable P f) (hv : evs l xs = some vs) (hL : L[k]? = some (box b n E g))
    (hc : ∀ w, BoxAt w b n E g → Calls P f vs.toArray w (Ret fun r w' => ∃ H : Ghost, (∀ b, H b ≠ none → w.heap.size ≤ b) ∧ Has H w' ∧ S H r ∧ Since nX w w'))
    (h : ∀ G' r, GNew w0 X G G' → (∃ H, GLe H G' ∧ S H r) → Runs P ops Q N X w0 G' rest ((d, r) :: l) L) : Runs P ops Q N X w0 G (⟨some d, .call ⟨.value (.func f), xs.toArray, ats⟩, ty, pos, after, gd⟩ :: rest) l L := by
  refine Runs.step hw (fun a w hS => ?_)
  show Oper.upon P _ a _ Q _
  rw [run_call hS.fr hv hf, Oper.upon_enter]
  obtain ⟨F, ⟨hB, _⟩, _, _⟩ := hS.mem.take hL
  refine (hc w hB).mono (fun e w' hR => ?_)
  cases e with
  | returned r =>
    obtain ⟨H, hfresh, hh, hr, hs⟩ := hR
    have hnew : GNew w nX G (fun b => match G b with | some o => some o | none => H b) :=
      ⟨fun b o e => by simp [e], fun b e e' => .inl (hfresh b (by simpa [e] using e'))⟩
    refine h _ r (hnew.up hS.mem.since.size) ⟨H, fun b o e => ?_, hr⟩ _ _ ⟨hS.fr.put (by simpa using hd) _, hS.mem.callG hs hnew ?_⟩
    · have hge : w.heap.size ≤ b := hfresh b (by rw [e]; simp)
      have : G b = none := hS.mem.has.fresh hge
      simp [this, e]
    · intro b o e
      cases e2 : G b with
      | none => simp only [e2] at e; exact hh b o e
      | some o2 =>
        simp only [e2] at e
        cases e
        rw [hs.block b (hS.mem.has.lt e2) id]
        exact hS.mem.has b o e2
  | panicked c => exact hR.elim
  | outgrown => exact hR.elim
end
/-- What is known of one block. -/
def oneG (b : Nat) (o : Obj) : Ghost := fun x => if x = b then some o else none
theorem oneG_has {w : World} {b : Nat} {o : Obj} (h : w.heap[b]? = some o) : Has (oneG b o) w := fun x p e => by
  unfold oneG at e
  split at e
  · rename_i hx; subst hx; cases e; exact h
  · cases e
/-- A row that is known beside one block and lies elsewhere. -/
theorem RowAt.other {w : World} {G : Ghost} {b p o n : Nat} {ob : Obj} {g : Nat → Value} (hn : GNew w nX (oneG b ob) G) (h : RowAt G p o n g) (hne : p ≠ b) : RowAt (Gx.fr w G) p o n g := by
  refine h.fr ?_
  obtain ⟨c, T, f, h1, _⟩ := h
  have h2 : oneG b ob p = none := by unfold oneG; rw [if_neg hne]
  rcases hn.new p h2 (by rw [h1]; simp) with h3 | h3
  · exact h3
  · exact h3.elim
end Go.Gx

/- Walks: what Go functions of this chapter come to, each as a function on plain data; no condition but those that each theorem names. Printed by a program of this work (gen.py). -/
namespace Go.Proofs.Ytpadfgomhojjnaa
open Go.Gx Go.Gx.T13 Go.Gx.T8 Go.Gx.T4 Go.Gx.T3 Go.Gx.T14 Go.Gx.T13 Go.Gx.T8 Go.Gx.T6 Go.Gx.T4 Go.Gx.T3 Go.Gx.T3 Go.Gx.T4 Go.Gx.T3 Go.Gx.T6 Go.Gx.T8 Go.Gx.T4 Go.Gx.T3 Go.Gx.T8 Go.Gx.T4 Go.Gx.T3 Go.Gx.T8 Go.Gx.T6 Go.Gx.T4 Go.Gx.T3
theorem mixed : Try.prog.follows .mixedOrders = true := by
 kernel_rfl
theorem sz3 : SzIs Try.prog 3 1 := by
 unfold SzIs
 kernel_rfl
theorem sz22 : SzIs Try.prog 22 1 := by
 unfold SzIs
 kernel_rfl
theorem sz70 : SzIs Try.prog 70 1 := by
 unfold SzIs
 kernel_rfl
theorem sz106 : SzIs Try.prog 106 3 := by
 unfold SzIs
 kernel_rfl
theorem sz107 : SzIs Try.prog 107 1 := by
 unfold SzIs
 kernel_rfl
theorem sz109 : SzIs Try.prog 109 6 := by
 unfold SzIs
 kernel_rfl
theorem sz120 : SzIs Try.prog 120 4 := by
 unfold SzIs
 kernel_rfl
theorem sz137 : SzIs Try.prog 137 2 := by
 unfold SzIs
 kernel_rfl
theorem sz141 : SzIs Try.prog 141 3 := by
 unfold SzIs
 kernel_rfl
theorem zr106 : ZeroIs Try.prog 106 (Value.agg #[Value.int .i64 0, Value.int .i64 0, Value.int .i64 0]) := by
 unfold ZeroIs
 kernel_rfl
theorem zr120 : ZeroIs Try.prog 120 (Value.agg #[Value.int .i64 0, Value.int .i64 0, Value.int .i64 0, Value.int .i64 0]) := by
 unfold ZeroIs
 kernel_rfl
theorem zr137 : ZeroIs Try.prog 137 (Value.agg #[Value.slice none 0 0, Value.slice none 0 0]) := by
 unfold ZeroIs
 kernel_rfl
theorem zr141 : ZeroIs Try.prog 141 (Value.agg #[Value.int .i64 0, Value.int .i64 0, Value.int .i64 0]) := by
 unfold ZeroIs
 kernel_rfl
theorem cl50 : Callable Try.prog 50 := callable Try.func50 (by kernel_rfl) rfl
theorem cl73 : Callable Try.prog 73 := callable Try.func73 (by kernel_rfl) rfl
theorem cl80 : Callable Try.prog 80 := callable Try.func80 (by kernel_rfl) rfl
theorem cl84 : Callable Try.prog 84 := callable Try.func84 (by kernel_rfl) rfl
theorem cl85 : Callable Try.prog 85 := callable Try.func85 (by kernel_rfl) rfl
theorem bl137_0s3_1s3 (x0 : Option Addr) (x1 : Nat) (x2 : Nat) (x3 : Option Addr) (x4 : Nat) (x5 : Nat) : Program.built Try.prog 137 [(0, Value.slice x0 x1 x2), (1, Value.slice x3 x4 x5)] = some #[Value.slice x0 x1 x2, Value.slice x3 x4 x5] := by
 kernel_rfl
theorem bs106_10a3 (a0 a1 a2 : Value) : Instr.fill (fun i => some (i * 3, 3)) ((Array.range (1 * 3)).map ((Value.agg #[Value.int .i64 0, Value.int .i64 0, Value.int .i64 0]).cells[· % (Value.agg #[Value.int .i64 0, Value.int .i64 0, Value.int .i64 0]).cells.size]!)) [(0, Value.agg #[a0, a1, a2])] = some #[a0, a1, a2] := by
 kernel_rfl
theorem bs3_10i2 (a0 : IntKind) (a1 : Int) : Instr.fill (fun i => some (i * 1, 1)) ((Array.range (1 * 1)).map ((Value.int .i64 0).cells[· % (Value.int .i64 0).cells.size]!)) [(0, Value.int a0 a1)] = some #[Value.int a0 a1] := by
 kernel_rfl
theorem el3 : ElemIs Try.prog 3 1 8 (Value.int .i64 0) := by
 unfold ElemIs
 kernel_rfl
theorem el106 : ElemIs Try.prog 106 3 24 (Value.agg #[Value.int .i64 0, Value.int .i64 0, Value.int .i64 0]) := by
 unfold ElemIs
 kernel_rfl
theorem c_khas (t k : Tri)  (w : World)  :
  Calls Try.prog 84 #[kT t, kT k] w (Ret fun r w' => r = Value.bool (hasK t k) ∧ Since nX w w') := by
 refine enter (args := [_, _]) (X := nX) (G := (fun _ => none)) (l := [(0, kT t), (1, kT k)]) Try.func84 rfl Try.ntmps84 (fun _ _ h => by cases h) ⟨rfl, rfl, trivial⟩ (Nat.le_of_ble_eq_true rfl) ?_
 refine c_seq ?_
 refine c_region ?_
 refine r_box .none rfl rfl (IsRow.lit _) (fun b_1 => ?_)
 refine r_box .none rfl rfl (IsRow.lit _) (fun b_2 => ?_)
 refine r_val .none rfl (p_assign rfl) ?_
 refine r_nil ?_
 refine e_next ?_
 refine c_seq ?_
 refine c_seq ?_
 refine c_region ?_
 refine r_val .none rfl (p_ldw (k := 0) Try.underlying106 rfl sz106 rfl rfl (rfl : _ = Value.agg #[_, _, _])) ?_
 refine r_val .none rfl (p_move rfl) ?_
 refine r_nil ?_
 refine e_next ?_
 refine c_block ?_
 refine c_unroll 4 ?_
 refine l_round (n := 3) ?_
 refine c_seq ?_
 refine c_region ?_
 refine r_val .none rfl (p_lt rfl rfl) ?_
 refine r_say (d := 9) (v := Value.bool true) rfl ?_
 refine r_nil ?_
 refine e_next ?_
 refine c_seq ?_
 refine c_cond_t rfl ?_
 refine c_skip ?_
 refine e_next ?_
 refine c_seq ?_
 refine c_block ?_
 refine c_seq ?_
 refine c_region ?_
 refine r_val .none rfl (p_move rfl) ?_
 refine r_val .none rfl (p_index (k := 0) Try.underlying106 Try.underlying3 rfl sz3 rfl (IsRow.lit _) rfl (by first | exact of_decide_eq_true rfl | omega) (rfl : _ = Value.int _ _)) ?_
 refine r_val .none rfl (p_assign rfl) ?_
 refine r_val .none rfl (p_assign rfl) ?_
 refine r_nil ?_
 refine e_next ?_
 refine c_seq ?_
 refine c_region ?_
 refine r_val .none rfl (p_move rfl) ?_
 refine r_val .none rfl (p_ne rfl rfl) ?_
 refine r_val .none rfl (p_move rfl) ?_
 refine r_splitd (d := 14) rfl (fun h_1 => ?_) (fun h_1 => ?_)
 ·
  first
   | (exfalso; omega)
   | (
    refine r_val (.some rfl rfl) rfl (p_move rfl) ?_
    refine r_val (.some rfl rfl) rfl (p_move rfl) ?_
    refine r_val (.some rfl rfl) rfl (p_iaddr (k := 0) Try.underlying106 sz3 rfl rfl (by first | exact of_decide_eq_true rfl | omega)) ?_
    refine r_val (.some rfl rfl) rfl (p_ld (k := 1) Try.underlying3 rfl rfl rfl (by first | exact of_decide_eq_true rfl | omega) (rfl : _ = Value.int _ _)) ?_
    refine r_val (.some rfl rfl) rfl (p_ne rfl rfl) ?_
    refine r_val .none rfl (p_pick_t rfl rfl) ?_
    refine r_nil ?_
    refine e_next ?_
    refine c_splitd (d := 20) rfl (fun h_2 => ?_) (fun h_2 => ?_)
    ·
     first
      | (exfalso; omega)
      | (
       refine c_cond_t rfl ?_
       refine c_seq ?_
       refine c_region ?_
       refine r_val .none rfl (p_assign rfl) ?_
       refine r_nil ?_
       refine e_next ?_
       refine c_ret ?_
       refine e_ret_block ?_
       refine e_ret_then ?_
       refine e_ret_then ?_
       refine e_ret_block ?_
       refine e_ret_then ?_
       refine e_ret1 Try.results84 (.tmp rfl .nil) (fun w hm => ⟨?_, hm.since⟩)
       (simp [hasK, triL, at_] at *; try omega)
       )
    ·
     first
      | (exfalso; omega)
      | (
       refine c_cond_f rfl ?_
       refine c_skip ?_
       refine e_norm_block ?_
       refine e_next ?_
       refine c_region ?_
       refine r_val .none rfl (p_add rfl rfl (by omega)) ?_
       refine r_val .none rfl (p_move rfl) ?_
       refine r_nil ?_
       refine e_again ?_
       refine l_round (n := 2) ?_
       refine c_seq ?_
       refine c_region ?_
       refine r_val .none rfl (p_lt rfl rfl) ?_
       refine r_say (d := 9) (v := Value.bool true) rfl ?_
       refine r_nil ?_
       refine e_next ?_
       refine c_seq ?_
       refine c_cond_t rfl ?_
       refine c_skip ?_
       refine e_next ?_
       refine c_seq ?_
       refine c_block ?_
       refine c_seq ?_
       refine c_region ?_
       refine r_val .none rfl (p_move rfl) ?_
       refine r_val .none rfl (p_index (k := 1) Try.underlying106 Try.underlying3 rfl sz3 rfl (IsRow.lit _) rfl (by first | exact of_decide_eq_true rfl | omega) (rfl : _ = Value.int _ _)) ?_
       refine r_val .none rfl (p_assign rfl) ?_
       refine r_val .none rfl (p_assign rfl) ?_
       refine r_nil ?_
       refine e_next ?_
       refine c_seq ?_
       refine c_region ?_
       refine r_val .none rfl (p_move rfl) ?_
       refine r_val .none rfl (p_ne rfl rfl) ?_
       refine r_val .none rfl (p_move rfl) ?_
       refine r_splitd (d := 14) rfl (fun h_3 => ?_) (fun h_3 => ?_)
       ·
        first
         | (exfalso; omega)
         | (
          refine r_val (.some rfl rfl) rfl (p_move rfl) ?_
          refine r_val (.some rfl rfl) rfl (p_move rfl) ?_
          refine r_val (.some rfl rfl) rfl (p_iaddr (k := 1) Try.underlying106 sz3 rfl rfl (by first | exact of_decide_eq_true rfl | omega)) ?_
          refine r_val (.some rfl rfl) rfl (p_ld (k := 1) Try.underlying3 rfl rfl rfl (by first | exact of_decide_eq_true rfl | omega) (rfl : _ = Value.int _ _)) ?_
          refine r_val (.some rfl rfl) rfl (p_ne rfl rfl) ?_
          refine r_val .none rfl (p_pick_t rfl rfl) ?_
          refine r_nil ?_
          refine e_next ?_
          refine c_splitd (d := 20) rfl (fun h_4 => ?_) (fun h_4 => ?_)
          ·
           first
            | (exfalso; omega)
            | (
             refine c_cond_t rfl ?_
             refine c_seq ?_
             refine c_region ?_
             refine r_val .none rfl (p_assign rfl) ?_
             refine r_nil ?_
             refine e_next ?_
             refine c_ret ?_
             refine e_ret_block ?_
             refine e_ret_then ?_
             refine e_ret_then ?_
             refine e_ret_block ?_
             refine e_ret_then ?_
             refine e_ret1 Try.results84 (.tmp rfl .nil) (fun w hm => ⟨?_, hm.since⟩)
             (simp [hasK, triL, at_] at *; try omega)
             )
          ·
           first
            | (exfalso; omega)
            | (
             refine c_cond_f rfl ?_
             refine c_skip ?_
             refine e_norm_block ?_
             refine e_next ?_
             refine c_region ?_
             refine r_val .none rfl (p_add rfl rfl (by omega)) ?_
             refine r_val .none rfl (p_move rfl) ?_
             refine r_nil ?_
             refine e_again ?_
             refine l_round (n := 1) ?_
             refine c_seq ?_
             refine c_region ?_
             refine r_val .none rfl (p_lt rfl rfl) ?_
             refine r_say (d := 9) (v := Value.bool true) rfl ?_
             refine r_nil ?_
             refine e_next ?_
             refine c_seq ?_
             refine c_cond_t rfl ?_
             refine c_skip ?_
             refine e_next ?_
             refine c_seq ?_
             refine c_block ?_
             refine c_seq ?_
             refine c_region ?_
             refine r_val .none rfl (p_move rfl) ?_
             refine r_val .none rfl (p_index (k := 2) Try.underlying106 Try.underlying3 rfl sz3 rfl (IsRow.lit _) rfl (by first | exact of_decide_eq_true rfl | omega) (rfl : _ = Value.int _ _)) ?_
             refine r_val .none rfl (p_assign rfl) ?_
             refine r_val .none rfl (p_assign rfl) ?_
             refine r_nil ?_
             refine e_next ?_
             refine c_seq ?_
             refine c_region ?_
             refine r_val .none rfl (p_move rfl) ?_
             refine r_val .none rfl (p_ne rfl rfl) ?_
             refine r_val .none rfl (p_move rfl) ?_
             refine r_splitd (d := 14) rfl (fun h_5 => ?_) (fun h_5 => ?_)
             ·
              first
               | (exfalso; omega)
               | (
                refine r_val (.some rfl rfl) rfl (p_move rfl) ?_
                refine r_val (.some rfl rfl) rfl (p_move rfl) ?_
                refine r_val (.some rfl rfl) rfl (p_iaddr (k := 2) Try.underlying106 sz3 rfl rfl (by first | exact of_decide_eq_true rfl | omega)) ?_
                refine r_val (.some rfl rfl) rfl (p_ld (k := 1) Try.underlying3 rfl rfl rfl (by first | exact of_decide_eq_true rfl | omega) (rfl : _ = Value.int _ _)) ?_
                refine r_val (.some rfl rfl) rfl (p_ne rfl rfl) ?_
                refine r_val .none rfl (p_pick_t rfl rfl) ?_
                refine r_nil ?_
                refine e_next ?_
                refine c_splitd (d := 20) rfl (fun h_6 => ?_) (fun h_6 => ?_)
                ·
                 first
                  | (exfalso; omega)
                  | (
                   refine c_cond_t rfl ?_
                   refine c_seq ?_
                   refine c_region ?_
                   refine r_val .none rfl (p_assign rfl) ?_
                   refine r_nil ?_
                   refine e_next ?_
                   refine c_ret ?_
                   refine e_ret_block ?_
                   refine e_ret_then ?_
                   refine e_ret_then ?_
                   refine e_ret_block ?_
                   refine e_ret_then ?_
                   refine e_ret1 Try.results84 (.tmp rfl .nil) (fun w hm => ⟨?_, hm.since⟩)
                   (simp [hasK, triL, at_] at *; try omega)
                   )
                ·
                 first
                  | (exfalso; omega)
                  | (
                   refine c_cond_f rfl ?_
                   refine c_skip ?_
                   refine e_norm_block ?_
                   refine e_next ?_
                   refine c_region ?_
                   refine r_val .none rfl (p_add rfl rfl (by omega)) ?_
                   refine r_val .none rfl (p_move rfl) ?_
                   refine r_nil ?_
                   refine e_again ?_
                   refine l_round (n := 0) ?_
                   refine c_seq ?_
                   refine c_region ?_
                   refine r_val .none rfl (p_lt rfl rfl) ?_
                   refine r_say (d := 9) (v := Value.bool false) rfl ?_
                   refine r_nil ?_
                   refine e_next ?_
                   refine c_seq ?_
                   refine c_cond_f rfl ?_
                   refine c_exit ?_
                   refine e_exit_then ?_
                   refine e_exit_then ?_
                   refine e_exit_block ?_
                   refine e_next ?_
                   refine c_seq ?_
                   refine c_region ?_
                   refine r_val .none rfl (p_assign rfl) ?_
                   refine r_nil ?_
                   refine e_next ?_
                   refine c_ret ?_
                   refine e_ret1 Try.results84 (.tmp rfl .nil) (fun w hm => ⟨?_, hm.since⟩)
                   (simp [hasK, triL, at_] at *; try omega)
                   )
                )
             ·
              first
               | (exfalso; omega)
               | (
                refine r_skip rfl (.no rfl rfl) ?_
                refine r_skip rfl (.no rfl rfl) ?_
                refine r_skip rfl (.no rfl rfl) ?_
                refine r_skip rfl (.no rfl rfl) ?_
                refine r_skip rfl (.no rfl rfl) ?_
                refine r_val .none rfl (p_pick_f rfl rfl) ?_
                refine r_nil ?_
                refine e_next ?_
                refine c_cond_f rfl ?_
                refine c_skip ?_
                refine e_norm_block ?_
                refine e_next ?_
                refine c_region ?_
                refine r_val .none rfl (p_add rfl rfl (by omega)) ?_
                refine r_val .none rfl (p_move rfl) ?_
                refine r_nil ?_
                refine e_again ?_
                refine l_round (n := 0) ?_
                refine c_seq ?_
                refine c_region ?_
                refine r_val .none rfl (p_lt rfl rfl) ?_
                refine r_say (d := 9) (v := Value.bool false) rfl ?_
                refine r_nil ?_
                refine e_next ?_
                refine c_seq ?_
                refine c_cond_f rfl ?_
                refine c_exit ?_
                refine e_exit_then ?_
                refine e_exit_then ?_
                refine e_exit_block ?_
                refine e_next ?_
                refine c_seq ?_
                refine c_region ?_
                refine r_val .none rfl (p_assign rfl) ?_
                refine r_nil ?_
                refine e_next ?_
                refine c_ret ?_
                refine e_ret1 Try.results84 (.tmp rfl .nil) (fun w hm => ⟨?_, hm.since⟩)
                (simp [hasK, triL, at_] at *; try omega)
                )
             )
          )
       ·
        first
         | (exfalso; omega)
         | (
          refine r_skip rfl (.no rfl rfl) ?_
          refine r_skip rfl (.no rfl rfl) ?_
          refine r_skip rfl (.no rfl rfl) ?_
          refine r_skip rfl (.no rfl rfl) ?_
          refine r_skip rfl (.no rfl rfl) ?_
          refine r_val .none rfl (p_pick_f rfl rfl) ?_
          refine r_nil ?_
          refine e_next ?_
          refine c_cond_f rfl ?_
          refine c_skip ?_
          refine e_norm_block ?_
          refine e_next ?_
          refine c_region ?_
          refine r_val .none rfl (p_add rfl rfl (by omega)) ?_
          refine r_val .none rfl (p_move rfl) ?_
          refine r_nil ?_
          refine e_again ?_
          refine l_round (n := 1) ?_
          refine c_seq ?_
          refine c_region ?_
          refine r_val .none rfl (p_lt rfl rfl) ?_
          refine r_say (d := 9) (v := Value.bool true) rfl ?_
          refine r_nil ?_
          refine e_next ?_
          refine c_seq ?_
          refine c_cond_t rfl ?_
          refine c_skip ?_
          refine e_next ?_
          refine c_seq ?_
          refine c_block ?_
          refine c_seq ?_
          refine c_region ?_
          refine r_val .none rfl (p_move rfl) ?_
          refine r_val .none rfl (p_index (k := 2) Try.underlying106 Try.underlying3 rfl sz3 rfl (IsRow.lit _) rfl (by first | exact of_decide_eq_true rfl | omega) (rfl : _ = Value.int _ _)) ?_
          refine r_val .none rfl (p_assign rfl) ?_
          refine r_val .none rfl (p_assign rfl) ?_
          refine r_nil ?_
          refine e_next ?_
          refine c_seq ?_
          refine c_region ?_
          refine r_val .none rfl (p_move rfl) ?_
          refine r_val .none rfl (p_ne rfl rfl) ?_
          refine r_val .none rfl (p_move rfl) ?_
          refine r_splitd (d := 14) rfl (fun h_7 => ?_) (fun h_7 => ?_)
          ·
           first
            | (exfalso; omega)
            | (
             refine r_val (.some rfl rfl) rfl (p_move rfl) ?_
             refine r_val (.some rfl rfl) rfl (p_move rfl) ?_
             refine r_val (.some rfl rfl) rfl (p_iaddr (k := 2) Try.underlying106 sz3 rfl rfl (by first | exact of_decide_eq_true rfl | omega)) ?_
             refine r_val (.some rfl rfl) rfl (p_ld (k := 1) Try.underlying3 rfl rfl rfl (by first | exact of_decide_eq_true rfl | omega) (rfl : _ = Value.int _ _)) ?_
             refine r_val (.some rfl rfl) rfl (p_ne rfl rfl) ?_
             refine r_val .none rfl (p_pick_t rfl rfl) ?_
             refine r_nil ?_
             refine e_next ?_
             refine c_splitd (d := 20) rfl (fun h_8 => ?_) (fun h_8 => ?_)
             ·
              first
               | (exfalso; omega)
               | (
                refine c_cond_t rfl ?_
                refine c_seq ?_
                refine c_region ?_
                refine r_val .none rfl (p_assign rfl) ?_
                refine r_nil ?_
                refine e_next ?_
                refine c_ret ?_
                refine e_ret_block ?_
                refine e_ret_then ?_
                refine e_ret_then ?_
                refine e_ret_block ?_
                refine e_ret_then ?_
                refine e_ret1 Try.results84 (.tmp rfl .nil) (fun w hm => ⟨?_, hm.since⟩)
                (simp [hasK, triL, at_] at *; try omega)
                )
             ·
              first
               | (exfalso; omega)
               | (
                refine c_cond_f rfl ?_
                refine c_skip ?_
                refine e_norm_block ?_
                refine e_next ?_
                refine c_region ?_
                refine r_val .none rfl (p_add rfl rfl (by omega)) ?_
                refine r_val .none rfl (p_move rfl) ?_
                refine r_nil ?_
                refine e_again ?_
                refine l_round (n := 0) ?_
                refine c_seq ?_
                refine c_region ?_
                refine r_val .none rfl (p_lt rfl rfl) ?_
                refine r_say (d := 9) (v := Value.bool false) rfl ?_
                refine r_nil ?_
                refine e_next ?_
                refine c_seq ?_
                refine c_cond_f rfl ?_
                refine c_exit ?_
                refine e_exit_then ?_
                refine e_exit_then ?_
                refine e_exit_block ?_
                refine e_next ?_
                refine c_seq ?_
                refine c_region ?_
                refine r_val .none rfl (p_assign rfl) ?_
                refine r_nil ?_
                refine e_next ?_
                refine c_ret ?_
                refine e_ret1 Try.results84 (.tmp rfl .nil) (fun w hm => ⟨?_, hm.since⟩)
                (simp [hasK, triL, at_] at *; try omega)
                )
             )
          ·
           first
            | (exfalso; omega)
            | (
             refine r_skip rfl (.no rfl rfl) ?_
             refine r_skip rfl (.no rfl rfl) ?_
             refine r_skip rfl (.no rfl rfl) ?_
             refine r_skip rfl (.no rfl rfl) ?_
             refine r_skip rfl (.no rfl rfl) ?_
             refine r_val .none rfl (p_pick_f rfl rfl) ?_
             refine r_nil ?_
             refine e_next ?_
             refine c_cond_f rfl ?_
             refine c_skip ?_
             refine e_norm_block ?_
             refine e_next ?_
             refine c_region ?_
             refine r_val .none rfl (p_add rfl rfl (by omega)) ?_
             refine r_val .none rfl (p_move rfl) ?_
             refine r_nil ?_
             refine e_again ?_
             refine l_round (n := 0) ?_
             refine c_seq ?_
             refine c_region ?_
             refine r_val .none rfl (p_lt rfl rfl) ?_
             refine r_say (d := 9) (v := Value.bool false) rfl ?_
             refine r_nil ?_
             refine e_next ?_
             refine c_seq ?_
             refine c_cond_f rfl ?_
             refine c_exit ?_
             refine e_exit_then ?_
             refine e_exit_then ?_
             refine e_exit_block ?_
             refine e_next ?_
             refine c_seq ?_
             refine c_region ?_
             refine r_val .none rfl (p_assign rfl) ?_
             refine r_nil ?_
             refine e_next ?_
             refine c_ret ?_
             refine e_ret1 Try.results84 (.tmp rfl .nil) (fun w hm => ⟨?_, hm.since⟩)
             (simp [hasK, triL, at_] at *; try omega)
             )
          )
       )
    )
 ·
  first
   | (exfalso; omega)
   | (
    refine r_skip rfl (.no rfl rfl) ?_
    refine r_skip rfl (.no rfl rfl) ?_
    refine r_skip rfl (.no rfl rfl) ?_
    refine r_skip rfl (.no rfl rfl) ?_
    refine r_skip rfl (.no rfl rfl) ?_
    refine r_val .none rfl (p_pick_f rfl rfl) ?_
    refine r_nil ?_
    refine e_next ?_
    refine c_cond_f rfl ?_
    refine c_skip ?_
    refine e_norm_block ?_
    refine e_next ?_
    refine c_region ?_
    refine r_val .none rfl (p_add rfl rfl (by omega)) ?_
    refine r_val .none rfl (p_move rfl) ?_
    refine r_nil ?_
    refine e_again ?_
    refine l_round (n := 2) ?_
    refine c_seq ?_
    refine c_region ?_
    refine r_val .none rfl (p_lt rfl rfl) ?_
    refine r_say (d := 9) (v := Value.bool true) rfl ?_
    refine r_nil ?_
    refine e_next ?_
    refine c_seq ?_
    refine c_cond_t rfl ?_
    refine c_skip ?_
    refine e_next ?_
    refine c_seq ?_
    refine c_block ?_
    refine c_seq ?_
    refine c_region ?_
    refine r_val .none rfl (p_move rfl) ?_
    refine r_val .none rfl (p_index (k := 1) Try.underlying106 Try.underlying3 rfl sz3 rfl (IsRow.lit _) rfl (by first | exact of_decide_eq_true rfl | omega) (rfl : _ = Value.int _ _)) ?_
    refine r_val .none rfl (p_assign rfl) ?_
    refine r_val .none rfl (p_assign rfl) ?_
    refine r_nil ?_
    refine e_next ?_
    refine c_seq ?_
    refine c_region ?_
    refine r_val .none rfl (p_move rfl) ?_
    refine r_val .none rfl (p_ne rfl rfl) ?_
    refine r_val .none rfl (p_move rfl) ?_
    refine r_splitd (d := 14) rfl (fun h_9 => ?_) (fun h_9 => ?_)
    ·
     first
      | (exfalso; omega)
      | (
       refine r_val (.some rfl rfl) rfl (p_move rfl) ?_
       refine r_val (.some rfl rfl) rfl (p_move rfl) ?_
       refine r_val (.some rfl rfl) rfl (p_iaddr (k := 1) Try.underlying106 sz3 rfl rfl (by first | exact of_decide_eq_true rfl | omega)) ?_
       refine r_val (.some rfl rfl) rfl (p_ld (k := 1) Try.underlying3 rfl rfl rfl (by first | exact of_decide_eq_true rfl | omega) (rfl : _ = Value.int _ _)) ?_
       refine r_val (.some rfl rfl) rfl (p_ne rfl rfl) ?_
       refine r_val .none rfl (p_pick_t rfl rfl) ?_
       refine r_nil ?_
       refine e_next ?_
       refine c_splitd (d := 20) rfl (fun h_10 => ?_) (fun h_10 => ?_)
       ·
        first
         | (exfalso; omega)
         | (
          refine c_cond_t rfl ?_
          refine c_seq ?_
          refine c_region ?_
          refine r_val .none rfl (p_assign rfl) ?_
          refine r_nil ?_
          refine e_next ?_
          refine c_ret ?_
          refine e_ret_block ?_
          refine e_ret_then ?_
          refine e_ret_then ?_
          refine e_ret_block ?_
          refine e_ret_then ?_
          refine e_ret1 Try.results84 (.tmp rfl .nil) (fun w hm => ⟨?_, hm.since⟩)
          (simp [hasK, triL, at_] at *; try omega)
          )
       ·
        first
         | (exfalso; omega)
         | (
          refine c_cond_f rfl ?_
          refine c_skip ?_
          refine e_norm_block ?_
          refine e_next ?_
          refine c_region ?_
          refine r_val .none rfl (p_add rfl rfl (by omega)) ?_
          refine r_val .none rfl (p_move rfl) ?_
          refine r_nil ?_
          refine e_again ?_
          refine l_round (n := 1) ?_
          refine c_seq ?_
          refine c_region ?_
          refine r_val .none rfl (p_lt rfl rfl) ?_
          refine r_say (d := 9) (v := Value.bool true) rfl ?_
          refine r_nil ?_
          refine e_next ?_
          refine c_seq ?_
          refine c_cond_t rfl ?_
          refine c_skip ?_
          refine e_next ?_
          refine c_seq ?_
          refine c_block ?_
          refine c_seq ?_
          refine c_region ?_
          refine r_val .none rfl (p_move rfl) ?_
          refine r_val .none rfl (p_index (k := 2) Try.underlying106 Try.underlying3 rfl sz3 rfl (IsRow.lit _) rfl (by first | exact of_decide_eq_true rfl | omega) (rfl : _ = Value.int _ _)) ?_
          refine r_val .none rfl (p_assign rfl) ?_
          refine r_val .none rfl (p_assign rfl) ?_
          refine r_nil ?_
          refine e_next ?_
          refine c_seq ?_
          refine c_region ?_
          refine r_val .none rfl (p_move rfl) ?_
          refine r_val .none rfl (p_ne rfl rfl) ?_
          refine r_val .none rfl (p_move rfl) ?_
          refine r_splitd (d := 14) rfl (fun h_11 => ?_) (fun h_11 => ?_)
          ·
           first
            | (exfalso; omega)
            | (
             refine r_val (.some rfl rfl) rfl (p_move rfl) ?_
             refine r_val (.some rfl rfl) rfl (p_move rfl) ?_
             refine r_val (.some rfl rfl) rfl (p_iaddr (k := 2) Try.underlying106 sz3 rfl rfl (by first | exact of_decide_eq_true rfl | omega)) ?_
             refine r_val (.some rfl rfl) rfl (p_ld (k := 1) Try.underlying3 rfl rfl rfl (by first | exact of_decide_eq_true rfl | omega) (rfl : _ = Value.int _ _)) ?_
             refine r_val (.some rfl rfl) rfl (p_ne rfl rfl) ?_
             refine r_val .none rfl (p_pick_t rfl rfl) ?_
             refine r_nil ?_
             refine e_next ?_
             refine c_splitd (d := 20) rfl (fun h_12 => ?_) (fun h_12 => ?_)
             ·
              first
               | (exfalso; omega)
               | (
                refine c_cond_t rfl ?_
                refine c_seq ?_
                refine c_region ?_
                refine r_val .none rfl (p_assign rfl) ?_
                refine r_nil ?_
                refine e_next ?_
                refine c_ret ?_
                refine e_ret_block ?_
                refine e_ret_then ?_
                refine e_ret_then ?_
                refine e_ret_block ?_
                refine e_ret_then ?_
                refine e_ret1 Try.results84 (.tmp rfl .nil) (fun w hm => ⟨?_, hm.since⟩)
                (simp [hasK, triL, at_] at *; try omega)
                )
             ·
              first
               | (exfalso; omega)
               | (
                refine c_cond_f rfl ?_
                refine c_skip ?_
                refine e_norm_block ?_
                refine e_next ?_
                refine c_region ?_
                refine r_val .none rfl (p_add rfl rfl (by omega)) ?_
                refine r_val .none rfl (p_move rfl) ?_
                refine r_nil ?_
                refine e_again ?_
                refine l_round (n := 0) ?_
                refine c_seq ?_
                refine c_region ?_
                refine r_val .none rfl (p_lt rfl rfl) ?_
                refine r_say (d := 9) (v := Value.bool false) rfl ?_
                refine r_nil ?_
                refine e_next ?_
                refine c_seq ?_
                refine c_cond_f rfl ?_
                refine c_exit ?_
                refine e_exit_then ?_
                refine e_exit_then ?_
                refine e_exit_block ?_
                refine e_next ?_
                refine c_seq ?_
                refine c_region ?_
                refine r_val .none rfl (p_assign rfl) ?_
                refine r_nil ?_
                refine e_next ?_
                refine c_ret ?_
                refine e_ret1 Try.results84 (.tmp rfl .nil) (fun w hm => ⟨?_, hm.since⟩)
                (simp [hasK, triL, at_] at *; try omega)
                )
             )
          ·
           first
            | (exfalso; omega)
            | (
             refine r_skip rfl (.no rfl rfl) ?_
             refine r_skip rfl (.no rfl rfl) ?_
             refine r_skip rfl (.no rfl rfl) ?_
             refine r_skip rfl (.no rfl rfl) ?_
             refine r_skip rfl (.no rfl rfl) ?_
             refine r_val .none rfl (p_pick_f rfl rfl) ?_
             refine r_nil ?_
             refine e_next ?_
             refine c_cond_f rfl ?_
             refine c_skip ?_
             refine e_norm_block ?_
             refine e_next ?_
             refine c_region ?_
             refine r_val .none rfl (p_add rfl rfl (by omega)) ?_
             refine r_val .none rfl (p_move rfl) ?_
             refine r_nil ?_
             refine e_again ?_
             refine l_round (n := 0) ?_
             refine c_seq ?_
             refine c_region ?_
             refine r_val .none rfl (p_lt rfl rfl) ?_
             refine r_say (d := 9) (v := Value.bool false) rfl ?_
             refine r_nil ?_
             refine e_next ?_
             refine c_seq ?_
             refine c_cond_f rfl ?_
             refine c_exit ?_
             refine e_exit_then ?_
             refine e_exit_then ?_
             refine e_exit_block ?_
             refine e_next ?_
             refine c_seq ?_
             refine c_region ?_
             refine r_val .none rfl (p_assign rfl) ?_
             refine r_nil ?_
             refine e_next ?_
             refine c_ret ?_
             refine e_ret1 Try.results84 (.tmp rfl .nil) (fun w hm => ⟨?_, hm.since⟩)
             (simp [hasK, triL, at_] at *; try omega)
             )
          )
       )
    ·
     first
      | (exfalso; omega)
      | (
       refine r_skip rfl (.no rfl rfl) ?_
       refine r_skip rfl (.no rfl rfl) ?_
       refine r_skip rfl (.no rfl rfl) ?_
       refine r_skip rfl (.no rfl rfl) ?_
       refine r_skip rfl (.no rfl rfl) ?_
       refine r_val .none rfl (p_pick_f rfl rfl) ?_
       refine r_nil ?_
       refine e_next ?_
       refine c_cond_f rfl ?_
       refine c_skip ?_
       refine e_norm_block ?_
       refine e_next ?_
       refine c_region ?_
       refine r_val .none rfl (p_add rfl rfl (by omega)) ?_
       refine r_val .none rfl (p_move rfl) ?_
       refine r_nil ?_
       refine e_again ?_
       refine l_round (n := 1) ?_
       refine c_seq ?_
       refine c_region ?_
       refine r_val .none rfl (p_lt rfl rfl) ?_
       refine r_say (d := 9) (v := Value.bool true) rfl ?_
       refine r_nil ?_
       refine e_next ?_
       refine c_seq ?_
       refine c_cond_t rfl ?_
       refine c_skip ?_
       refine e_next ?_
       refine c_seq ?_
       refine c_block ?_
       refine c_seq ?_
       refine c_region ?_
       refine r_val .none rfl (p_move rfl) ?_
       refine r_val .none rfl (p_index (k := 2) Try.underlying106 Try.underlying3 rfl sz3 rfl (IsRow.lit _) rfl (by first | exact of_decide_eq_true rfl | omega) (rfl : _ = Value.int _ _)) ?_
       refine r_val .none rfl (p_assign rfl) ?_
       refine r_val .none rfl (p_assign rfl) ?_
       refine r_nil ?_
       refine e_next ?_
       refine c_seq ?_
       refine c_region ?_
       refine r_val .none rfl (p_move rfl) ?_
       refine r_val .none rfl (p_ne rfl rfl) ?_
       refine r_val .none rfl (p_move rfl) ?_
       refine r_splitd (d := 14) rfl (fun h_13 => ?_) (fun h_13 => ?_)
       ·
        first
         | (exfalso; omega)
         | (
          refine r_val (.some rfl rfl) rfl (p_move rfl) ?_
          refine r_val (.some rfl rfl) rfl (p_move rfl) ?_
          refine r_val (.some rfl rfl) rfl (p_iaddr (k := 2) Try.underlying106 sz3 rfl rfl (by first | exact of_decide_eq_true rfl | omega)) ?_
          refine r_val (.some rfl rfl) rfl (p_ld (k := 1) Try.underlying3 rfl rfl rfl (by first | exact of_decide_eq_true rfl | omega) (rfl : _ = Value.int _ _)) ?_
          refine r_val (.some rfl rfl) rfl (p_ne rfl rfl) ?_
          refine r_val .none rfl (p_pick_t rfl rfl) ?_
          refine r_nil ?_
          refine e_next ?_
          refine c_splitd (d := 20) rfl (fun h_14 => ?_) (fun h_14 => ?_)
          ·
           first
            | (exfalso; omega)
            | (
             refine c_cond_t rfl ?_
             refine c_seq ?_
             refine c_region ?_
             refine r_val .none rfl (p_assign rfl) ?_
             refine r_nil ?_
             refine e_next ?_
             refine c_ret ?_
             refine e_ret_block ?_
             refine e_ret_then ?_
             refine e_ret_then ?_
             refine e_ret_block ?_
             refine e_ret_then ?_
             refine e_ret1 Try.results84 (.tmp rfl .nil) (fun w hm => ⟨?_, hm.since⟩)
             (simp [hasK, triL, at_] at *; try omega)
             )
          ·
           first
            | (exfalso; omega)
            | (
             refine c_cond_f rfl ?_
             refine c_skip ?_
             refine e_norm_block ?_
             refine e_next ?_
             refine c_region ?_
             refine r_val .none rfl (p_add rfl rfl (by omega)) ?_
             refine r_val .none rfl (p_move rfl) ?_
             refine r_nil ?_
             refine e_again ?_
             refine l_round (n := 0) ?_
             refine c_seq ?_
             refine c_region ?_
             refine r_val .none rfl (p_lt rfl rfl) ?_
             refine r_say (d := 9) (v := Value.bool false) rfl ?_
             refine r_nil ?_
             refine e_next ?_
             refine c_seq ?_
             refine c_cond_f rfl ?_
             refine c_exit ?_
             refine e_exit_then ?_
             refine e_exit_then ?_
             refine e_exit_block ?_
             refine e_next ?_
             refine c_seq ?_
             refine c_region ?_
             refine r_val .none rfl (p_assign rfl) ?_
             refine r_nil ?_
             refine e_next ?_
             refine c_ret ?_
             refine e_ret1 Try.results84 (.tmp rfl .nil) (fun w hm => ⟨?_, hm.since⟩)
             (simp [hasK, triL, at_] at *; try omega)
             )
          )
       ·
        first
         | (exfalso; omega)
         | (
          refine r_skip rfl (.no rfl rfl) ?_
          refine r_skip rfl (.no rfl rfl) ?_
          refine r_skip rfl (.no rfl rfl) ?_
          refine r_skip rfl (.no rfl rfl) ?_
          refine r_skip rfl (.no rfl rfl) ?_
          refine r_val .none rfl (p_pick_f rfl rfl) ?_
          refine r_nil ?_
          refine e_next ?_
          refine c_cond_f rfl ?_
          refine c_skip ?_
          refine e_norm_block ?_
          refine e_next ?_
          refine c_region ?_
          refine r_val .none rfl (p_add rfl rfl (by omega)) ?_
          refine r_val .none rfl (p_move rfl) ?_
          refine r_nil ?_
          refine e_again ?_
          refine l_round (n := 0) ?_
          refine c_seq ?_
          refine c_region ?_
          refine r_val .none rfl (p_lt rfl rfl) ?_
          refine r_say (d := 9) (v := Value.bool false) rfl ?_
          refine r_nil ?_
          refine e_next ?_
          refine c_seq ?_
          refine c_cond_f rfl ?_
          refine c_exit ?_
          refine e_exit_then ?_
          refine e_exit_then ?_
          refine e_exit_block ?_
          refine e_next ?_
          refine c_seq ?_
          refine c_region ?_
          refine r_val .none rfl (p_assign rfl) ?_
          refine r_nil ?_
          refine e_next ?_
          refine c_ret ?_
          refine e_ret1 Try.results84 (.tmp rfl .nil) (fun w hm => ⟨?_, hm.since⟩)
          (simp [hasK, triL, at_] at *; try omega)
          )
       )
    )
theorem c_holds00 (b : Int) (vb : Value) (bs : List Tri) (t : Tri) {G : Ghost} (hb : SlL G vb 3 triL z3 bs) (w : World) (hG : Has G w) :
  Calls Try.prog 85 #[Value.agg #[Value.int .i64 0, Value.int .i64 b, Value.int .i64 0], vb, kT t] w (Ret fun r w' => r = Value.bool (holdsT (0, b, 0) bs t) ∧ Since nX w w') := by
 refine enter (args := [_, _, _]) (X := nX) (G := G) (l := [(0, Value.agg #[Value.int .i64 0, Value.int .i64 b, Value.int .i64 0]), (1, vb), (2, kT t)]) Try.func85 rfl Try.ntmps85 hG ⟨rfl, rfl, rfl, trivial⟩ (Nat.le_of_ble_eq_true rfl) ?_
 refine c_seq ?_
 refine c_region ?_
 refine r_box .none rfl rfl (IsRow.lit _) (fun b_1 => ?_)
 refine r_box .none rfl rfl (IsRow.lit _) (fun b_2 => ?_)
 refine r_val .none rfl (p_assign rfl) ?_
 refine r_nil ?_
 refine e_next ?_
 refine c_seq ?_
 refine c_region ?_
 refine r_val .none rfl (p_ldw (k := 0) Try.underlying106 rfl sz106 rfl rfl (rfl : _ = Value.agg #[_, _, _])) ?_
 refine r_alloc .none rfl zr106 (IsRow.lit _) (fun b_3 => ?_)
 refine r_stw (k := 0) .none sz106 rfl rfl (IsRow.lit _) (one_lit rfl rfl) rfl ?_
 refine r_nil ?_
 refine e_next ?_
 refine c_seq ?_
 refine c_seq ?_
 refine c_region ?_
 refine r_val .none rfl (p_field Try.underlying141 rfl sz3 rfl) ?_
 refine r_val .none rfl (p_ld (k := 2) Try.underlying3 rfl rfl rfl (by first | exact of_decide_eq_true rfl | omega) (rfl : _ = Value.int _ _)) ?_
 refine r_val .none rfl (p_move rfl) ?_
 refine r_val .none rfl (p_leng Try.underlying70 rfl hb) ?_
 have bd_1 := (hb).bound
 refine r_val .none rfl (p_ge rfl rfl) ?_
 refine r_nil ?_
 refine e_next ?_
 refine c_splitd (d := 13) rfl (fun h_2 => ?_) (fun h_2 => ?_)
 ·
  first
   | (exfalso; omega)
   | (
    refine c_cond_t rfl ?_
    refine c_seq ?_
    refine c_region ?_
    refine r_val .none rfl (p_assign rfl) ?_
    refine r_nil ?_
    refine e_next ?_
    refine c_ret ?_
    refine e_ret_then ?_
    refine e_ret1 Try.results85 (.tmp rfl .nil) (fun w hm => ⟨?_, hm.since⟩)
    first
    | (rw [holds_out (by omega)]; done)
    | (rw [holds_back (by omega)]; rfl)
    | (rw [holds_own (by omega)]; rfl)
    )
 ·
  first
   | (exfalso; omega)
   | (
    refine c_cond_f rfl ?_
    refine c_skip ?_
    refine e_next ?_
    refine c_seq ?_
    refine c_seq ?_
    refine c_region ?_
    refine r_val .none rfl (p_field Try.underlying141 rfl sz3 rfl) ?_
    refine r_val .none rfl (p_ld (k := 2) Try.underlying3 rfl rfl rfl (by first | exact of_decide_eq_true rfl | omega) (rfl : _ = Value.int _ _)) ?_
    refine r_val .none rfl (p_ge rfl rfl) ?_
    refine r_nil ?_
    refine e_next ?_
    refine c_splitd (d := 16) rfl (fun h_3 => ?_) (fun h_3 => ?_)
    ·
     first
      | (exfalso; omega)
      | (
       refine c_cond_t rfl ?_
       refine c_region ?_
       refine r_val .none rfl (p_move rfl) ?_
       refine r_val .none rfl (p_field Try.underlying141 rfl sz3 rfl) ?_
       refine r_val .none rfl (p_ld (k := 2) Try.underlying3 rfl rfl rfl (by first | exact of_decide_eq_true rfl | omega) (rfl : _ = Value.int _ _)) ?_
       obtain ⟨bn, rfl⟩ : ∃ bn : Nat, b = (bn : Int) := ⟨b.toNat, by omega⟩
       refine r_iaddr_g .none rfl Try.underlying70 sz106 rfl hb rfl (by first | exact of_decide_eq_true rfl | omega) (fun p_5 o_6 R_4 => ?_)
       refine r_val .none rfl (p_ldga0 Try.underlying106 rfl sz106 rfl R_4 (by first | exact of_decide_eq_true rfl | omega) (rfl : _ = Value.agg #[_, _, _])) ?_
       refine r_stw (k := 0) .none sz106 rfl rfl (IsRow.lit _) (one_lit rfl rfl) rfl ?_
       refine r_nil ?_
       refine e_next ?_
       refine c_seq ?_
       refine c_region_q mixed (by kernel_rfl) ?_
       refine q_val .none rfl (p_field Try.underlying141 rfl sz3 rfl) ?_
       refine q_val .none rfl (p_ld (k := 2) Try.underlying3 rfl rfl rfl (by first | exact of_decide_eq_true rfl | omega) (rfl : _ = Value.int _ _)) ?_
       refine q_val .none rfl (p_iaddr (k := 0) Try.underlying106 sz3 rfl rfl (by first | exact of_decide_eq_true rfl | omega)) ?_
       refine q_val .none rfl (p_ld (k := 1) Try.underlying3 rfl rfl rfl (by first | exact of_decide_eq_true rfl | omega) (rfl : _ = Value.int _ _)) ?_
       refine q_val .none rfl (p_field Try.underlying141 rfl sz3 rfl) ?_
       refine q_val .none rfl (p_ld (k := 2) Try.underlying3 rfl rfl rfl (by first | exact of_decide_eq_true rfl | omega) (rfl : _ = Value.int _ _)) ?_
       refine q_val .none rfl (p_iaddr (k := 0) Try.underlying106 sz3 rfl rfl (by first | exact of_decide_eq_true rfl | omega)) ?_
       refine q_val .none rfl (p_ld (k := 0) Try.underlying3 rfl rfl rfl (by first | exact of_decide_eq_true rfl | omega) (rfl : _ = Value.int _ _)) ?_
       refine q_val .none rfl (p_eq rfl rfl) ?_
       refine q_val .none rfl (p_assign rfl) ?_
       refine q_nil ?_
       refine e_next ?_
       refine c_ret ?_
       refine e_ret1 Try.results85 (.tmp rfl .nil) (fun w hm => ⟨?_, hm.since⟩)
       first
       | (rw [holds_out (by omega)]; done)
       | (rw [holds_back (by omega)]; rfl)
       | (rw [holds_own (by omega)]; rfl)
       )
    ·
     first
      | (exfalso; omega)
      | (
       refine c_cond_f rfl ?_
       refine c_skip ?_
       refine e_next ?_
       refine c_seq ?_
       refine c_region_q mixed (by kernel_rfl) ?_
       refine q_val .none rfl (p_field Try.underlying141 rfl sz3 rfl) ?_
       refine q_val .none rfl (p_ld (k := 2) Try.underlying3 rfl rfl rfl (by first | exact of_decide_eq_true rfl | omega) (rfl : _ = Value.int _ _)) ?_
       refine q_val .none rfl (p_iaddr (k := 0) Try.underlying106 sz3 rfl rfl (by first | exact of_decide_eq_true rfl | omega)) ?_
       refine q_val .none rfl (p_ld (k := 1) Try.underlying3 rfl rfl rfl (by first | exact of_decide_eq_true rfl | omega) (rfl : _ = Value.int _ _)) ?_
       refine q_val .none rfl (p_field Try.underlying141 rfl sz3 rfl) ?_
       refine q_val .none rfl (p_ld (k := 2) Try.underlying3 rfl rfl rfl (by first | exact of_decide_eq_true rfl | omega) (rfl : _ = Value.int _ _)) ?_
       refine q_val .none rfl (p_iaddr (k := 0) Try.underlying106 sz3 rfl rfl (by first | exact of_decide_eq_true rfl | omega)) ?_
       refine q_val .none rfl (p_ld (k := 0) Try.underlying3 rfl rfl rfl (by first | exact of_decide_eq_true rfl | omega) (rfl : _ = Value.int _ _)) ?_
       refine q_val .none rfl (p_eq rfl rfl) ?_
       refine q_val .none rfl (p_assign rfl) ?_
       refine q_nil ?_
       refine e_next ?_
       refine c_ret ?_
       refine e_ret1 Try.results85 (.tmp rfl .nil) (fun w hm => ⟨?_, hm.since⟩)
       first
       | (rw [holds_out (by omega)]; done)
       | (rw [holds_back (by omega)]; rfl)
       | (rw [holds_own (by omega)]; rfl)
       )
    )
theorem c_holds01 (b : Int) (vb : Value) (bs : List Tri) (t : Tri) {G : Ghost} (hb : SlL G vb 3 triL z3 bs) (w : World) (hG : Has G w) :
  Calls Try.prog 85 #[Value.agg #[Value.int .i64 0, Value.int .i64 b, Value.int .i64 1], vb, kT t] w (Ret fun r w' => r = Value.bool (holdsT (0, b, 1) bs t) ∧ Since nX w w') := by
 refine enter (args := [_, _, _]) (X := nX) (G := G) (l := [(0, Value.agg #[Value.int .i64 0, Value.int .i64 b, Value.int .i64 1]), (1, vb), (2, kT t)]) Try.func85 rfl Try.ntmps85 hG ⟨rfl, rfl, rfl, trivial⟩ (Nat.le_of_ble_eq_true rfl) ?_
 refine c_seq ?_
 refine c_region ?_
 refine r_box .none rfl rfl (IsRow.lit _) (fun b_1 => ?_)
 refine r_box .none rfl rfl (IsRow.lit _) (fun b_2 => ?_)
 refine r_val .none rfl (p_assign rfl) ?_
 refine r_nil ?_
 refine e_next ?_
 refine c_seq ?_
 refine c_region ?_
 refine r_val .none rfl (p_ldw (k := 0) Try.underlying106 rfl sz106 rfl rfl (rfl : _ = Value.agg #[_, _, _])) ?_
 refine r_alloc .none rfl zr106 (IsRow.lit _) (fun b_3 => ?_)
 refine r_stw (k := 0) .none sz106 rfl rfl (IsRow.lit _) (one_lit rfl rfl) rfl ?_
 refine r_nil ?_
 refine e_next ?_
 refine c_seq ?_
 refine c_seq ?_
 refine c_region ?_
 refine r_val .none rfl (p_field Try.underlying141 rfl sz3 rfl) ?_
 refine r_val .none rfl (p_ld (k := 2) Try.underlying3 rfl rfl rfl (by first | exact of_decide_eq_true rfl | omega) (rfl : _ = Value.int _ _)) ?_
 refine r_val .none rfl (p_move rfl) ?_
 refine r_val .none rfl (p_leng Try.underlying70 rfl hb) ?_
 have bd_1 := (hb).bound
 refine r_val .none rfl (p_ge rfl rfl) ?_
 refine r_nil ?_
 refine e_next ?_
 refine c_splitd (d := 13) rfl (fun h_2 => ?_) (fun h_2 => ?_)
 ·
  first
   | (exfalso; omega)
   | (
    refine c_cond_t rfl ?_
    refine c_seq ?_
    refine c_region ?_
    refine r_val .none rfl (p_assign rfl) ?_
    refine r_nil ?_
    refine e_next ?_
    refine c_ret ?_
    refine e_ret_then ?_
    refine e_ret1 Try.results85 (.tmp rfl .nil) (fun w hm => ⟨?_, hm.since⟩)
    first
    | (rw [holds_out (by omega)]; done)
    | (rw [holds_back (by omega)]; rfl)
    | (rw [holds_own (by omega)]; rfl)
    )
 ·
  first
   | (exfalso; omega)
   | (
    refine c_cond_f rfl ?_
    refine c_skip ?_
    refine e_next ?_
    refine c_seq ?_
    refine c_seq ?_
    refine c_region ?_
    refine r_val .none rfl (p_field Try.underlying141 rfl sz3 rfl) ?_
    refine r_val .none rfl (p_ld (k := 2) Try.underlying3 rfl rfl rfl (by first | exact of_decide_eq_true rfl | omega) (rfl : _ = Value.int _ _)) ?_
    refine r_val .none rfl (p_ge rfl rfl) ?_
    refine r_nil ?_
    refine e_next ?_
    refine c_splitd (d := 16) rfl (fun h_3 => ?_) (fun h_3 => ?_)
    ·
     first
      | (exfalso; omega)
      | (
       refine c_cond_t rfl ?_
       refine c_region ?_
       refine r_val .none rfl (p_move rfl) ?_
       refine r_val .none rfl (p_field Try.underlying141 rfl sz3 rfl) ?_
       refine r_val .none rfl (p_ld (k := 2) Try.underlying3 rfl rfl rfl (by first | exact of_decide_eq_true rfl | omega) (rfl : _ = Value.int _ _)) ?_
       obtain ⟨bn, rfl⟩ : ∃ bn : Nat, b = (bn : Int) := ⟨b.toNat, by omega⟩
       refine r_iaddr_g .none rfl Try.underlying70 sz106 rfl hb rfl (by first | exact of_decide_eq_true rfl | omega) (fun p_5 o_6 R_4 => ?_)
       refine r_val .none rfl (p_ldga0 Try.underlying106 rfl sz106 rfl R_4 (by first | exact of_decide_eq_true rfl | omega) (rfl : _ = Value.agg #[_, _, _])) ?_
       refine r_stw (k := 0) .none sz106 rfl rfl (IsRow.lit _) (one_lit rfl rfl) rfl ?_
       refine r_nil ?_
       refine e_next ?_
       refine c_seq ?_
       refine c_region_q mixed (by kernel_rfl) ?_
       refine q_val .none rfl (p_field Try.underlying141 rfl sz3 rfl) ?_
       refine q_val .none rfl (p_ld (k := 2) Try.underlying3 rfl rfl rfl (by first | exact of_decide_eq_true rfl | omega) (rfl : _ = Value.int _ _)) ?_
       refine q_val .none rfl (p_iaddr (k := 0) Try.underlying106 sz3 rfl rfl (by first | exact of_decide_eq_true rfl | omega)) ?_
       refine q_val .none rfl (p_ld (k := 1) Try.underlying3 rfl rfl rfl (by first | exact of_decide_eq_true rfl | omega) (rfl : _ = Value.int _ _)) ?_
       refine q_val .none rfl (p_field Try.underlying141 rfl sz3 rfl) ?_
       refine q_val .none rfl (p_ld (k := 2) Try.underlying3 rfl rfl rfl (by first | exact of_decide_eq_true rfl | omega) (rfl : _ = Value.int _ _)) ?_
       refine q_val .none rfl (p_iaddr (k := 1) Try.underlying106 sz3 rfl rfl (by first | exact of_decide_eq_true rfl | omega)) ?_
       refine q_val .none rfl (p_ld (k := 0) Try.underlying3 rfl rfl rfl (by first | exact of_decide_eq_true rfl | omega) (rfl : _ = Value.int _ _)) ?_
       refine q_val .none rfl (p_eq rfl rfl) ?_
       refine q_val .none rfl (p_assign rfl) ?_
       refine q_nil ?_
       refine e_next ?_
       refine c_ret ?_
       refine e_ret1 Try.results85 (.tmp rfl .nil) (fun w hm => ⟨?_, hm.since⟩)
       first
       | (rw [holds_out (by omega)]; done)
       | (rw [holds_back (by omega)]; rfl)
       | (rw [holds_own (by omega)]; rfl)
       )
    ·
     first
      | (exfalso; omega)
      | (
       refine c_cond_f rfl ?_
       refine c_skip ?_
       refine e_next ?_
       refine c_seq ?_
       refine c_region_q mixed (by kernel_rfl) ?_
       refine q_val .none rfl (p_field Try.underlying141 rfl sz3 rfl) ?_
       refine q_val .none rfl (p_ld (k := 2) Try.underlying3 rfl rfl rfl (by first | exact of_decide_eq_true rfl | omega) (rfl : _ = Value.int _ _)) ?_
       refine q_val .none rfl (p_iaddr (k := 0) Try.underlying106 sz3 rfl rfl (by first | exact of_decide_eq_true rfl | omega)) ?_
       refine q_val .none rfl (p_ld (k := 1) Try.underlying3 rfl rfl rfl (by first | exact of_decide_eq_true rfl | omega) (rfl : _ = Value.int _ _)) ?_
       refine q_val .none rfl (p_field Try.underlying141 rfl sz3 rfl) ?_
       refine q_val .none rfl (p_ld (k := 2) Try.underlying3 rfl rfl rfl (by first | exact of_decide_eq_true rfl | omega) (rfl : _ = Value.int _ _)) ?_
       refine q_val .none rfl (p_iaddr (k := 1) Try.underlying106 sz3 rfl rfl (by first | exact of_decide_eq_true rfl | omega)) ?_
       refine q_val .none rfl (p_ld (k := 0) Try.underlying3 rfl rfl rfl (by first | exact of_decide_eq_true rfl | omega) (rfl : _ = Value.int _ _)) ?_
       refine q_val .none rfl (p_eq rfl rfl) ?_
       refine q_val .none rfl (p_assign rfl) ?_
       refine q_nil ?_
       refine e_next ?_
       refine c_ret ?_
       refine e_ret1 Try.results85 (.tmp rfl .nil) (fun w hm => ⟨?_, hm.since⟩)
       first
       | (rw [holds_out (by omega)]; done)
       | (rw [holds_back (by omega)]; rfl)
       | (rw [holds_own (by omega)]; rfl)
       )
    )
theorem c_holds02 (b : Int) (vb : Value) (bs : List Tri) (t : Tri) {G : Ghost} (hb : SlL G vb 3 triL z3 bs) (w : World) (hG : Has G w) :
  Calls Try.prog 85 #[Value.agg #[Value.int .i64 0, Value.int .i64 b, Value.int .i64 2], vb, kT t] w (Ret fun r w' => r = Value.bool (holdsT (0, b, 2) bs t) ∧ Since nX w w') := by
 refine enter (args := [_, _, _]) (X := nX) (G := G) (l := [(0, Value.agg #[Value.int .i64 0, Value.int .i64 b, Value.int .i64 2]), (1, vb), (2, kT t)]) Try.func85 rfl Try.ntmps85 hG ⟨rfl, rfl, rfl, trivial⟩ (Nat.le_of_ble_eq_true rfl) ?_
 refine c_seq ?_
 refine c_region ?_
 refine r_box .none rfl rfl (IsRow.lit _) (fun b_1 => ?_)
 refine r_box .none rfl rfl (IsRow.lit _) (fun b_2 => ?_)
 refine r_val .none rfl (p_assign rfl) ?_
 refine r_nil ?_
 refine e_next ?_
 refine c_seq ?_
 refine c_region ?_
 refine r_val .none rfl (p_ldw (k := 0) Try.underlying106 rfl sz106 rfl rfl (rfl : _ = Value.agg #[_, _, _])) ?_
 refine r_alloc .none rfl zr106 (IsRow.lit _) (fun b_3 => ?_)
 refine r_stw (k := 0) .none sz106 rfl rfl (IsRow.lit _) (one_lit rfl rfl) rfl ?_
 refine r_nil ?_
 refine e_next ?_
 refine c_seq ?_
 refine c_seq ?_
 refine c_region ?_
 refine r_val .none rfl (p_field Try.underlying141 rfl sz3 rfl) ?_
 refine r_val .none rfl (p_ld (k := 2) Try.underlying3 rfl rfl rfl (by first | exact of_decide_eq_true rfl | omega) (rfl : _ = Value.int _ _)) ?_
 refine r_val .none rfl (p_move rfl) ?_
 refine r_val .none rfl (p_leng Try.underlying70 rfl hb) ?_
 have bd_1 := (hb).bound
 refine r_val .none rfl (p_ge rfl rfl) ?_
 refine r_nil ?_
 refine e_next ?_
 refine c_splitd (d := 13) rfl (fun h_2 => ?_) (fun h_2 => ?_)
 ·
  first
   | (exfalso; omega)
   | (
    refine c_cond_t rfl ?_
    refine c_seq ?_
    refine c_region ?_
    refine r_val .none rfl (p_assign rfl) ?_
    refine r_nil ?_
    refine e_next ?_
    refine c_ret ?_
    refine e_ret_then ?_
    refine e_ret1 Try.results85 (.tmp rfl .nil) (fun w hm => ⟨?_, hm.since⟩)
    first
    | (rw [holds_out (by omega)]; done)
    | (rw [holds_back (by omega)]; rfl)
    | (rw [holds_own (by omega)]; rfl)
    )
 ·
  first
   | (exfalso; omega)
   | (
    refine c_cond_f rfl ?_
    refine c_skip ?_
    refine e_next ?_
    refine c_seq ?_
    refine c_seq ?_
    refine c_region ?_
    refine r_val .none rfl (p_field Try.underlying141 rfl sz3 rfl) ?_
    refine r_val .none rfl (p_ld (k := 2) Try.underlying3 rfl rfl rfl (by first | exact of_decide_eq_true rfl | omega) (rfl : _ = Value.int _ _)) ?_
    refine r_val .none rfl (p_ge rfl rfl) ?_
    refine r_nil ?_
    refine e_next ?_
    refine c_splitd (d := 16) rfl (fun h_3 => ?_) (fun h_3 => ?_)
    ·
     first
      | (exfalso; omega)
      | (
       refine c_cond_t rfl ?_
       refine c_region ?_
       refine r_val .none rfl (p_move rfl) ?_
       refine r_val .none rfl (p_field Try.underlying141 rfl sz3 rfl) ?_
       refine r_val .none rfl (p_ld (k := 2) Try.underlying3 rfl rfl rfl (by first | exact of_decide_eq_true rfl | omega) (rfl : _ = Value.int _ _)) ?_
       obtain ⟨bn, rfl⟩ : ∃ bn : Nat, b = (bn : Int) := ⟨b.toNat, by omega⟩
       refine r_iaddr_g .none rfl Try.underlying70 sz106 rfl hb rfl (by first | exact of_decide_eq_true rfl | omega) (fun p_5 o_6 R_4 => ?_)
       refine r_val .none rfl (p_ldga0 Try.underlying106 rfl sz106 rfl R_4 (by first | exact of_decide_eq_true rfl | omega) (rfl : _ = Value.agg #[_, _, _])) ?_
       refine r_stw (k := 0) .none sz106 rfl rfl (IsRow.lit _) (one_lit rfl rfl) rfl ?_
       refine r_nil ?_
       refine e_next ?_
       refine c_seq ?_
       refine c_region_q mixed (by kernel_rfl) ?_
       refine q_val .none rfl (p_field Try.underlying141 rfl sz3 rfl) ?_
       refine q_val .none rfl (p_ld (k := 2) Try.underlying3 rfl rfl rfl (by first | exact of_decide_eq_true rfl | omega) (rfl : _ = Value.int _ _)) ?_
       refine q_val .none rfl (p_iaddr (k := 0) Try.underlying106 sz3 rfl rfl (by first | exact of_decide_eq_true rfl | omega)) ?_
       refine q_val .none rfl (p_ld (k := 1) Try.underlying3 rfl rfl rfl (by first | exact of_decide_eq_true rfl | omega) (rfl : _ = Value.int _ _)) ?_
       refine q_val .none rfl (p_field Try.underlying141 rfl sz3 rfl) ?_
       refine q_val .none rfl (p_ld (k := 2) Try.underlying3 rfl rfl rfl (by first | exact of_decide_eq_true rfl | omega) (rfl : _ = Value.int _ _)) ?_
       refine q_val .none rfl (p_iaddr (k := 2) Try.underlying106 sz3 rfl rfl (by first | exact of_decide_eq_true rfl | omega)) ?_
       refine q_val .none rfl (p_ld (k := 0) Try.underlying3 rfl rfl rfl (by first | exact of_decide_eq_true rfl | omega) (rfl : _ = Value.int _ _)) ?_
       refine q_val .none rfl (p_eq rfl rfl) ?_
       refine q_val .none rfl (p_assign rfl) ?_
       refine q_nil ?_
       refine e_next ?_
       refine c_ret ?_
       refine e_ret1 Try.results85 (.tmp rfl .nil) (fun w hm => ⟨?_, hm.since⟩)
       first
       | (rw [holds_out (by omega)]; done)
       | (rw [holds_back (by omega)]; rfl)
       | (rw [holds_own (by omega)]; rfl)
       )
    ·
     first
      | (exfalso; omega)
      | (
       refine c_cond_f rfl ?_
       refine c_skip ?_
       refine e_next ?_
       refine c_seq ?_
       refine c_region_q mixed (by kernel_rfl) ?_
       refine q_val .none rfl (p_field Try.underlying141 rfl sz3 rfl) ?_
       refine q_val .none rfl (p_ld (k := 2) Try.underlying3 rfl rfl rfl (by first | exact of_decide_eq_true rfl | omega) (rfl : _ = Value.int _ _)) ?_
       refine q_val .none rfl (p_iaddr (k := 0) Try.underlying106 sz3 rfl rfl (by first | exact of_decide_eq_true rfl | omega)) ?_
       refine q_val .none rfl (p_ld (k := 1) Try.underlying3 rfl rfl rfl (by first | exact of_decide_eq_true rfl | omega) (rfl : _ = Value.int _ _)) ?_
       refine q_val .none rfl (p_field Try.underlying141 rfl sz3 rfl) ?_
       refine q_val .none rfl (p_ld (k := 2) Try.underlying3 rfl rfl rfl (by first | exact of_decide_eq_true rfl | omega) (rfl : _ = Value.int _ _)) ?_
       refine q_val .none rfl (p_iaddr (k := 2) Try.underlying106 sz3 rfl rfl (by first | exact of_decide_eq_true rfl | omega)) ?_
       refine q_val .none rfl (p_ld (k := 0) Try.underlying3 rfl rfl rfl (by first | exact of_decide_eq_true rfl | omega) (rfl : _ = Value.int _ _)) ?_
       refine q_val .none rfl (p_eq rfl rfl) ?_
       refine q_val .none rfl (p_assign rfl) ?_
       refine q_nil ?_
       refine e_next ?_
       refine c_ret ?_
       refine e_ret1 Try.results85 (.tmp rfl .nil) (fun w hm => ⟨?_, hm.since⟩)
       first
       | (rw [holds_out (by omega)]; done)
       | (rw [holds_back (by omega)]; rfl)
       | (rw [holds_own (by omega)]; rfl)
       )
    )
theorem c_holds10 (b : Int) (vb : Value) (bs : List Tri) (t : Tri) {G : Ghost} (hb : SlL G vb 3 triL z3 bs) (w : World) (hG : Has G w) :
  Calls Try.prog 85 #[Value.agg #[Value.int .i64 1, Value.int .i64 b, Value.int .i64 0], vb, kT t] w (Ret fun r w' => r = Value.bool (holdsT (1, b, 0) bs t) ∧ Since nX w w') := by
 refine enter (args := [_, _, _]) (X := nX) (G := G) (l := [(0, Value.agg #[Value.int .i64 1, Value.int .i64 b, Value.int .i64 0]), (1, vb), (2, kT t)]) Try.func85 rfl Try.ntmps85 hG ⟨rfl, rfl, rfl, trivial⟩ (Nat.le_of_ble_eq_true rfl) ?_
 refine c_seq ?_
 refine c_region ?_
 refine r_box .none rfl rfl (IsRow.lit _) (fun b_1 => ?_)
 refine r_box .none rfl rfl (IsRow.lit _) (fun b_2 => ?_)
 refine r_val .none rfl (p_assign rfl) ?_
 refine r_nil ?_
 refine e_next ?_
 refine c_seq ?_
 refine c_region ?_
 refine r_val .none rfl (p_ldw (k := 0) Try.underlying106 rfl sz106 rfl rfl (rfl : _ = Value.agg #[_, _, _])) ?_
 refine r_alloc .none rfl zr106 (IsRow.lit _) (fun b_3 => ?_)
 refine r_stw (k := 0) .none sz106 rfl rfl (IsRow.lit _) (one_lit rfl rfl) rfl ?_
 refine r_nil ?_
 refine e_next ?_
 refine c_seq ?_
 refine c_seq ?_
 refine c_region ?_
 refine r_val .none rfl (p_field Try.underlying141 rfl sz3 rfl) ?_
 refine r_val .none rfl (p_ld (k := 2) Try.underlying3 rfl rfl rfl (by first | exact of_decide_eq_true rfl | omega) (rfl : _ = Value.int _ _)) ?_
 refine r_val .none rfl (p_move rfl) ?_
 refine r_val .none rfl (p_leng Try.underlying70 rfl hb) ?_
 have bd_1 := (hb).bound
 refine r_val .none rfl (p_ge rfl rfl) ?_
 refine r_nil ?_
 refine e_next ?_
 refine c_splitd (d := 13) rfl (fun h_2 => ?_) (fun h_2 => ?_)
 ·
  first
   | (exfalso; omega)
   | (
    refine c_cond_t rfl ?_
    refine c_seq ?_
    refine c_region ?_
    refine r_val .none rfl (p_assign rfl) ?_
    refine r_nil ?_
    refine e_next ?_
    refine c_ret ?_
    refine e_ret_then ?_
    refine e_ret1 Try.results85 (.tmp rfl .nil) (fun w hm => ⟨?_, hm.since⟩)
    first
    | (rw [holds_out (by omega)]; done)
    | (rw [holds_back (by omega)]; rfl)
    | (rw [holds_own (by omega)]; rfl)
    )
 ·
  first
   | (exfalso; omega)
   | (
    refine c_cond_f rfl ?_
    refine c_skip ?_
    refine e_next ?_
    refine c_seq ?_
    refine c_seq ?_
    refine c_region ?_
    refine r_val .none rfl (p_field Try.underlying141 rfl sz3 rfl) ?_
    refine r_val .none rfl (p_ld (k := 2) Try.underlying3 rfl rfl rfl (by first | exact of_decide_eq_true rfl | omega) (rfl : _ = Value.int _ _)) ?_
    refine r_val .none rfl (p_ge rfl rfl) ?_
    refine r_nil ?_
    refine e_next ?_
    refine c_splitd (d := 16) rfl (fun h_3 => ?_) (fun h_3 => ?_)
    ·
     first
      | (exfalso; omega)
      | (
       refine c_cond_t rfl ?_
       refine c_region ?_
       refine r_val .none rfl (p_move rfl) ?_
       refine r_val .none rfl (p_field Try.underlying141 rfl sz3 rfl) ?_
       refine r_val .none rfl (p_ld (k := 2) Try.underlying3 rfl rfl rfl (by first | exact of_decide_eq_true rfl | omega) (rfl : _ = Value.int _ _)) ?_
       obtain ⟨bn, rfl⟩ : ∃ bn : Nat, b = (bn : Int) := ⟨b.toNat, by omega⟩
       refine r_iaddr_g .none rfl Try.underlying70 sz106 rfl hb rfl (by first | exact of_decide_eq_true rfl | omega) (fun p_5 o_6 R_4 => ?_)
       refine r_val .none rfl (p_ldga0 Try.underlying106 rfl sz106 rfl R_4 (by first | exact of_decide_eq_true rfl | omega) (rfl : _ = Value.agg #[_, _, _])) ?_
       refine r_stw (k := 0) .none sz106 rfl rfl (IsRow.lit _) (one_lit rfl rfl) rfl ?_
       refine r_nil ?_
       refine e_next ?_
       refine c_seq ?_
       refine c_region_q mixed (by kernel_rfl) ?_
       refine q_val .none rfl (p_field Try.underlying141 rfl sz3 rfl) ?_
       refine q_val .none rfl (p_ld (k := 2) Try.underlying3 rfl rfl rfl (by first | exact of_decide_eq_true rfl | omega) (rfl : _ = Value.int _ _)) ?_
       refine q_val .none rfl (p_iaddr (k := 1) Try.underlying106 sz3 rfl rfl (by first | exact of_decide_eq_true rfl | omega)) ?_
       refine q_val .none rfl (p_ld (k := 1) Try.underlying3 rfl rfl rfl (by first | exact of_decide_eq_true rfl | omega) (rfl : _ = Value.int _ _)) ?_
       refine q_val .none rfl (p_field Try.underlying141 rfl sz3 rfl) ?_
       refine q_val .none rfl (p_ld (k := 2) Try.underlying3 rfl rfl rfl (by first | exact of_decide_eq_true rfl | omega) (rfl : _ = Value.int _ _)) ?_
       refine q_val .none rfl (p_iaddr (k := 0) Try.underlying106 sz3 rfl rfl (by first | exact of_decide_eq_true rfl | omega)) ?_
       refine q_val .none rfl (p_ld (k := 0) Try.underlying3 rfl rfl rfl (by first | exact of_decide_eq_true rfl | omega) (rfl : _ = Value.int _ _)) ?_
       refine q_val .none rfl (p_eq rfl rfl) ?_
       refine q_val .none rfl (p_assign rfl) ?_
       refine q_nil ?_
       refine e_next ?_
       refine c_ret ?_
       refine e_ret1 Try.results85 (.tmp rfl .nil) (fun w hm => ⟨?_, hm.since⟩)
       first
       | (rw [holds_out (by omega)]; done)
       | (rw [holds_back (by omega)]; rfl)
       | (rw [holds_own (by omega)]; rfl)
       )
    ·
     first
      | (exfalso; omega)
      | (
       refine c_cond_f rfl ?_
       refine c_skip ?_
       refine e_next ?_
       refine c_seq ?_
       refine c_region_q mixed (by kernel_rfl) ?_
       refine q_val .none rfl (p_field Try.underlying141 rfl sz3 rfl) ?_
       refine q_val .none rfl (p_ld (k := 2) Try.underlying3 rfl rfl rfl (by first | exact of_decide_eq_true rfl | omega) (rfl : _ = Value.int _ _)) ?_
       refine q_val .none rfl (p_iaddr (k := 1) Try.underlying106 sz3 rfl rfl (by first | exact of_decide_eq_true rfl | omega)) ?_
       refine q_val .none rfl (p_ld (k := 1) Try.underlying3 rfl rfl rfl (by first | exact of_decide_eq_true rfl | omega) (rfl : _ = Value.int _ _)) ?_
       refine q_val .none rfl (p_field Try.underlying141 rfl sz3 rfl) ?_
       refine q_val .none rfl (p_ld (k := 2) Try.underlying3 rfl rfl rfl (by first | exact of_decide_eq_true rfl | omega) (rfl : _ = Value.int _ _)) ?_
       refine q_val .none rfl (p_iaddr (k := 0) Try.underlying106 sz3 rfl rfl (by first | exact of_decide_eq_true rfl | omega)) ?_
       refine q_val .none rfl (p_ld (k := 0) Try.underlying3 rfl rfl rfl (by first | exact of_decide_eq_true rfl | omega) (rfl : _ = Value.int _ _)) ?_
       refine q_val .none rfl (p_eq rfl rfl) ?_
       refine q_val .none rfl (p_assign rfl) ?_
       refine q_nil ?_
       refine e_next ?_
       refine c_ret ?_
       refine e_ret1 Try.results85 (.tmp rfl .nil) (fun w hm => ⟨?_, hm.since⟩)
       first
       | (rw [holds_out (by omega)]; done)
       | (rw [holds_back (by omega)]; rfl)
       | (rw [holds_own (by omega)]; rfl)
       )
    )
theorem c_holds11 (b : Int) (vb : Value) (bs : List Tri) (t : Tri) {G : Ghost} (hb : SlL G vb 3 triL z3 bs) (w : World) (hG : Has G w) :
  Calls Try.prog 85 #[Value.agg #[Value.int .i64 1, Value.int .i64 b, Value.int .i64 1], vb, kT t] w (Ret fun r w' => r = Value.bool (holdsT (1, b, 1) bs t) ∧ Since nX w w') := by
 refine enter (args := [_, _, _]) (X := nX) (G := G) (l := [(0, Value.agg #[Value.int .i64 1, Value.int .i64 b, Value.int .i64 1]), (1, vb), (2, kT t)]) Try.func85 rfl Try.ntmps85 hG ⟨rfl, rfl, rfl, trivial⟩ (Nat.le_of_ble_eq_true rfl) ?_
 refine c_seq ?_
 refine c_region ?_
 refine r_box .none rfl rfl (IsRow.lit _) (fun b_1 => ?_)
 refine r_box .none rfl rfl (IsRow.lit _) (fun b_2 => ?_)
 refine r_val .none rfl (p_assign rfl) ?_
 refine r_nil ?_
 refine e_next ?_
 refine c_seq ?_
 refine c_region ?_
 refine r_val .none rfl (p_ldw (k := 0) Try.underlying106 rfl sz106 rfl rfl (rfl : _ = Value.agg #[_, _, _])) ?_
 refine r_alloc .none rfl zr106 (IsRow.lit _) (fun b_3 => ?_)
 refine r_stw (k := 0) .none sz106 rfl rfl (IsRow.lit _) (one_lit rfl rfl) rfl ?_
 refine r_nil ?_
 refine e_next ?_
 refine c_seq ?_
 refine c_seq ?_
 refine c_region ?_
 refine r_val .none rfl (p_field Try.underlying141 rfl sz3 rfl) ?_
 refine r_val .none rfl (p_ld (k := 2) Try.underlying3 rfl rfl rfl (by first | exact of_decide_eq_true rfl | omega) (rfl : _ = Value.int _ _)) ?_
 refine r_val .none rfl (p_move rfl) ?_
 refine r_val .none rfl (p_leng Try.underlying70 rfl hb) ?_
 have bd_1 := (hb).bound
 refine r_val .none rfl (p_ge rfl rfl) ?_
 refine r_nil ?_
 refine e_next ?_
 refine c_splitd (d := 13) rfl (fun h_2 => ?_) (fun h_2 => ?_)
 ·
  first
   | (exfalso; omega)
   | (
    refine c_cond_t rfl ?_
    refine c_seq ?_
    refine c_region ?_
    refine r_val .none rfl (p_assign rfl) ?_
    refine r_nil ?_
    refine e_next ?_
    refine c_ret ?_
    refine e_ret_then ?_
    refine e_ret1 Try.results85 (.tmp rfl .nil) (fun w hm => ⟨?_, hm.since⟩)
    first
    | (rw [holds_out (by omega)]; done)
    | (rw [holds_back (by omega)]; rfl)
    | (rw [holds_own (by omega)]; rfl)
    )
 ·
  first
   | (exfalso; omega)
   | (
    refine c_cond_f rfl ?_
    refine c_skip ?_
    refine e_next ?_
    refine c_seq ?_
    refine c_seq ?_
    refine c_region ?_
    refine r_val .none rfl (p_field Try.underlying141 rfl sz3 rfl) ?_
    refine r_val .none rfl (p_ld (k := 2) Try.underlying3 rfl rfl rfl (by first | exact of_decide_eq_true rfl | omega) (rfl : _ = Value.int _ _)) ?_
    refine r_val .none rfl (p_ge rfl rfl) ?_
    refine r_nil ?_
    refine e_next ?_
    refine c_splitd (d := 16) rfl (fun h_3 => ?_) (fun h_3 => ?_)
    ·
     first
      | (exfalso; omega)
      | (
       refine c_cond_t rfl ?_
       refine c_region ?_
       refine r_val .none rfl (p_move rfl) ?_
       refine r_val .none rfl (p_field Try.underlying141 rfl sz3 rfl) ?_
       refine r_val .none rfl (p_ld (k := 2) Try.underlying3 rfl rfl rfl (by first | exact of_decide_eq_true rfl | omega) (rfl : _ = Value.int _ _)) ?_
       obtain ⟨bn, rfl⟩ : ∃ bn : Nat, b = (bn : Int) := ⟨b.toNat, by omega⟩
       refine r_iaddr_g .none rfl Try.underlying70 sz106 rfl hb rfl (by first | exact of_decide_eq_true rfl | omega) (fun p_5 o_6 R_4 => ?_)
       refine r_val .none rfl (p_ldga0 Try.underlying106 rfl sz106 rfl R_4 (by first | exact of_decide_eq_true rfl | omega) (rfl : _ = Value.agg #[_, _, _])) ?_
       refine r_stw (k := 0) .none sz106 rfl rfl (IsRow.lit _) (one_lit rfl rfl) rfl ?_
       refine r_nil ?_
       refine e_next ?_
       refine c_seq ?_
       refine c_region_q mixed (by kernel_rfl) ?_
       refine q_val .none rfl (p_field Try.underlying141 rfl sz3 rfl) ?_
       refine q_val .none rfl (p_ld (k := 2) Try.underlying3 rfl rfl rfl (by first | exact of_decide_eq_true rfl | omega) (rfl : _ = Value.int _ _)) ?_
       refine q_val .none rfl (p_iaddr (k := 1) Try.underlying106 sz3 rfl rfl (by first | exact of_decide_eq_true rfl | omega)) ?_
       refine q_val .none rfl (p_ld (k := 1) Try.underlying3 rfl rfl rfl (by first | exact of_decide_eq_true rfl | omega) (rfl : _ = Value.int _ _)) ?_
       refine q_val .none rfl (p_field Try.underlying141 rfl sz3 rfl) ?_
       refine q_val .none rfl (p_ld (k := 2) Try.underlying3 rfl rfl rfl (by first | exact of_decide_eq_true rfl | omega) (rfl : _ = Value.int _ _)) ?_
       refine q_val .none rfl (p_iaddr (k := 1) Try.underlying106 sz3 rfl rfl (by first | exact of_decide_eq_true rfl | omega)) ?_
       refine q_val .none rfl (p_ld (k := 0) Try.underlying3 rfl rfl rfl (by first | exact of_decide_eq_true rfl | omega) (rfl : _ = Value.int _ _)) ?_
       refine q_val .none rfl (p_eq rfl rfl) ?_
       refine q_val .none rfl (p_assign rfl) ?_
       refine q_nil ?_
       refine e_next ?_
       refine c_ret ?_
       refine e_ret1 Try.results85 (.tmp rfl .nil) (fun w hm => ⟨?_, hm.since⟩)
       first
       | (rw [holds_out (by omega)]; done)
       | (rw [holds_back (by omega)]; rfl)
       | (rw [holds_own (by omega)]; rfl)
       )
    ·
     first
      | (exfalso; omega)
      | (
       refine c_cond_f rfl ?_
       refine c_skip ?_
       refine e_next ?_
       refine c_seq ?_
       refine c_region_q mixed (by kernel_rfl) ?_
       refine q_val .none rfl (p_field Try.underlying141 rfl sz3 rfl) ?_
       refine q_val .none rfl (p_ld (k := 2) Try.underlying3 rfl rfl rfl (by first | exact of_decide_eq_true rfl | omega) (rfl : _ = Value.int _ _)) ?_
       refine q_val .none rfl (p_iaddr (k := 1) Try.underlying106 sz3 rfl rfl (by first | exact of_decide_eq_true rfl | omega)) ?_
       refine q_val .none rfl (p_ld (k := 1) Try.underlying3 rfl rfl rfl (by first | exact of_decide_eq_true rfl | omega) (rfl : _ = Value.int _ _)) ?_
       refine q_val .none rfl (p_field Try.underlying141 rfl sz3 rfl) ?_
       refine q_val .none rfl (p_ld (k := 2) Try.underlying3 rfl rfl rfl (by first | exact of_decide_eq_true rfl | omega) (rfl : _ = Value.int _ _)) ?_
       refine q_val .none rfl (p_iaddr (k := 1) Try.underlying106 sz3 rfl rfl (by first | exact of_decide_eq_true rfl | omega)) ?_
       refine q_val .none rfl (p_ld (k := 0) Try.underlying3 rfl rfl rfl (by first | exact of_decide_eq_true rfl | omega) (rfl : _ = Value.int _ _)) ?_
       refine q_val .none rfl (p_eq rfl rfl) ?_
       refine q_val .none rfl (p_assign rfl) ?_
       refine q_nil ?_
       refine e_next ?_
       refine c_ret ?_
       refine e_ret1 Try.results85 (.tmp rfl .nil) (fun w hm => ⟨?_, hm.since⟩)
       first
       | (rw [holds_out (by omega)]; done)
       | (rw [holds_back (by omega)]; rfl)
       | (rw [holds_own (by omega)]; rfl)
       )
    )
theorem c_holds12 (b : Int) (vb : Value) (bs : List Tri) (t : Tri) {G : Ghost} (hb : SlL G vb 3 triL z3 bs) (w : World) (hG : Has G w) :
  Calls Try.prog 85 #[Value.agg #[Value.int .i64 1, Value.int .i64 b, Value.int .i64 2], vb, kT t] w (Ret fun r w' => r = Value.bool (holdsT (1, b, 2) bs t) ∧ Since nX w w') := by
 refine enter (args := [_, _, _]) (X := nX) (G := G) (l := [(0, Value.agg #[Value.int .i64 1, Value.int .i64 b, Value.int .i64 2]), (1, vb), (2, kT t)]) Try.func85 rfl Try.ntmps85 hG ⟨rfl, rfl, rfl, trivial⟩ (Nat.le_of_ble_eq_true rfl) ?_
 refine c_seq ?_
 refine c_region ?_
 refine r_box .none rfl rfl (IsRow.lit _) (fun b_1 => ?_)
 refine r_box .none rfl rfl (IsRow.lit _) (fun b_2 => ?_)
 refine r_val .none rfl (p_assign rfl) ?_
 refine r_nil ?_
 refine e_next ?_
 refine c_seq ?_
 refine c_region ?_
 refine r_val .none rfl (p_ldw (k := 0) Try.underlying106 rfl sz106 rfl rfl (rfl : _ = Value.agg #[_, _, _])) ?_
 refine r_alloc .none rfl zr106 (IsRow.lit _) (fun b_3 => ?_)
 refine r_stw (k := 0) .none sz106 rfl rfl (IsRow.lit _) (one_lit rfl rfl) rfl ?_
 refine r_nil ?_
 refine e_next ?_
 refine c_seq ?_
 refine c_seq ?_
 refine c_region ?_
 refine r_val .none rfl (p_field Try.underlying141 rfl sz3 rfl) ?_
 refine r_val .none rfl (p_ld (k := 2) Try.underlying3 rfl rfl rfl (by first | exact of_decide_eq_true rfl | omega) (rfl : _ = Value.int _ _)) ?_
 refine r_val .none rfl (p_move rfl) ?_
 refine r_val .none rfl (p_leng Try.underlying70 rfl hb) ?_
 have bd_1 := (hb).bound
 refine r_val .none rfl (p_ge rfl rfl) ?_
 refine r_nil ?_
 refine e_next ?_
 refine c_splitd (d := 13) rfl (fun h_2 => ?_) (fun h_2 => ?_)
 ·
  first
   | (exfalso; omega)
   | (
    refine c_cond_t rfl ?_
    refine c_seq ?_
    refine c_region ?_
    refine r_val .none rfl (p_assign rfl) ?_
    refine r_nil ?_
    refine e_next ?_
    refine c_ret ?_
    refine e_ret_then ?_
    refine e_ret1 Try.results85 (.tmp rfl .nil) (fun w hm => ⟨?_, hm.since⟩)
    first
    | (rw [holds_out (by omega)]; done)
    | (rw [holds_back (by omega)]; rfl)
    | (rw [holds_own (by omega)]; rfl)
    )
 ·
  first
   | (exfalso; omega)
   | (
    refine c_cond_f rfl ?_
    refine c_skip ?_
    refine e_next ?_
    refine c_seq ?_
    refine c_seq ?_
    refine c_region ?_
    refine r_val .none rfl (p_field Try.underlying141 rfl sz3 rfl) ?_
    refine r_val .none rfl (p_ld (k := 2) Try.underlying3 rfl rfl rfl (by first | exact of_decide_eq_true rfl | omega) (rfl : _ = Value.int _ _)) ?_
    refine r_val .none rfl (p_ge rfl rfl) ?_
    refine r_nil ?_
    refine e_next ?_
    refine c_splitd (d := 16) rfl (fun h_3 => ?_) (fun h_3 => ?_)
    ·
     first
      | (exfalso; omega)
      | (
       refine c_cond_t rfl ?_
       refine c_region ?_
       refine r_val .none rfl (p_move rfl) ?_
       refine r_val .none rfl (p_field Try.underlying141 rfl sz3 rfl) ?_
       refine r_val .none rfl (p_ld (k := 2) Try.underlying3 rfl rfl rfl (by first | exact of_decide_eq_true rfl | omega) (rfl : _ = Value.int _ _)) ?_
       obtain ⟨bn, rfl⟩ : ∃ bn : Nat, b = (bn : Int) := ⟨b.toNat, by omega⟩
       refine r_iaddr_g .none rfl Try.underlying70 sz106 rfl hb rfl (by first | exact of_decide_eq_true rfl | omega) (fun p_5 o_6 R_4 => ?_)
       refine r_val .none rfl (p_ldga0 Try.underlying106 rfl sz106 rfl R_4 (by first | exact of_decide_eq_true rfl | omega) (rfl : _ = Value.agg #[_, _, _])) ?_
       refine r_stw (k := 0) .none sz106 rfl rfl (IsRow.lit _) (one_lit rfl rfl) rfl ?_
       refine r_nil ?_
       refine e_next ?_
       refine c_seq ?_
       refine c_region_q mixed (by kernel_rfl) ?_
       refine q_val .none rfl (p_field Try.underlying141 rfl sz3 rfl) ?_
       refine q_val .none rfl (p_ld (k := 2) Try.underlying3 rfl rfl rfl (by first | exact of_decide_eq_true rfl | omega) (rfl : _ = Value.int _ _)) ?_
       refine q_val .none rfl (p_iaddr (k := 1) Try.underlying106 sz3 rfl rfl (by first | exact of_decide_eq_true rfl | omega)) ?_
       refine q_val .none rfl (p_ld (k := 1) Try.underlying3 rfl rfl rfl (by first | exact of_decide_eq_true rfl | omega) (rfl : _ = Value.int _ _)) ?_
       refine q_val .none rfl (p_field Try.underlying141 rfl sz3 rfl) ?_
       refine q_val .none rfl (p_ld (k := 2) Try.underlying3 rfl rfl rfl (by first | exact of_decide_eq_true rfl | omega) (rfl : _ = Value.int _ _)) ?_
       refine q_val .none rfl (p_iaddr (k := 2) Try.underlying106 sz3 rfl rfl (by first | exact of_decide_eq_true rfl | omega)) ?_
       refine q_val .none rfl (p_ld (k := 0) Try.underlying3 rfl rfl rfl (by first | exact of_decide_eq_true rfl | omega) (rfl : _ = Value.int _ _)) ?_
       refine q_val .none rfl (p_eq rfl rfl) ?_
       refine q_val .none rfl (p_assign rfl) ?_
       refine q_nil ?_
       refine e_next ?_
       refine c_ret ?_
       refine e_ret1 Try.results85 (.tmp rfl .nil) (fun w hm => ⟨?_, hm.since⟩)
       first
       | (rw [holds_out (by omega)]; done)
       | (rw [holds_back (by omega)]; rfl)
       | (rw [holds_own (by omega)]; rfl)
       )
    ·
     first
      | (exfalso; omega)
      | (
       refine c_cond_f rfl ?_
       refine c_skip ?_
       refine e_next ?_
       refine c_seq ?_
       refine c_region_q mixed (by kernel_rfl) ?_
       refine q_val .none rfl (p_field Try.underlying141 rfl sz3 rfl) ?_
       refine q_val .none rfl (p_ld (k := 2) Try.underlying3 rfl rfl rfl (by first | exact of_decide_eq_true rfl | omega) (rfl : _ = Value.int _ _)) ?_
       refine q_val .none rfl (p_iaddr (k := 1) Try.underlying106 sz3 rfl rfl (by first | exact of_decide_eq_true rfl | omega)) ?_
       refine q_val .none rfl (p_ld (k := 1) Try.underlying3 rfl rfl rfl (by first | exact of_decide_eq_true rfl | omega) (rfl : _ = Value.int _ _)) ?_
       refine q_val .none rfl (p_field Try.underlying141 rfl sz3 rfl) ?_
       refine q_val .none rfl (p_ld (k := 2) Try.underlying3 rfl rfl rfl (by first | exact of_decide_eq_true rfl | omega) (rfl : _ = Value.int _ _)) ?_
       refine q_val .none rfl (p_iaddr (k := 2) Try.underlying106 sz3 rfl rfl (by first | exact of_decide_eq_true rfl | omega)) ?_
       refine q_val .none rfl (p_ld (k := 0) Try.underlying3 rfl rfl rfl (by first | exact of_decide_eq_true rfl | omega) (rfl : _ = Value.int _ _)) ?_
       refine q_val .none rfl (p_eq rfl rfl) ?_
       refine q_val .none rfl (p_assign rfl) ?_
       refine q_nil ?_
       refine e_next ?_
       refine c_ret ?_
       refine e_ret1 Try.results85 (.tmp rfl .nil) (fun w hm => ⟨?_, hm.since⟩)
       first
       | (rw [holds_out (by omega)]; done)
       | (rw [holds_back (by omega)]; rfl)
       | (rw [holds_own (by omega)]; rfl)
       )
    )
theorem c_holds20 (b : Int) (vb : Value) (bs : List Tri) (t : Tri) {G : Ghost} (hb : SlL G vb 3 triL z3 bs) (w : World) (hG : Has G w) :
  Calls Try.prog 85 #[Value.agg #[Value.int .i64 2, Value.int .i64 b, Value.int .i64 0], vb, kT t] w (Ret fun r w' => r = Value.bool (holdsT (2, b, 0) bs t) ∧ Since nX w w') := by
 refine enter (args := [_, _, _]) (X := nX) (G := G) (l := [(0, Value.agg #[Value.int .i64 2, Value.int .i64 b, Value.int .i64 0]), (1, vb), (2, kT t)]) Try.func85 rfl Try.ntmps85 hG ⟨rfl, rfl, rfl, trivial⟩ (Nat.le_of_ble_eq_true rfl) ?_
 refine c_seq ?_
 refine c_region ?_
 refine r_box .none rfl rfl (IsRow.lit _) (fun b_1 => ?_)
 refine r_box .none rfl rfl (IsRow.lit _) (fun b_2 => ?_)
 refine r_val .none rfl (p_assign rfl) ?_
 refine r_nil ?_
 refine e_next ?_
 refine c_seq ?_
 refine c_region ?_
 refine r_val .none rfl (p_ldw (k := 0) Try.underlying106 rfl sz106 rfl rfl (rfl : _ = Value.agg #[_, _, _])) ?_
 refine r_alloc .none rfl zr106 (IsRow.lit _) (fun b_3 => ?_)
 refine r_stw (k := 0) .none sz106 rfl rfl (IsRow.lit _) (one_lit rfl rfl) rfl ?_
 refine r_nil ?_
 refine e_next ?_
 refine c_seq ?_
 refine c_seq ?_
 refine c_region ?_
 refine r_val .none rfl (p_field Try.underlying141 rfl sz3 rfl) ?_
 refine r_val .none rfl (p_ld (k := 2) Try.underlying3 rfl rfl rfl (by first | exact of_decide_eq_true rfl | omega) (rfl : _ = Value.int _ _)) ?_
 refine r_val .none rfl (p_move rfl) ?_
 refine r_val .none rfl (p_leng Try.underlying70 rfl hb) ?_
 have bd_1 := (hb).bound
 refine r_val .none rfl (p_ge rfl rfl) ?_
 refine r_nil ?_
 refine e_next ?_
 refine c_splitd (d := 13) rfl (fun h_2 => ?_) (fun h_2 => ?_)
 ·
  first
   | (exfalso; omega)
   | (
    refine c_cond_t rfl ?_
    refine c_seq ?_
    refine c_region ?_
    refine r_val .none rfl (p_assign rfl) ?_
    refine r_nil ?_
    refine e_next ?_
    refine c_ret ?_
    refine e_ret_then ?_
    refine e_ret1 Try.results85 (.tmp rfl .nil) (fun w hm => ⟨?_, hm.since⟩)
    first
    | (rw [holds_out (by omega)]; done)
    | (rw [holds_back (by omega)]; rfl)
    | (rw [holds_own (by omega)]; rfl)
    )
 ·
  first
   | (exfalso; omega)
   | (
    refine c_cond_f rfl ?_
    refine c_skip ?_
    refine e_next ?_
    refine c_seq ?_
    refine c_seq ?_
    refine c_region ?_
    refine r_val .none rfl (p_field Try.underlying141 rfl sz3 rfl) ?_
    refine r_val .none rfl (p_ld (k := 2) Try.underlying3 rfl rfl rfl (by first | exact of_decide_eq_true rfl | omega) (rfl : _ = Value.int _ _)) ?_
    refine r_val .none rfl (p_ge rfl rfl) ?_
    refine r_nil ?_
    refine e_next ?_
    refine c_splitd (d := 16) rfl (fun h_3 => ?_) (fun h_3 => ?_)
    ·
     first
      | (exfalso; omega)
      | (
       refine c_cond_t rfl ?_
       refine c_region ?_
       refine r_val .none rfl (p_move rfl) ?_
       refine r_val .none rfl (p_field Try.underlying141 rfl sz3 rfl) ?_
       refine r_val .none rfl (p_ld (k := 2) Try.underlying3 rfl rfl rfl (by first | exact of_decide_eq_true rfl | omega) (rfl : _ = Value.int _ _)) ?_
       obtain ⟨bn, rfl⟩ : ∃ bn : Nat, b = (bn : Int) := ⟨b.toNat, by omega⟩
       refine r_iaddr_g .none rfl Try.underlying70 sz106 rfl hb rfl (by first | exact of_decide_eq_true rfl | omega) (fun p_5 o_6 R_4 => ?_)
       refine r_val .none rfl (p_ldga0 Try.underlying106 rfl sz106 rfl R_4 (by first | exact of_decide_eq_true rfl | omega) (rfl : _ = Value.agg #[_, _, _])) ?_
       refine r_stw (k := 0) .none sz106 rfl rfl (IsRow.lit _) (one_lit rfl rfl) rfl ?_
       refine r_nil ?_
       refine e_next ?_
       refine c_seq ?_
       refine c_region_q mixed (by kernel_rfl) ?_
       refine q_val .none rfl (p_field Try.underlying141 rfl sz3 rfl) ?_
       refine q_val .none rfl (p_ld (k := 2) Try.underlying3 rfl rfl rfl (by first | exact of_decide_eq_true rfl | omega) (rfl : _ = Value.int _ _)) ?_
       refine q_val .none rfl (p_iaddr (k := 2) Try.underlying106 sz3 rfl rfl (by first | exact of_decide_eq_true rfl | omega)) ?_
       refine q_val .none rfl (p_ld (k := 1) Try.underlying3 rfl rfl rfl (by first | exact of_decide_eq_true rfl | omega) (rfl : _ = Value.int _ _)) ?_
       refine q_val .none rfl (p_field Try.underlying141 rfl sz3 rfl) ?_
       refine q_val .none rfl (p_ld (k := 2) Try.underlying3 rfl rfl rfl (by first | exact of_decide_eq_true rfl | omega) (rfl : _ = Value.int _ _)) ?_
       refine q_val .none rfl (p_iaddr (k := 0) Try.underlying106 sz3 rfl rfl (by first | exact of_decide_eq_true rfl | omega)) ?_
       refine q_val .none rfl (p_ld (k := 0) Try.underlying3 rfl rfl rfl (by first | exact of_decide_eq_true rfl | omega) (rfl : _ = Value.int _ _)) ?_
       refine q_val .none rfl (p_eq rfl rfl) ?_
       refine q_val .none rfl (p_assign rfl) ?_
       refine q_nil ?_
       refine e_next ?_
       refine c_ret ?_
       refine e_ret1 Try.results85 (.tmp rfl .nil) (fun w hm => ⟨?_, hm.since⟩)
       first
       | (rw [holds_out (by omega)]; done)
       | (rw [holds_back (by omega)]; rfl)
       | (rw [holds_own (by omega)]; rfl)
       )
    ·
     first
      | (exfalso; omega)
      | (
       refine c_cond_f rfl ?_
       refine c_skip ?_
       refine e_next ?_
       refine c_seq ?_
       refine c_region_q mixed (by kernel_rfl) ?_
       refine q_val .none rfl (p_field Try.underlying141 rfl sz3 rfl) ?_
       refine q_val .none rfl (p_ld (k := 2) Try.underlying3 rfl rfl rfl (by first | exact of_decide_eq_true rfl | omega) (rfl : _ = Value.int _ _)) ?_
       refine q_val .none rfl (p_iaddr (k := 2) Try.underlying106 sz3 rfl rfl (by first | exact of_decide_eq_true rfl | omega)) ?_
       refine q_val .none rfl (p_ld (k := 1) Try.underlying3 rfl rfl rfl (by first | exact of_decide_eq_true rfl | omega) (rfl : _ = Value.int _ _)) ?_
       refine q_val .none rfl (p_field Try.underlying141 rfl sz3 rfl) ?_
       refine q_val .none rfl (p_ld (k := 2) Try.underlying3 rfl rfl rfl (by first | exact of_decide_eq_true rfl | omega) (rfl : _ = Value.int _ _)) ?_
       refine q_val .none rfl (p_iaddr (k := 0) Try.underlying106 sz3 rfl rfl (by first | exact of_decide_eq_true rfl | omega)) ?_
       refine q_val .none rfl (p_ld (k := 0) Try.underlying3 rfl rfl rfl (by first | exact of_decide_eq_true rfl | omega) (rfl : _ = Value.int _ _)) ?_
       refine q_val .none rfl (p_eq rfl rfl) ?_
       refine q_val .none rfl (p_assign rfl) ?_
       refine q_nil ?_
       refine e_next ?_
       refine c_ret ?_
       refine e_ret1 Try.results85 (.tmp rfl .nil) (fun w hm => ⟨?_, hm.since⟩)
       first
       | (rw [holds_out (by omega)]; done)
       | (rw [holds_back (by omega)]; rfl)
       | (rw [holds_own (by omega)]; rfl)
       )
    )
theorem c_holds21 (b : Int) (vb : Value) (bs : List Tri) (t : Tri) {G : Ghost} (hb : SlL G vb 3 triL z3 bs) (w : World) (hG : Has G w) :
  Calls Try.prog 85 #[Value.agg #[Value.int .i64 2, Value.int .i64 b, Value.int .i64 1], vb, kT t] w (Ret fun r w' => r = Value.bool (holdsT (2, b, 1) bs t) ∧ Since nX w w') := by
 refine enter (args := [_, _, _]) (X := nX) (G := G) (l := [(0, Value.agg #[Value.int .i64 2, Value.int .i64 b, Value.int .i64 1]), (1, vb), (2, kT t)]) Try.func85 rfl Try.ntmps85 hG ⟨rfl, rfl, rfl, trivial⟩ (Nat.le_of_ble_eq_true rfl) ?_
 refine c_seq ?_
 refine c_region ?_
 refine r_box .none rfl rfl (IsRow.lit _) (fun b_1 => ?_)
 refine r_box .none rfl rfl (IsRow.lit _) (fun b_2 => ?_)
 refine r_val .none rfl (p_assign rfl) ?_
 refine r_nil ?_
 refine e_next ?_
 refine c_seq ?_
 refine c_region ?_
 refine r_val .none rfl (p_ldw (k := 0) Try.underlying106 rfl sz106 rfl rfl (rfl : _ = Value.agg #[_, _, _])) ?_
 refine r_alloc .none rfl zr106 (IsRow.lit _) (fun b_3 => ?_)
 refine r_stw (k := 0) .none sz106 rfl rfl (IsRow.lit _) (one_lit rfl rfl) rfl ?_
 refine r_nil ?_
 refine e_next ?_
 refine c_seq ?_
 refine c_seq ?_
 refine c_region ?_
 refine r_val .none rfl (p_field Try.underlying141 rfl sz3 rfl) ?_
 refine r_val .none rfl (p_ld (k := 2) Try.underlying3 rfl rfl rfl (by first | exact of_decide_eq_true rfl | omega) (rfl : _ = Value.int _ _)) ?_
 refine r_val .none rfl (p_move rfl) ?_
 refine r_val .none rfl (p_leng Try.underlying70 rfl hb) ?_
 have bd_1 := (hb).bound
 refine r_val .none rfl (p_ge rfl rfl) ?_
 refine r_nil ?_
 refine e_next ?_
 refine c_splitd (d := 13) rfl (fun h_2 => ?_) (fun h_2 => ?_)
 ·
  first
   | (exfalso; omega)
   | (
    refine c_cond_t rfl ?_
    refine c_seq ?_
    refine c_region ?_
    refine r_val .none rfl (p_assign rfl) ?_
    refine r_nil ?_
    refine e_next ?_
    refine c_ret ?_
    refine e_ret_then ?_
    refine e_ret1 Try.results85 (.tmp rfl .nil) (fun w hm => ⟨?_, hm.since⟩)
    first
    | (rw [holds_out (by omega)]; done)
    | (rw [holds_back (by omega)]; rfl)
    | (rw [holds_own (by omega)]; rfl)
    )
 ·
  first
   | (exfalso; omega)
   | (
    refine c_cond_f rfl ?_
    refine c_skip ?_
    refine e_next ?_
    refine c_seq ?_
    refine c_seq ?_
    refine c_region ?_
    refine r_val .none rfl (p_field Try.underlying141 rfl sz3 rfl) ?_
    refine r_val .none rfl (p_ld (k := 2) Try.underlying3 rfl rfl rfl (by first | exact of_decide_eq_true rfl | omega) (rfl : _ = Value.int _ _)) ?_
    refine r_val .none rfl (p_ge rfl rfl) ?_
    refine r_nil ?_
    refine e_next ?_
    refine c_splitd (d := 16) rfl (fun h_3 => ?_) (fun h_3 => ?_)
    ·
     first
      | (exfalso; omega)
      | (
       refine c_cond_t rfl ?_
       refine c_region ?_
       refine r_val .none rfl (p_move rfl) ?_
       refine r_val .none rfl (p_field Try.underlying141 rfl sz3 rfl) ?_
       refine r_val .none rfl (p_ld (k := 2) Try.underlying3 rfl rfl rfl (by first | exact of_decide_eq_true rfl | omega) (rfl : _ = Value.int _ _)) ?_
       obtain ⟨bn, rfl⟩ : ∃ bn : Nat, b = (bn : Int) := ⟨b.toNat, by omega⟩
       refine r_iaddr_g .none rfl Try.underlying70 sz106 rfl hb rfl (by first | exact of_decide_eq_true rfl | omega) (fun p_5 o_6 R_4 => ?_)
       refine r_val .none rfl (p_ldga0 Try.underlying106 rfl sz106 rfl R_4 (by first | exact of_decide_eq_true rfl | omega) (rfl : _ = Value.agg #[_, _, _])) ?_
       refine r_stw (k := 0) .none sz106 rfl rfl (IsRow.lit _) (one_lit rfl rfl) rfl ?_
       refine r_nil ?_
       refine e_next ?_
       refine c_seq ?_
       refine c_region_q mixed (by kernel_rfl) ?_
       refine q_val .none rfl (p_field Try.underlying141 rfl sz3 rfl) ?_
       refine q_val .none rfl (p_ld (k := 2) Try.underlying3 rfl rfl rfl (by first | exact of_decide_eq_true rfl | omega) (rfl : _ = Value.int _ _)) ?_
       refine q_val .none rfl (p_iaddr (k := 2) Try.underlying106 sz3 rfl rfl (by first | exact of_decide_eq_true rfl | omega)) ?_
       refine q_val .none rfl (p_ld (k := 1) Try.underlying3 rfl rfl rfl (by first | exact of_decide_eq_true rfl | omega) (rfl : _ = Value.int _ _)) ?_
       refine q_val .none rfl (p_field Try.underlying141 rfl sz3 rfl) ?_
       refine q_val .none rfl (p_ld (k := 2) Try.underlying3 rfl rfl rfl (by first | exact of_decide_eq_true rfl | omega) (rfl : _ = Value.int _ _)) ?_
       refine q_val .none rfl (p_iaddr (k := 1) Try.underlying106 sz3 rfl rfl (by first | exact of_decide_eq_true rfl | omega)) ?_
       refine q_val .none rfl (p_ld (k := 0) Try.underlying3 rfl rfl rfl (by first | exact of_decide_eq_true rfl | omega) (rfl : _ = Value.int _ _)) ?_
       refine q_val .none rfl (p_eq rfl rfl) ?_
       refine q_val .none rfl (p_assign rfl) ?_
       refine q_nil ?_
       refine e_next ?_
       refine c_ret ?_
       refine e_ret1 Try.results85 (.tmp rfl .nil) (fun w hm => ⟨?_, hm.since⟩)
       first
       | (rw [holds_out (by omega)]; done)
       | (rw [holds_back (by omega)]; rfl)
       | (rw [holds_own (by omega)]; rfl)
       )
    ·
     first
      | (exfalso; omega)
      | (
       refine c_cond_f rfl ?_
       refine c_skip ?_
       refine e_next ?_
       refine c_seq ?_
       refine c_region_q mixed (by kernel_rfl) ?_
       refine q_val .none rfl (p_field Try.underlying141 rfl sz3 rfl) ?_
       refine q_val .none rfl (p_ld (k := 2) Try.underlying3 rfl rfl rfl (by first | exact of_decide_eq_true rfl | omega) (rfl : _ = Value.int _ _)) ?_
       refine q_val .none rfl (p_iaddr (k := 2) Try.underlying106 sz3 rfl rfl (by first | exact of_decide_eq_true rfl | omega)) ?_
       refine q_val .none rfl (p_ld (k := 1) Try.underlying3 rfl rfl rfl (by first | exact of_decide_eq_true rfl | omega) (rfl : _ = Value.int _ _)) ?_
       refine q_val .none rfl (p_field Try.underlying141 rfl sz3 rfl) ?_
       refine q_val .none rfl (p_ld (k := 2) Try.underlying3 rfl rfl rfl (by first | exact of_decide_eq_true rfl | omega) (rfl : _ = Value.int _ _)) ?_
       refine q_val .none rfl (p_iaddr (k := 1) Try.underlying106 sz3 rfl rfl (by first | exact of_decide_eq_true rfl | omega)) ?_
       refine q_val .none rfl (p_ld (k := 0) Try.underlying3 rfl rfl rfl (by first | exact of_decide_eq_true rfl | omega) (rfl : _ = Value.int _ _)) ?_
       refine q_val .none rfl (p_eq rfl rfl) ?_
       refine q_val .none rfl (p_assign rfl) ?_
       refine q_nil ?_
       refine e_next ?_
       refine c_ret ?_
       refine e_ret1 Try.results85 (.tmp rfl .nil) (fun w hm => ⟨?_, hm.since⟩)
       first
       | (rw [holds_out (by omega)]; done)
       | (rw [holds_back (by omega)]; rfl)
       | (rw [holds_own (by omega)]; rfl)
       )
    )
theorem c_holds22 (b : Int) (vb : Value) (bs : List Tri) (t : Tri) {G : Ghost} (hb : SlL G vb 3 triL z3 bs) (w : World) (hG : Has G w) :
  Calls Try.prog 85 #[Value.agg #[Value.int .i64 2, Value.int .i64 b, Value.int .i64 2], vb, kT t] w (Ret fun r w' => r = Value.bool (holdsT (2, b, 2) bs t) ∧ Since nX w w') := by
 refine enter (args := [_, _, _]) (X := nX) (G := G) (l := [(0, Value.agg #[Value.int .i64 2, Value.int .i64 b, Value.int .i64 2]), (1, vb), (2, kT t)]) Try.func85 rfl Try.ntmps85 hG ⟨rfl, rfl, rfl, trivial⟩ (Nat.le_of_ble_eq_true rfl) ?_
 refine c_seq ?_
 refine c_region ?_
 refine r_box .none rfl rfl (IsRow.lit _) (fun b_1 => ?_)
 refine r_box .none rfl rfl (IsRow.lit _) (fun b_2 => ?_)
 refine r_val .none rfl (p_assign rfl) ?_
 refine r_nil ?_
 refine e_next ?_
 refine c_seq ?_
 refine c_region ?_
 refine r_val .none rfl (p_ldw (k := 0) Try.underlying106 rfl sz106 rfl rfl (rfl : _ = Value.agg #[_, _, _])) ?_
 refine r_alloc .none rfl zr106 (IsRow.lit _) (fun b_3 => ?_)
 refine r_stw (k := 0) .none sz106 rfl rfl (IsRow.lit _) (one_lit rfl rfl) rfl ?_
 refine r_nil ?_
 refine e_next ?_
 refine c_seq ?_
 refine c_seq ?_
 refine c_region ?_
 refine r_val .none rfl (p_field Try.underlying141 rfl sz3 rfl) ?_
 refine r_val .none rfl (p_ld (k := 2) Try.underlying3 rfl rfl rfl (by first | exact of_decide_eq_true rfl | omega) (rfl : _ = Value.int _ _)) ?_
 refine r_val .none rfl (p_move rfl) ?_
 refine r_val .none rfl (p_leng Try.underlying70 rfl hb) ?_
 have bd_1 := (hb).bound
 refine r_val .none rfl (p_ge rfl rfl) ?_
 refine r_nil ?_
 refine e_next ?_
 refine c_splitd (d := 13) rfl (fun h_2 => ?_) (fun h_2 => ?_)
 ·
  first
   | (exfalso; omega)
   | (
    refine c_cond_t rfl ?_
    refine c_seq ?_
    refine c_region ?_
    refine r_val .none rfl (p_assign rfl) ?_
    refine r_nil ?_
    refine e_next ?_
    refine c_ret ?_
    refine e_ret_then ?_
    refine e_ret1 Try.results85 (.tmp rfl .nil) (fun w hm => ⟨?_, hm.since⟩)
    first
    | (rw [holds_out (by omega)]; done)
    | (rw [holds_back (by omega)]; rfl)
    | (rw [holds_own (by omega)]; rfl)
    )
 ·
  first
   | (exfalso; omega)
   | (
    refine c_cond_f rfl ?_
    refine c_skip ?_
    refine e_next ?_
    refine c_seq ?_
    refine c_seq ?_
    refine c_region ?_
    refine r_val .none rfl (p_field Try.underlying141 rfl sz3 rfl) ?_
    refine r_val .none rfl (p_ld (k := 2) Try.underlying3 rfl rfl rfl (by first | exact of_decide_eq_true rfl | omega) (rfl : _ = Value.int _ _)) ?_
    refine r_val .none rfl (p_ge rfl rfl) ?_
    refine r_nil ?_
    refine e_next ?_
    refine c_splitd (d := 16) rfl (fun h_3 => ?_) (fun h_3 => ?_)
    ·
     first
      | (exfalso; omega)
      | (
       refine c_cond_t rfl ?_
       refine c_region ?_
       refine r_val .none rfl (p_move rfl) ?_
       refine r_val .none rfl (p_field Try.underlying141 rfl sz3 rfl) ?_
       refine r_val .none rfl (p_ld (k := 2) Try.underlying3 rfl rfl rfl (by first | exact of_decide_eq_true rfl | omega) (rfl : _ = Value.int _ _)) ?_
       obtain ⟨bn, rfl⟩ : ∃ bn : Nat, b = (bn : Int) := ⟨b.toNat, by omega⟩
       refine r_iaddr_g .none rfl Try.underlying70 sz106 rfl hb rfl (by first | exact of_decide_eq_true rfl | omega) (fun p_5 o_6 R_4 => ?_)
       refine r_val .none rfl (p_ldga0 Try.underlying106 rfl sz106 rfl R_4 (by first | exact of_decide_eq_true rfl | omega) (rfl : _ = Value.agg #[_, _, _])) ?_
       refine r_stw (k := 0) .none sz106 rfl rfl (IsRow.lit _) (one_lit rfl rfl) rfl ?_
       refine r_nil ?_
       refine e_next ?_
       refine c_seq ?_
       refine c_region_q mixed (by kernel_rfl) ?_
       refine q_val .none rfl (p_field Try.underlying141 rfl sz3 rfl) ?_
       refine q_val .none rfl (p_ld (k := 2) Try.underlying3 rfl rfl rfl (by first | exact of_decide_eq_true rfl | omega) (rfl : _ = Value.int _ _)) ?_
       refine q_val .none rfl (p_iaddr (k := 2) Try.underlying106 sz3 rfl rfl (by first | exact of_decide_eq_true rfl | omega)) ?_
       refine q_val .none rfl (p_ld (k := 1) Try.underlying3 rfl rfl rfl (by first | exact of_decide_eq_true rfl | omega) (rfl : _ = Value.int _ _)) ?_
       refine q_val .none rfl (p_field Try.underlying141 rfl sz3 rfl) ?_
       refine q_val .none rfl (p_ld (k := 2) Try.underlying3 rfl rfl rfl (by first | exact of_decide_eq_true rfl | omega) (rfl : _ = Value.int _ _)) ?_
       refine q_val .none rfl (p_iaddr (k := 2) Try.underlying106 sz3 rfl rfl (by first | exact of_decide_eq_true rfl | omega)) ?_
       refine q_val .none rfl (p_ld (k := 0) Try.underlying3 rfl rfl rfl (by first | exact of_decide_eq_true rfl | omega) (rfl : _ = Value.int _ _)) ?_
       refine q_val .none rfl (p_eq rfl rfl) ?_
       refine q_val .none rfl (p_assign rfl) ?_
       refine q_nil ?_
       refine e_next ?_
       refine c_ret ?_
       refine e_ret1 Try.results85 (.tmp rfl .nil) (fun w hm => ⟨?_, hm.since⟩)
       first
       | (rw [holds_out (by omega)]; done)
       | (rw [holds_back (by omega)]; rfl)
       | (rw [holds_own (by omega)]; rfl)
       )
    ·
     first
      | (exfalso; omega)
      | (
       refine c_cond_f rfl ?_
       refine c_skip ?_
       refine e_next ?_
       refine c_seq ?_
       refine c_region_q mixed (by kernel_rfl) ?_
       refine q_val .none rfl (p_field Try.underlying141 rfl sz3 rfl) ?_
       refine q_val .none rfl (p_ld (k := 2) Try.underlying3 rfl rfl rfl (by first | exact of_decide_eq_true rfl | omega) (rfl : _ = Value.int _ _)) ?_
       refine q_val .none rfl (p_iaddr (k := 2) Try.underlying106 sz3 rfl rfl (by first | exact of_decide_eq_true rfl | omega)) ?_
       refine q_val .none rfl (p_ld (k := 1) Try.underlying3 rfl rfl rfl (by first | exact of_decide_eq_true rfl | omega) (rfl : _ = Value.int _ _)) ?_
       refine q_val .none rfl (p_field Try.underlying141 rfl sz3 rfl) ?_
       refine q_val .none rfl (p_ld (k := 2) Try.underlying3 rfl rfl rfl (by first | exact of_decide_eq_true rfl | omega) (rfl : _ = Value.int _ _)) ?_
       refine q_val .none rfl (p_iaddr (k := 2) Try.underlying106 sz3 rfl rfl (by first | exact of_decide_eq_true rfl | omega)) ?_
       refine q_val .none rfl (p_ld (k := 0) Try.underlying3 rfl rfl rfl (by first | exact of_decide_eq_true rfl | omega) (rfl : _ = Value.int _ _)) ?_
       refine q_val .none rfl (p_eq rfl rfl) ?_
       refine q_val .none rfl (p_assign rfl) ?_
       refine q_nil ?_
       refine e_next ?_
       refine c_ret ?_
       refine e_ret1 Try.results85 (.tmp rfl .nil) (fun w hm => ⟨?_, hm.since⟩)
       first
       | (rw [holds_out (by omega)]; done)
       | (rw [holds_back (by omega)]; rfl)
       | (rw [holds_own (by omega)]; rfl)
       )
    )
theorem c_holds (x : TD) (vb : Value) (bs : List Tri) (t : Tri) {G : Ghost} (hx : OkT x) (hb : SlL G vb 3 triL z3 bs) (w : World) (hG : Has G w) : Calls Try.prog 85 #[Value.agg #[Value.int .i64 x.1, Value.int .i64 x.2.1, Value.int .i64 x.2.2], vb, kT t] w (Ret fun r w' => r = Value.bool (holdsT x bs t) ∧ Since nX w w') := by
 obtain ⟨f, b, o⟩ := x
 obtain ⟨hf, _, ho⟩ := hx
 dsimp only at hf ho ⊢
 rcases hf with rfl | rfl | rfl <;> rcases ho with rfl | rfl | rfl
 · exact c_holds00 b vb bs t hb w hG
 · exact c_holds01 b vb bs t hb w hG
 · exact c_holds02 b vb bs t hb w hG
 · exact c_holds10 b vb bs t hb w hG
 · exact c_holds11 b vb bs t hb w hG
 · exact c_holds12 b vb bs t hb w hG
 · exact c_holds20 b vb bs t hb w hG
 · exact c_holds21 b vb bs t hb w hG
 · exact c_holds22 b vb bs t hb w hG
theorem c_meets (k : Int) (key : Tri) (ts : List TD) (tv uv : Value) (vb : Value) (bs : List Tri) (t : Tri) {G : Ghost} (hok : ∀ x ∈ ts, OkT x) (ht : SlL G tv 3 tC t0 ts) (hb : SlL G vb 3 triL z3 bs) (w : World) (hG : Has G w) :
  Calls Try.prog 73 #[Value.agg #[Value.int .i64 k, Value.int .i64 key.1, Value.int .i64 key.2.1, Value.int .i64 key.2.2, tv, uv], vb, kT t] w (Ret fun r w' => r = Value.bool (meets k key ts bs t) ∧ Since nX w w') := by
 refine enter (args := [_, _, _]) (X := nX) (G := G) (l := [(0, Value.agg #[Value.int .i64 k, Value.int .i64 key.1, Value.int .i64 key.2.1, Value.int .i64 key.2.2, tv, uv]), (1, vb), (2, kT t)]) Try.func73 rfl Try.ntmps73 hG ⟨rfl, rfl, rfl, trivial⟩ (Nat.le_of_ble_eq_true rfl) ?_
 refine c_seq ?_
 refine c_region ?_
 refine r_box .none rfl rfl (IsRow.lit _) (fun b_1 => ?_)
 refine r_box .none rfl rfl (IsRow.lit _) (fun b_2 => ?_)
 refine r_val .none rfl (p_assign rfl) ?_
 refine r_nil ?_
 refine e_next ?_
 refine c_seq ?_
 refine c_seq ?_
 refine c_region ?_
 refine r_val .none rfl (p_field Try.underlying109 rfl sz3 rfl) ?_
 refine r_val .none rfl (p_ld (k := 1) Try.underlying3 rfl rfl rfl (by first | exact of_decide_eq_true rfl | omega) (rfl : _ = Value.int _ _)) ?_
 refine r_val .none rfl (p_eq rfl rfl) ?_
 refine r_val .none rfl (p_move rfl) ?_
 refine' r_or (c := 12) (d := 18) [_, _, _, _, _, _] rfl (fun h_1 Q_2 hQ_3 => ?_) (fun h_1 Q_2 hQ_3 => ?_) ?_
 rotate_left 1
 ·
  replace h_1 := of_decide_eq_false h_1
  refine r_val (.some rfl rfl) rfl (p_ldw (k := 0) Try.underlying106 rfl sz106 rfl rfl (rfl : _ = Value.agg #[_, _, _])) ?_
  refine r_val (.some rfl rfl) rfl (p_field Try.underlying109 rfl sz106 rfl) ?_
  refine r_val (.some rfl rfl) rfl (p_lda (k := 1) Try.underlying106 rfl sz106 rfl rfl (by first | exact of_decide_eq_true rfl | omega) (rfl : _ = Value.agg #[_, _, _])) ?_
  refine r_call (vs := [_, _]) (.some rfl rfl) rfl cl84 rfl (fun w hw => c_khas t key w) ?_
  refine r_val (.some rfl rfl) rfl (p_not rfl) ?_
  refine r_val .none rfl (p_pick_f rfl rfl) ?_
  refine r_nil (e_fin (d := 18) hQ_3 rfl (by repeat (first | exact .refl | refine .put rfl ?_ | refine .say rfl ?_ | refine .say2 rfl (by first | assumption | simp_all) ?_)))
 ·
  repeat (first | refine r_skip rfl (.no rfl rfl) ?_ | refine r_skip rfl (.un rfl rfl) ?_)
  refine r_val (by first | exact .none | exact .some rfl rfl) rfl (p_pick_t rfl rfl) ?_
  refine r_nil (e_fin (d := 18) hQ_3 rfl (by repeat (first | exact .refl | refine .put rfl ?_ | refine .say rfl ?_ | refine .say2 rfl (by first | assumption | simp_all) ?_)))
 refine r_nil ?_
 refine e_next ?_
 refine c_split (d := 18) rfl (fun h_5 => ?_) (fun h_5 => ?_)
 ·
  try simp only [norms] at h_5
  have hC := h_5
  first
   | (exfalso; omega)
   | (
    refine c_cond_t rfl ?_
    refine c_seq ?_
    refine c_region ?_
    refine r_val .none rfl (p_assign rfl) ?_
    refine r_nil ?_
    refine e_next ?_
    refine c_ret ?_
    refine e_ret_then ?_
    refine e_ret1 Try.results73 (.tmp rfl .nil) (fun w hm => ⟨?_, hm.since⟩)
    unfold meets
    first
    | (rw [if_pos hC]; done)
    | (rw [if_neg (by rintro (h | h); exact hC.1 h; rw [hC.2] at h; cases h), ← hphi.2, all_drop (k := j) (by omega), hE]; rfl)
    | (rw [if_neg (by rintro (h | h); exact hC.1 h; rw [hC.2] at h; cases h), ← hphi.2, List.drop_eq_nil_of_le (by omega)]; rfl)
    )
 ·
  try simp only [norms] at h_5
  have hC := h_5
  first
   | (exfalso; omega)
   | (
    refine c_cond_f rfl ?_
    refine c_skip ?_
    refine e_next ?_
    refine c_seq ?_
    refine c_seq ?_
    refine c_region ?_
    refine r_val .none rfl (p_field Try.underlying109 rfl sz107 rfl) ?_
    refine r_val .none rfl (p_ld (k := 1) Try.underlying107 rfl rfl rfl (by first | exact of_decide_eq_true rfl | omega) rfl) ?_
    refine r_val .none rfl (p_leng Try.underlying107 rfl ht) ?_
    have bd_6 := (ht).bound
    refine r_val .none rfl (p_move rfl) ?_
    refine r_nil ?_
    refine e_next ?_
    refine c_block ?_
    refine c_name (d := 1) rfl (fun u_7 hu_7 => ?_)
    refine c_name (d := 5) rfl (fun u_8 hu_8 => ?_)
    refine c_name (d := 20) rfl (fun u_9 hu_9 => ?_)
    refine c_name (d := 21) rfl (fun u_10 hu_10 => ?_)
    refine c_nameL (k := 0) rfl (fun A_11 hA_11 => ?_)
    refine c_nameL (k := 1) rfl (fun A_12 hA_12 => ?_)
    refine c_loop (σ := Nat) (fun j => [(22, Value.int .i64 (j : Nat)), (1, u_7), (5, u_8), (20, u_9), (21, u_10)]) (fun j => [A_11, A_12]) (fun _ => _) (fun j => j ≤ ts.length ∧ (ts.drop j).all (fun x => holdsT x bs t) = ts.all fun x => holdsT x bs t) (fun j => ts.length - j) (0) ⟨Nat.zero_le _, rfl⟩ rfl ⟨rfl, rfl, rfl, rfl, rfl, trivial⟩ (.keep (fun _ _ h => h) (.keep (fun _ _ h => h) (.nil))) (fun j hphi => ?_)
    subst hu_7
    subst hu_8
    subst hu_9
    subst hu_10
    subst hA_11
    subst hA_12
    refine c_seq ?_
    refine c_region ?_
    refine r_val .none rfl (p_lt rfl rfl) ?_
    refine r_nil ?_
    refine e_next ?_
    refine c_seq ?_
    refine c_splitd (d := 23) rfl (fun h_13 => ?_) (fun h_13 => ?_)
    ·
     first
      | (exfalso; omega)
      | (
       refine c_cond_t rfl ?_
       refine c_skip ?_
       refine e_next ?_
       refine c_seq ?_
       refine c_block ?_
       refine c_seq ?_
       refine c_region ?_
       refine r_iaddr_g .none rfl Try.underlying107 sz141 rfl ht rfl (by first | exact of_decide_eq_true rfl | omega) (fun p_15 o_16 R_14 => ?_)
       refine r_val .none rfl (p_ldga0 Try.underlying141 rfl sz141 rfl R_14 (by first | exact of_decide_eq_true rfl | omega) (rfl : _ = Value.agg #[_, _, _])) ?_
       refine r_alloc .none rfl zr141 (IsRow.lit _) (fun b_3 => ?_)
       refine r_stw (k := 0) .none sz141 rfl rfl (IsRow.lit _) (one_lit rfl rfl) rfl ?_
       refine r_nil ?_
       refine e_next ?_
       refine c_seq ?_
       refine c_region ?_
       refine r_val .none rfl (p_ldw (k := 0) Try.underlying141 rfl sz141 rfl rfl (rfl : _ = Value.agg #[_, _, _])) ?_
       refine r_val .none rfl (p_move rfl) ?_
       refine r_val .none rfl (p_ldw (k := 1) Try.underlying106 rfl sz106 rfl rfl (rfl : _ = Value.agg #[_, _, _])) ?_
       refine r_call (vs := [_, _, _]) .none rfl cl85 rfl (fun w hw => c_holds _ _ _ _ (hok _ (getD_mem (d := t0) (by omega))) hb w hw) ?_
       refine r_val .none rfl (p_not rfl) ?_
       refine r_nil ?_
       refine e_next ?_
       refine c_splitn (d := 30) rfl (fun h_17 => ?_) (fun h_17 => ?_)
       ·
        have hE : holdsT (ts.getD j t0) bs t = false := h_17
        first
         | (exfalso; omega)
         | (
          refine c_cond_t rfl ?_
          refine c_seq ?_
          refine c_region ?_
          refine r_val .none rfl (p_assign rfl) ?_
          refine r_nil ?_
          refine e_next ?_
          refine c_ret ?_
          refine e_ret_block ?_
          refine e_ret_then ?_
          refine e_ret_then ?_
          refine e_ret_block ?_
          refine e_ret_then ?_
          refine e_ret1 Try.results73 (.tmp rfl .nil) (fun w hm => ⟨?_, hm.since⟩)
          unfold meets
          first
          | (rw [if_pos hC]; done)
          | (rw [if_neg (by rintro (h | h); exact hC.1 h; rw [hC.2] at h; cases h), ← hphi.2, all_drop (k := j) (by omega), hE]; rfl)
          | (rw [if_neg (by rintro (h | h); exact hC.1 h; rw [hC.2] at h; cases h), ← hphi.2, List.drop_eq_nil_of_le (by omega)]; rfl)
          )
       ·
        have hE : holdsT (ts.getD j t0) bs t = true := h_17
        first
         | (exfalso; omega)
         | (
          refine c_cond_f rfl ?_
          refine c_skip ?_
          refine e_norm_block ?_
          refine e_next ?_
          refine c_region ?_
          refine r_val .none rfl (p_add rfl rfl (by omega)) ?_
          refine r_val .none rfl (p_move rfl) ?_
          refine r_nil ?_
          refine e_round (j + 1) ⟨⟨by omega, by rw [← hphi.2, all_drop (k := j) (by omega), hE, Bool.true_and]⟩, by omega⟩ rfl ⟨rfl, rfl, rfl, rfl, rfl, trivial⟩ (.drop (.keep (fun _ _ h => h) (.keep (fun _ _ h => h) (.nil))))
          )
       )
    ·
     first
      | (exfalso; omega)
      | (
       refine c_cond_f rfl ?_
       refine c_exit ?_
       refine e_exit_then ?_
       refine e_exit_then ?_
       refine e_exit_block ?_
       refine e_next ?_
       refine c_seq ?_
       refine c_region ?_
       refine r_val .none rfl (p_assign rfl) ?_
       refine r_nil ?_
       refine e_next ?_
       refine c_ret ?_
       refine e_ret1 Try.results73 (.tmp rfl .nil) (fun w hm => ⟨?_, hm.since⟩)
       unfold meets
       first
       | (rw [if_pos hC]; done)
       | (rw [if_neg (by rintro (h | h); exact hC.1 h; rw [hC.2] at h; cases h), ← hphi.2, all_drop (k := j) (by omega), hE]; rfl)
       | (rw [if_neg (by rintro (h | h); exact hC.1 h; rw [hC.2] at h; cases h), ← hphi.2, List.drop_eq_nil_of_le (by omega)]; rfl)
       )
    )
theorem c_which (k : Int) (key : Tri) (ts : List TD) (tv uv : Value) (vb : Value) (bs : List Tri) (vf : Value) (fs : List FD) {G : Ghost} (hln : fs.length ≤ 2000) (hok : ∀ x ∈ ts, OkT x) (ht : SlL G tv 3 tC t0 ts) (hb : SlL G vb 3 triL z3 bs) (hf : SlL G vf 4 fC f0 fs) (w : World) (hG : Has G w) :
  Calls Try.prog 66 #[Value.agg #[Value.int .i64 k, Value.int .i64 key.1, Value.int .i64 key.2.1, Value.int .i64 key.2.2, tv, uv], vb, vf] w (Ret fun r w' => ∃ G', GNew w nX G G' ∧ Has G' w' ∧ SlL G' r 1 cI (0 : Int) (which k key ts bs fs) ∧ Since nX w w') := by
 refine enter (args := [_, _, _]) (X := nX) (G := G) (l := [(0, Value.agg #[Value.int .i64 k, Value.int .i64 key.1, Value.int .i64 key.2.1, Value.int .i64 key.2.2, tv, uv]), (1, vb), (2, vf)]) Try.func66 rfl Try.ntmps66 hG ⟨rfl, rfl, rfl, trivial⟩ (Nat.le_of_ble_eq_true rfl) ?_
 refine c_seq ?_
 refine c_region ?_
 refine r_box .none rfl rfl (IsRow.lit _) (fun b_1 => ?_)
 refine r_val .none rfl (p_assign rfl) ?_
 refine r_nil ?_
 refine e_next ?_
 refine c_seq ?_
 refine c_region ?_
 refine r_val .none rfl (p_assign rfl) ?_
 refine r_nil ?_
 refine e_next ?_
 refine c_seq ?_
 refine c_seq ?_
 refine c_region ?_
 refine r_val .none rfl (p_move rfl) ?_
 refine r_val .none rfl (p_leng Try.underlying72 rfl hf) ?_
 have bd_1 := (hf).bound
 refine r_val .none rfl (p_move rfl) ?_
 refine r_nil ?_
 refine e_next ?_
 refine c_block ?_
 refine c_nilrow 3 1 ?_
 refine c_name (d := 1) rfl (fun u_2 hu_2 => ?_)
 refine c_name (d := 3) rfl (fun u_3 hu_3 => ?_)
 refine c_name (d := 6) rfl (fun u_4 hu_4 => ?_)
 refine c_name (d := 10) rfl (fun u_5 hu_5 => ?_)
 refine c_name (d := 11) rfl (fun u_6 hu_6 => ?_)
 refine c_nameL (k := 1) rfl (fun A_7 hA_7 => ?_)
 refine c_loop (σ := Nat × Value) (fun s => [(12, Value.int .i64 (s.1 : Nat)), (7, s.2), (1, u_2), (3, u_3), (6, u_4), (10, u_5), (11, u_6)]) (fun s => [rowA (s.2) 3 1 ((which k key ts bs (fs.take s.1))).length (((which k key ts bs (fs.take s.1))).flatMap cI), A_7]) (fun _ => _) (fun s => s.1 ≤ fs.length) (fun s => fs.length - s.1) ((0, _)) (Nat.zero_le _) rfl ⟨rfl, rfl, rfl, rfl, rfl, rfl, rfl, trivial⟩ (.keep (fun _ _ h => rowA_nil rfl _ _ h) (.keep (fun _ _ h => h) (.nil))) (fun s hphi => ?_)
 subst hu_2
 subst hu_3
 subst hu_4
 subst hu_5
 subst hu_6
 subst hA_7
 obtain ⟨j, v⟩ := s
 dsimp only at hphi ⊢
 have hwl := which_len k key ts bs (fs.take j)
 rw [List.length_take] at hwl
 refine c_seq ?_
 refine c_region ?_
 refine r_val .none rfl (p_lt rfl rfl) ?_
 refine r_nil ?_
 refine e_next ?_
 refine c_seq ?_
 refine c_splitd (d := 13) rfl (fun h_8 => ?_) (fun h_8 => ?_)
 ·
  first
   | (exfalso; omega)
   | (
    refine c_cond_t rfl ?_
    refine c_skip ?_
    refine e_next ?_
    refine c_seq ?_
    refine c_block ?_
    refine c_seq ?_
    refine c_region ?_
    refine r_iaddr_g .none rfl Try.underlying72 sz120 rfl hf rfl (by first | exact of_decide_eq_true rfl | omega) (fun p_10 o_11 R_9 => ?_)
    refine r_val .none rfl (p_ldga0 Try.underlying120 rfl sz120 rfl R_9 (by first | exact of_decide_eq_true rfl | omega) (rfl : _ = Value.agg #[_, _, _, _])) ?_
    refine r_alloc .none rfl zr120 (IsRow.lit _) (fun b_2 => ?_)
    refine r_stw (k := 0) .none sz120 rfl rfl (IsRow.lit _) (one_lit rfl rfl) rfl ?_
    refine r_nil ?_
    refine e_next ?_
    refine c_seq ?_
    refine c_region ?_
    refine r_val .none rfl (p_ldw (k := 2) Try.underlying109 rfl sz109 rfl rfl (rfl : _ = Value.agg #[_, _, _, _, _, _])) ?_
    refine r_val .none rfl (p_move rfl) ?_
    refine r_val .none rfl (p_field Try.underlying120 rfl sz106 rfl) ?_
    refine r_val .none rfl (p_lda (k := 0) Try.underlying106 rfl sz106 rfl rfl (by first | exact of_decide_eq_true rfl | omega) (rfl : _ = Value.agg #[_, _, _])) ?_
    refine r_call (vs := [_, _, _]) .none rfl cl73 rfl (fun w hw => c_meets k key ts _ _ _ bs (fs.getD j f0).2 hok ht hb w hw) ?_
    refine r_nil ?_
    refine e_next ?_
    refine c_split (d := 20) rfl (fun h_12 => ?_) (fun h_12 => ?_)
    ·
     first
      | (exfalso; omega)
      | (
       refine c_cond_t rfl ?_
       refine c_region ?_
       refine r_val .none rfl (p_move rfl) ?_
       refine r_val .none rfl (p_field Try.underlying120 rfl sz3 rfl) ?_
       refine r_val .none rfl (p_ld (k := 0) Try.underlying3 rfl rfl rfl (by first | exact of_decide_eq_true rfl | omega) (rfl : _ = Value.int _ _)) ?_
       refine r_bslice (vs := [(0, Value.int _ _)]) (c := #[_]) .none rfl Try.underlying22 el3 rfl rfl rfl (bs3_10i2 _ _) (IsRow.lit _) (fun b_3 => ?_)
       refine r_append (k := 2) (k2 := 0) .none rfl Try.underlying22 el3 rfl (by decide) rfl rfl rfl rfl rfl (one_lit rfl rfl) (by simp only [maxLen]; omega) (by omega) (fun v_13 => ?_)
       refine r_row1 (k := 2) rfl (fun o_14 => ?_)
       refine r_val .none rfl (p_assign rfl) ?_
       refine r_nil ?_
       refine e_norm_block ?_
       refine e_next ?_
       refine c_region ?_
       refine r_val .none rfl (p_add rfl rfl (by omega)) ?_
       refine r_val .none rfl (p_move rfl) ?_
       refine r_nil ?_
       refine e_round ((j + 1, _)) ⟨by dsimp only; omega, by dsimp only; omega⟩ rfl ⟨rfl, rfl, rfl, rfl, rfl, rfl, rfl, trivial⟩ (.drop (.drop (.keep (fun _ _ h => rowA_snoc (which_yes (by omega) (by assumption)) rfl rfl rfl _ _ h) (.keep (fun _ _ h => h) (.nil)))))
       )
    ·
     first
      | (exfalso; omega)
      | (
       refine c_cond_f rfl ?_
       refine c_skip ?_
       refine e_norm_block ?_
       refine e_next ?_
       refine c_region ?_
       refine r_val .none rfl (p_add rfl rfl (by omega)) ?_
       refine r_val .none rfl (p_move rfl) ?_
       refine r_nil ?_
       refine e_round ((j + 1, _)) ⟨by dsimp only; omega, by dsimp only; omega⟩ rfl ⟨rfl, rfl, rfl, rfl, rfl, rfl, rfl, trivial⟩ (.drop (.keep (fun _ _ h => rowA_same (which_no (by omega) (by assumption)) _ _ h) (.keep (fun _ _ h => h) (.nil))))
       )
    )
 ·
  first
   | (exfalso; omega)
   | (
    refine c_cond_f rfl ?_
    refine c_exit ?_
    refine e_exit_then ?_
    refine e_exit_then ?_
    refine e_exit_block ?_
    refine e_next ?_
    refine c_seq ?_
    refine c_region ?_
    refine r_val .none rfl (p_move rfl) ?_
    refine r_val .none rfl (p_assign rfl) ?_
    refine r_nil ?_
    refine e_next ?_
    refine c_ret ?_
    refine e_freeze (k := 0) rfl (fun G_15 hn_16 hs_17 => ?_)
    replace hb := hb.mono hn_16.le
    replace hf := hf.mono hn_16.le
    replace ht := ht.mono hn_16.le
    refine e_ret1 Try.results66 (.tmp rfl .nil) (fun w hm => ⟨_, hn_16, hm.has, ?_, hm.since⟩)
    have e : which k key ts bs (fs.take j) = which k key ts bs fs := by rw [List.take_of_length_le (by omega)]
    exact SlL.of2 (0 : Int) (fun _ => rfl) (by rw [e]) (by rw [e]) hs_17
    )
theorem c_cloneI_a (a : Option Addr) (cap : Nat) (rs : List (Int)) {G : Ghost} (hr : SlL G (Value.slice a rs.length cap) 1 cI (0 : Int) rs) (hlen : rs.length ≤ 1000) (w : World) (hG : Has G w) :
  Calls Try.prog 50 #[Value.slice a rs.length cap] w (Ret fun r w' => Since nX w w' ∧ ∃ F', (rowA r 3 1 (rs).length ((rs).flatMap cI)).holds w' F' ∧ ∀ b, F' b → w.heap.size ≤ b) := by
 refine enter (args := [_]) (X := nX) (G := G) (l := [(0, Value.slice a rs.length cap)]) Try.func50 rfl Try.ntmps50 hG ⟨rfl, trivial⟩ (Nat.le_of_ble_eq_true rfl) ?_
 refine c_seq ?_
 refine c_region ?_
 refine r_val .none rfl (p_assign rfl) ?_
 refine r_nil ?_
 refine e_next ?_
 refine c_seq ?_
 refine c_seq ?_
 refine c_region ?_
 refine r_val .none rfl (p_move rfl) ?_
 refine r_val .none rfl (p_eqnil Try.underlying22 rfl rfl) ?_
 refine r_nil ?_
 refine e_next ?_
 refine c_split (d := 4) rfl (fun h_1 => ?_) (fun h_1 => ?_)
 ·
  have hrs : rs = [] := by cases a with | none => exact nil_rs hr | some x => cases h_1
  refine c_cond_t rfl ?_
  refine c_seq ?_
  refine c_region ?_
  refine r_val .none rfl (p_assign rfl) ?_
  refine r_nilrow 3 1 ?_
  refine r_nil ?_
  refine e_next ?_
  refine c_ret ?_
  refine e_ret_then ?_
  refine e_ret1 Try.results50 (.tmp rfl .nil) (fun w hm => hm.made [rowA (.slice none 0 0) 3 1 (rs).length ((rs).flatMap cI)] (.keep (fun _ _ h => rowA_congr (by rw [hrs]; rfl) (by rw [hrs]; rfl) _ _ h) (.nil)) _ (fun F' h => starL_one h))
 ·
  refine c_cond_f rfl ?_
  refine c_skip ?_
  refine e_next ?_
  refine c_seq ?_
  refine c_region ?_
  refine r_bslice0 .none rfl Try.underlying22 el3 (fun v_2 => ?_)
  refine r_val .none rfl (p_move rfl) ?_
  refine r_append_g (k := 0) .none rfl Try.underlying22 el3 rfl (by decide) rfl rfl rfl hr (fun _ _ _ hj => one_lit rfl rfl _ hj) (by simp only [maxLen]; omega) (by omega) (fun v_3 => ?_)
  refine r_row1 (k := 0) rfl (fun o_4 => ?_)
  refine r_val .none rfl (p_assign rfl) ?_
  refine r_nil ?_
  refine e_next ?_
  refine c_ret ?_
  refine e_ret1 Try.results50 (.tmp rfl .nil) (fun w hm => hm.made [rowA v_3 3 1 (rs).length ((rs).flatMap cI)] (.keep (fun _ _ h => rowA_congr (by omega) (by rw [flat_all (cells := cI) (fun _ => rfl)]; rfl) _ _ h) (.nil)) _ (fun F' h => starL_one h))
theorem c_cloneI (v : Value) (rs : List (Int)) {G : Ghost} (hr : SlL G v 1 cI (0 : Int) rs) (hlen : rs.length ≤ 1000) (w : World) (hG : Has G w) : Calls Try.prog 50 #[v] w (Ret fun r w' => Since nX w w' ∧ ∃ F', (rowA r 3 1 (rs).length ((rs).flatMap cI)).holds w' F' ∧ ∀ b, F' b → w.heap.size ≤ b) := by
 obtain ⟨a, cap, rfl⟩ := SlG.len hr
 exact c_cloneI_a a cap rs hr hlen w hG
theorem c_cloneT_a (a : Option Addr) (cap : Nat) (rs : List (Tri)) {G : Ghost} (hr : SlL G (Value.slice a rs.length cap) 3 triL z3 rs) (hlen : rs.length ≤ 1000) (w : World) (hG : Has G w) :
  Calls Try.prog 80 #[Value.slice a rs.length cap] w (Ret fun r w' => Since nX w w' ∧ ∃ F', (rowA r 106 3 (rs).length ((rs).flatMap triL)).holds w' F' ∧ ∀ b, F' b → w.heap.size ≤ b) := by
 refine enter (args := [_]) (X := nX) (G := G) (l := [(0, Value.slice a rs.length cap)]) Try.func80 rfl Try.ntmps80 hG ⟨rfl, trivial⟩ (Nat.le_of_ble_eq_true rfl) ?_
 refine c_seq ?_
 refine c_region ?_
 refine r_val .none rfl (p_assign rfl) ?_
 refine r_nil ?_
 refine e_next ?_
 refine c_seq ?_
 refine c_seq ?_
 refine c_region ?_
 refine r_val .none rfl (p_move rfl) ?_
 refine r_val .none rfl (p_eqnil Try.underlying70 rfl rfl) ?_
 refine r_nil ?_
 refine e_next ?_
 refine c_split (d := 4) rfl (fun h_1 => ?_) (fun h_1 => ?_)
 ·
  have hrs : rs = [] := by cases a with | none => exact nil_rs hr | some x => cases h_1
  refine c_cond_t rfl ?_
  refine c_seq ?_
  refine c_region ?_
  refine r_val .none rfl (p_assign rfl) ?_
  refine r_nilrow 106 3 ?_
  refine r_nil ?_
  refine e_next ?_
  refine c_ret ?_
  refine e_ret_then ?_
  refine e_ret1 Try.results80 (.tmp rfl .nil) (fun w hm => hm.made [rowA (.slice none 0 0) 106 3 (rs).length ((rs).flatMap triL)] (.keep (fun _ _ h => rowA_congr (by rw [hrs]; rfl) (by rw [hrs]; rfl) _ _ h) (.nil)) _ (fun F' h => starL_one h))
 ·
  refine c_cond_f rfl ?_
  refine c_skip ?_
  refine e_next ?_
  refine c_seq ?_
  refine c_region ?_
  refine r_bslice0 .none rfl Try.underlying70 el106 (fun v_2 => ?_)
  refine r_val .none rfl (p_move rfl) ?_
  refine r_append_g (k := 0) .none rfl Try.underlying70 el106 rfl (by decide) rfl rfl rfl hr (fun _ _ _ hj => one_lit rfl rfl _ hj) (by simp only [maxLen]; omega) (by omega) (fun v_3 => ?_)
  refine r_row1 (k := 0) rfl (fun o_4 => ?_)
  refine r_val .none rfl (p_assign rfl) ?_
  refine r_nil ?_
  refine e_next ?_
  refine c_ret ?_
  refine e_ret1 Try.results80 (.tmp rfl .nil) (fun w hm => hm.made [rowA v_3 106 3 (rs).length ((rs).flatMap triL)] (.keep (fun _ _ h => rowA_congr (by omega) (by rw [flat_all (cells := triL) (fun _ => rfl)]; rfl) _ _ h) (.nil)) _ (fun F' h => starL_one h))
theorem c_cloneT (v : Value) (rs : List (Tri)) {G : Ghost} (hr : SlL G v 3 triL z3 rs) (hlen : rs.length ≤ 1000) (w : World) (hG : Has G w) : Calls Try.prog 80 #[v] w (Ret fun r w' => Since nX w w' ∧ ∃ F', (rowA r 106 3 (rs).length ((rs).flatMap triL)).holds w' F' ∧ ∀ b, F' b → w.heap.size ≤ b) := by
 obtain ⟨a, cap, rfl⟩ := SlG.len hr
 exact c_cloneT_a a cap rs hr hlen w hG
theorem c_with (m : MT) (f : FD) (vi vb : Value) {G : Ghost} (hl : m.1.length ≤ 1000 ∧ m.2.length ≤ 1000) (hi : SlL G vi 1 cI 0 m.1) (hb : SlL G vb 3 triL z3 m.2) (w : World) (hG : Has G w) :
  Calls Try.prog 69 #[Value.agg #[vi, vb], Value.agg #[Value.int .i64 f.1, Value.int .i64 f.2.1, Value.int .i64 f.2.2.1, Value.int .i64 f.2.2.2]] w (Ret fun r w' => ∃ G', GNew w nX G G' ∧ Has G' w' ∧ (∃ ua ub, r = Value.agg #[ua, ub] ∧ SlL G' ua 1 cI 0 (m.1 ++ [f.1]) ∧ SlL G' ub 3 triL z3 (m.2 ++ [f.2])) ∧ Since nX w w') := by
 refine enter (args := [_, _]) (X := nX) (G := G) (l := [(0, Value.agg #[vi, vb]), (1, Value.agg #[Value.int .i64 f.1, Value.int .i64 f.2.1, Value.int .i64 f.2.2.1, Value.int .i64 f.2.2.2])]) Try.func69 rfl Try.ntmps69 hG ⟨rfl, rfl, trivial⟩ (Nat.le_of_ble_eq_true rfl) ?_
 refine c_seq ?_
 refine c_region ?_
 refine r_box .none rfl rfl (IsRow.lit _) (fun b_1 => ?_)
 refine r_box .none rfl rfl (IsRow.lit _) (fun b_2 => ?_)
 refine r_alloc .none rfl zr137 (IsRow.lit _) (fun b_3 => ?_)
 refine r_nil ?_
 refine e_next ?_
 refine c_seq ?_
 refine c_region_d (fun j => [15].contains j) _ mixed (.keep (fun _ _ h => h) (.keep (fun _ _ h => h) (.keep (fun _ _ h => h) (.nil)))) ?_
 refine d_val1 0 rfl rfl (by kernel_rfl) (fun j hj => by have h : 15 < j := (Nat.lt_of_lt_of_le (by decide : 15 < 16) hj); simp; omega) .none rfl (p_field Try.underlying137 rfl sz22 rfl) ?_
 refine d_val1 1 rfl rfl (by kernel_rfl) (fun j hj => by have h : 15 < j := (Nat.lt_of_lt_of_le (by decide : 15 < 16) hj); simp; omega) .none rfl (p_ld (k := 2) Try.underlying22 rfl rfl rfl (by first | exact of_decide_eq_true rfl | omega) rfl) ?_
 refine d_val1 3 rfl rfl (by kernel_rfl) (fun j hj => by have h : 15 < j := (Nat.lt_of_lt_of_le (by decide : 15 < 16) hj); simp; omega) .none rfl (p_field Try.underlying120 rfl sz3 rfl) ?_
 refine d_val1 4 rfl rfl (by kernel_rfl) (fun j hj => by have h : 15 < j := (Nat.lt_of_lt_of_le (by decide : 15 < 16) hj); simp; omega) .none rfl (p_ld (k := 1) Try.underlying3 rfl rfl rfl (by first | exact of_decide_eq_true rfl | omega) (rfl : _ = Value.int _ _)) ?_
 refine d_val1 7 rfl rfl (by kernel_rfl) (fun j hj => by have h : 15 < j := (Nat.lt_of_lt_of_le (by decide : 15 < 16) hj); simp; omega) .none rfl (p_field Try.underlying137 rfl sz70 rfl) ?_
 refine d_val1 8 rfl rfl (by kernel_rfl) (fun j hj => by have h : 15 < j := (Nat.lt_of_lt_of_le (by decide : 15 < 16) hj); simp; omega) .none rfl (p_ld (k := 2) Try.underlying70 rfl rfl rfl (by first | exact of_decide_eq_true rfl | omega) rfl) ?_
 refine d_val1 10 rfl rfl (by kernel_rfl) (fun j hj => by have h : 15 < j := (Nat.lt_of_lt_of_le (by decide : 15 < 16) hj); simp; omega) .none rfl (p_field Try.underlying120 rfl sz106 rfl) ?_
 refine d_val1 11 rfl rfl (by kernel_rfl) (fun j hj => by have h : 15 < j := (Nat.lt_of_lt_of_le (by decide : 15 < 16) hj); simp; omega) .none rfl (p_lda (k := 1) Try.underlying106 rfl sz106 rfl rfl (by first | exact of_decide_eq_true rfl | omega) (rfl : _ = Value.agg #[_, _, _])) ?_
 refine d_eff3 2 5 12 rfl rfl rfl (by kernel_rfl) (fun K_1 hKK_1 hcK_1 => ?_) (fun K_1 hKK_1 hcK_1 => ?_) (fun K_1 hKK_1 hcK_1 => ?_)
 ·
  refine r_callrow (vs := [_]) .none rfl cl50 rfl (fun w hw => c_cloneI _ m.1 hi (by omega) w hw) (fun v_2 => ?_)
  refine r_nil (e_d (i := 2) (brk := (fun j => [15].contains j)) (ph' := true) hKK_1 hcK_1 rfl (fun _ => GLe.refl _) (fun _ => .drop (.keep (fun _ _ h => h) (.keep (fun _ _ h => h) (.keep (fun _ _ h => h) (.nil))))) ?_)
  clear hKK_1 hcK_1 K_1
  refine d_eff2 5 12 rfl rfl (by kernel_rfl) (fun K_3 hKK_3 hcK_3 => ?_) (fun K_3 hKK_3 hcK_3 => ?_)
  ·
   refine r_bslice (vs := [(0, Value.int _ _)]) (c := #[_]) .none rfl Try.underlying22 el3 rfl rfl rfl (bs3_10i2 _ _) (IsRow.lit _) (fun b_4 => ?_)
   refine r_nil (e_d (i := 5) (brk := (fun j => [15].contains j)) (ph' := true) hKK_3 hcK_3 rfl (fun _ => GLe.refl _) (fun _ => .drop (.drop (.keep (fun _ _ h => h) (.keep (fun _ _ h => h) (.keep (fun _ _ h => h) (.nil)))))) ?_)
   clear hKK_3 hcK_3 K_3
   refine d_eff2 6 12 rfl rfl (by kernel_rfl) (fun K_4 hKK_4 hcK_4 => ?_) (fun K_4 hKK_4 hcK_4 => ?_)
   ·
    refine r_append (k := 1) (k2 := 0) .none rfl Try.underlying22 el3 rfl (by decide) rfl rfl rfl rfl rfl (one_lit rfl rfl) (by simp only [maxLen]; omega) (by omega) (fun v_5 => ?_)
    refine r_row1 (k := 1) rfl (fun o_6 => ?_)
    refine r_nil (e_d (i := 6) (brk := (fun j => [15].contains j)) (ph' := true) hKK_4 hcK_4 rfl (fun _ => GLe.refl _) (fun _ => .drop (.drop (.keep (fun _ _ h => h) (.keep (fun _ _ h => h) (.keep (fun _ _ h => h) (.nil)))))) ?_)
    clear hKK_4 hcK_4 K_4
    refine d_eff2 9 12 rfl rfl (by kernel_rfl) (fun K_7 hKK_7 hcK_7 => ?_) (fun K_7 hKK_7 hcK_7 => ?_)
    ·
     refine r_callrow (vs := [_]) .none rfl cl80 rfl (fun w hw => c_cloneT _ m.2 hb (by omega) w hw) (fun v_8 => ?_)
     refine r_nil (e_d (i := 9) (brk := (fun j => [15].contains j)) (ph' := true) hKK_7 hcK_7 rfl (fun _ => GLe.refl _) (fun _ => .drop (.drop (.drop (.keep (fun _ _ h => h) (.keep (fun _ _ h => h) (.keep (fun _ _ h => h) (.nil))))))) ?_)
     clear hKK_7 hcK_7 K_7
     refine d_eff 12 rfl (by kernel_rfl) (fun K_9 hKK_9 hcK_9 => ?_)
     refine r_bslice (vs := [(0, Value.agg #[_, _, _])]) (c := #[_, _, _]) .none rfl Try.underlying70 el106 rfl rfl rfl (bs106_10a3 _ _ _) (IsRow.lit _) (fun b_5 => ?_)
     refine r_nil (e_d (i := 12) (brk := (fun j => [15].contains j)) (ph' := true) hKK_9 hcK_9 rfl (fun _ => GLe.refl _) (fun _ => .drop (.drop (.drop (.drop (.keep (fun _ _ h => h) (.keep (fun _ _ h => h) (.keep (fun _ _ h => h) (.nil)))))))) ?_)
     clear hKK_9 hcK_9 K_9
     refine d_eff 13 rfl (by kernel_rfl) (fun K_10 hKK_10 hcK_10 => ?_)
     refine r_append (k := 1) (k2 := 0) .none rfl Try.underlying70 el106 rfl (by decide) rfl rfl rfl rfl rfl (one_lit rfl rfl) (by simp only [maxLen]; omega) (by omega) (fun v_11 => ?_)
     refine r_row1 (k := 1) rfl (fun o_12 => ?_)
     refine r_nil (e_d (i := 13) (brk := (fun j => [15].contains j)) (ph' := true) hKK_10 hcK_10 rfl (fun _ => GLe.refl _) (fun _ => .drop (.drop (.drop (.drop (.keep (fun _ _ h => h) (.keep (fun _ _ h => h) (.keep (fun _ _ h => h) (.nil)))))))) ?_)
     clear hKK_10 hcK_10 K_10
     refine d_rowsl (k := 3) rfl (fun a_13 c_14 e_15 => ?_)
     subst e_15
     refine d_rowsl (k := 1) rfl (fun a_16 c_17 e_18 => ?_)
     subst e_18
     refine d_val1 14 rfl rfl (by kernel_rfl) (fun j hj => by have h : 15 < j := (Nat.lt_of_lt_of_le (by decide : 15 < 16) hj); simp; omega) .none rfl (p_build (vs := [(0, Value.slice _ _ _), (1, Value.slice _ _ _)]) rfl (bl137_0s3_1s3 _ _ _ _ _ _)) ?_
     refine d_eff 15 rfl (by kernel_rfl) (fun K_19 hKK_19 hcK_19 => ?_)
     refine r_stw (k := 4) .none sz137 rfl rfl (IsRow.lit _) (one_lit rfl (by simp [Value.oneCell', o_6, o_12])) rfl ?_
     refine r_nil (e_d (i := 15) (brk := (fun j => [15].contains j)) (ph' := false) hKK_19 hcK_19 rfl (fun h => by cases h) (fun h => by cases h) ?_)
     clear hKK_19 hcK_19 K_19
     refine d_nil (by kernel_rfl) ?_
     refine e_next ?_
     refine c_ret ?_
     refine e_freeze (k := 3) rfl (fun G_20 hn_21 hs_22 => ?_)
     replace hi := hi.mono hn_21.le
     replace hb := hb.mono hn_21.le
     have hwi : SlL G_20 (Value.slice a_13 _ c_14) 1 cI 0 (m.1 ++ [f.1]) := SlL.of2 0 (fun _ => rfl) (by simp) (by rw [List.flatMap_append, List.flatMap_cons, List.flatMap_nil, List.append_nil]; rfl) hs_22
     refine e_freeze (k := 1) rfl (fun G_23 hn_24 hs_25 => ?_)
     replace hi := hi.mono hn_24.le
     replace hb := hb.mono hn_24.le
     replace hwi := hwi.mono hn_24.le
     have hwb : SlL G_23 (Value.slice a_16 _ c_17) 3 triL z3 (m.2 ++ [f.2]) := SlL.of2 z3 (fun _ => rfl) (by simp) (by rw [List.flatMap_append, List.flatMap_cons, List.flatMap_nil, List.append_nil]; rfl) hs_25
     refine e_ret1 Try.results69 (.cell (k := 2) rfl Try.underlying137 rfl sz137 rfl (rfl : _ = Value.agg #[_, _]) .nil) (fun w hm => ⟨_, (hn_21.trans hn_24), hm.has, ?_, hm.since⟩)
     exact ⟨_, _, rfl, hwi, hwb⟩
    ·
     refine r_bslice (vs := [(0, Value.agg #[_, _, _])]) (c := #[_, _, _]) .none rfl Try.underlying70 el106 rfl rfl rfl (bs106_10a3 _ _ _) (IsRow.lit _) (fun b_6 => ?_)
     refine r_nil (e_d (i := 12) (brk := (fun j => [15].contains j)) (ph' := true) hKK_7 hcK_7 rfl (fun _ => GLe.refl _) (fun _ => .drop (.drop (.drop (.keep (fun _ _ h => h) (.keep (fun _ _ h => h) (.keep (fun _ _ h => h) (.nil))))))) ?_)
     clear hKK_7 hcK_7 K_7
     refine d_eff 9 rfl (by kernel_rfl) (fun K_26 hKK_26 hcK_26 => ?_)
     refine r_callrow (vs := [_]) .none rfl cl80 rfl (fun w hw => c_cloneT _ m.2 hb (by omega) w hw) (fun v_27 => ?_)
     refine r_nil (e_d (i := 9) (brk := (fun j => [15].contains j)) (ph' := true) hKK_26 hcK_26 rfl (fun _ => GLe.refl _) (fun _ => .drop (.drop (.drop (.drop (.keep (fun _ _ h => h) (.keep (fun _ _ h => h) (.keep (fun _ _ h => h) (.nil)))))))) ?_)
     clear hKK_26 hcK_26 K_26
     refine d_eff 13 rfl (by kernel_rfl) (fun K_28 hKK_28 hcK_28 => ?_)
     refine r_append (k := 0) (k2 := 1) .none rfl Try.underlying70 el106 rfl (by decide) rfl rfl rfl rfl rfl (one_lit rfl rfl) (by simp only [maxLen]; omega) (by omega) (fun v_29 => ?_)
     refine r_row1 (k := 0) rfl (fun o_30 => ?_)
     refine r_nil (e_d (i := 13) (brk := (fun j => [15].contains j)) (ph' := true) hKK_28 hcK_28 rfl (fun _ => GLe.refl _) (fun _ => .drop (.drop (.drop (.drop (.keep (fun _ _ h => h) (.keep (fun _ _ h => h) (.keep (fun _ _ h => h) (.nil)))))))) ?_)
     clear hKK_28 hcK_28 K_28
     refine d_rowsl (k := 3) rfl (fun a_31 c_32 e_33 => ?_)
     subst e_33
     refine d_rowsl (k := 0) rfl (fun a_34 c_35 e_36 => ?_)
     subst e_36
     refine d_val1 14 rfl rfl (by kernel_rfl) (fun j hj => by have h : 15 < j := (Nat.lt_of_lt_of_le (by decide : 15 < 16) hj); simp; omega) .none rfl (p_build (vs := [(0, Value.slice _ _ _), (1, Value.slice _ _ _)]) rfl (bl137_0s3_1s3 _ _ _ _ _ _)) ?_
     refine d_eff 15 rfl (by kernel_rfl) (fun K_37 hKK_37 hcK_37 => ?_)
     refine r_stw (k := 4) .none sz137 rfl rfl (IsRow.lit _) (one_lit rfl (by simp [Value.oneCell', o_6, o_30])) rfl ?_
     refine r_nil (e_d (i := 15) (brk := (fun j => [15].contains j)) (ph' := false) hKK_37 hcK_37 rfl (fun h => by cases h) (fun h => by cases h) ?_)
     clear hKK_37 hcK_37 K_37
     refine d_nil (by kernel_rfl) ?_
     refine e_next ?_
     refine c_ret ?_
     refine e_freeze (k := 3) rfl (fun G_38 hn_39 hs_40 => ?_)
     replace hi := hi.mono hn_39.le
     replace hb := hb.mono hn_39.le
     have hwi : SlL G_38 (Value.slice a_31 _ c_32) 1 cI 0 (m.1 ++ [f.1]) := SlL.of2 0 (fun _ => rfl) (by simp) (by rw [List.flatMap_append, List.flatMap_cons, List.flatMap_nil, List.append_nil]; rfl) hs_40
     refine e_freeze (k := 0) rfl (fun G_41 hn_42 hs_43 => ?_)
     replace hi := hi.mono hn_42.le
     replace hb := hb.mono hn_42.le
     replace hwi := hwi.mono hn_42.le
     have hwb : SlL G_41 (Value.slice a_34 _ c_35) 3 triL z3 (m.2 ++ [f.2]) := SlL.of2 z3 (fun _ => rfl) (by simp) (by rw [List.flatMap_append, List.flatMap_cons, List.flatMap_nil, List.append_nil]; rfl) hs_43
     refine e_ret1 Try.results69 (.cell (k := 2) rfl Try.underlying137 rfl sz137 rfl (rfl : _ = Value.agg #[_, _]) .nil) (fun w hm => ⟨_, (hn_39.trans hn_42), hm.has, ?_, hm.since⟩)
     exact ⟨_, _, rfl, hwi, hwb⟩
   ·
    refine r_bslice (vs := [(0, Value.agg #[_, _, _])]) (c := #[_, _, _]) .none rfl Try.underlying70 el106 rfl rfl rfl (bs106_10a3 _ _ _) (IsRow.lit _) (fun b_7 => ?_)
    refine r_nil (e_d (i := 12) (brk := (fun j => [15].contains j)) (ph' := true) hKK_4 hcK_4 rfl (fun _ => GLe.refl _) (fun _ => .drop (.drop (.drop (.keep (fun _ _ h => h) (.keep (fun _ _ h => h) (.keep (fun _ _ h => h) (.nil))))))) ?_)
    clear hKK_4 hcK_4 K_4
    refine d_eff 6 rfl (by kernel_rfl) (fun K_44 hKK_44 hcK_44 => ?_)
    refine r_append (k := 2) (k2 := 1) .none rfl Try.underlying22 el3 rfl (by decide) rfl rfl rfl rfl rfl (one_lit rfl rfl) (by simp only [maxLen]; omega) (by omega) (fun v_45 => ?_)
    refine r_row1 (k := 2) rfl (fun o_46 => ?_)
    refine r_nil (e_d (i := 6) (brk := (fun j => [15].contains j)) (ph' := true) hKK_44 hcK_44 rfl (fun _ => GLe.refl _) (fun _ => .drop (.drop (.drop (.keep (fun _ _ h => h) (.keep (fun _ _ h => h) (.keep (fun _ _ h => h) (.nil))))))) ?_)
    clear hKK_44 hcK_44 K_44
    refine d_eff 9 rfl (by kernel_rfl) (fun K_47 hKK_47 hcK_47 => ?_)
    refine r_callrow (vs := [_]) .none rfl cl80 rfl (fun w hw => c_cloneT _ m.2 hb (by omega) w hw) (fun v_48 => ?_)
    refine r_nil (e_d (i := 9) (brk := (fun j => [15].contains j)) (ph' := true) hKK_47 hcK_47 rfl (fun _ => GLe.refl _) (fun _ => .drop (.drop (.drop (.drop (.keep (fun _ _ h => h) (.keep (fun _ _ h => h) (.keep (fun _ _ h => h) (.nil)))))))) ?_)
    clear hKK_47 hcK_47 K_47
    refine d_eff 13 rfl (by kernel_rfl) (fun K_49 hKK_49 hcK_49 => ?_)
    refine r_append (k := 0) (k2 := 1) .none rfl Try.underlying70 el106 rfl (by decide) rfl rfl rfl rfl rfl (one_lit rfl rfl) (by simp only [maxLen]; omega) (by omega) (fun v_50 => ?_)
    refine r_row1 (k := 0) rfl (fun o_51 => ?_)
    refine r_nil (e_d (i := 13) (brk := (fun j => [15].contains j)) (ph' := true) hKK_49 hcK_49 rfl (fun _ => GLe.refl _) (fun _ => .drop (.drop (.drop (.drop (.keep (fun _ _ h => h) (.keep (fun _ _ h => h) (.keep (fun _ _ h => h) (.nil)))))))) ?_)
    clear hKK_49 hcK_49 K_49
    refine d_rowsl (k := 3) rfl (fun a_52 c_53 e_54 => ?_)
    subst e_54
    refine d_rowsl (k := 0) rfl (fun a_55 c_56 e_57 => ?_)
    subst e_57
    refine d_val1 14 rfl rfl (by kernel_rfl) (fun j hj => by have h : 15 < j := (Nat.lt_of_lt_of_le (by decide : 15 < 16) hj); simp; omega) .none rfl (p_build (vs := [(0, Value.slice _ _ _), (1, Value.slice _ _ _)]) rfl (bl137_0s3_1s3 _ _ _ _ _ _)) ?_
    refine d_eff 15 rfl (by kernel_rfl) (fun K_58 hKK_58 hcK_58 => ?_)
    refine r_stw (k := 4) .none sz137 rfl rfl (IsRow.lit _) (one_lit rfl (by simp [Value.oneCell', o_46, o_51])) rfl ?_
    refine r_nil (e_d (i := 15) (brk := (fun j => [15].contains j)) (ph' := false) hKK_58 hcK_58 rfl (fun h => by cases h) (fun h => by cases h) ?_)
    clear hKK_58 hcK_58 K_58
    refine d_nil (by kernel_rfl) ?_
    refine e_next ?_
    refine c_ret ?_
    refine e_freeze (k := 3) rfl (fun G_59 hn_60 hs_61 => ?_)
    replace hi := hi.mono hn_60.le
    replace hb := hb.mono hn_60.le
    have hwi : SlL G_59 (Value.slice a_52 _ c_53) 1 cI 0 (m.1 ++ [f.1]) := SlL.of2 0 (fun _ => rfl) (by simp) (by rw [List.flatMap_append, List.flatMap_cons, List.flatMap_nil, List.append_nil]; rfl) hs_61
    refine e_freeze (k := 0) rfl (fun G_62 hn_63 hs_64 => ?_)
    replace hi := hi.mono hn_63.le
    replace hb := hb.mono hn_63.le
    replace hwi := hwi.mono hn_63.le
    have hwb : SlL G_62 (Value.slice a_55 _ c_56) 3 triL z3 (m.2 ++ [f.2]) := SlL.of2 z3 (fun _ => rfl) (by simp) (by rw [List.flatMap_append, List.flatMap_cons, List.flatMap_nil, List.append_nil]; rfl) hs_64
    refine e_ret1 Try.results69 (.cell (k := 2) rfl Try.underlying137 rfl sz137 rfl (rfl : _ = Value.agg #[_, _]) .nil) (fun w hm => ⟨_, (hn_60.trans hn_63), hm.has, ?_, hm.since⟩)
    exact ⟨_, _, rfl, hwi, hwb⟩
  ·
   refine r_bslice (vs := [(0, Value.agg #[_, _, _])]) (c := #[_, _, _]) .none rfl Try.underlying70 el106 rfl rfl rfl (bs106_10a3 _ _ _) (IsRow.lit _) (fun b_8 => ?_)
   refine r_nil (e_d (i := 12) (brk := (fun j => [15].contains j)) (ph' := true) hKK_3 hcK_3 rfl (fun _ => GLe.refl _) (fun _ => .drop (.drop (.keep (fun _ _ h => h) (.keep (fun _ _ h => h) (.keep (fun _ _ h => h) (.nil)))))) ?_)
   clear hKK_3 hcK_3 K_3
   refine d_eff 5 rfl (by kernel_rfl) (fun K_65 hKK_65 hcK_65 => ?_)
   refine r_bslice (vs := [(0, Value.int _ _)]) (c := #[_]) .none rfl Try.underlying22 el3 rfl rfl rfl (bs3_10i2 _ _) (IsRow.lit _) (fun b_9 => ?_)
   refine r_nil (e_d (i := 5) (brk := (fun j => [15].contains j)) (ph' := true) hKK_65 hcK_65 rfl (fun _ => GLe.refl _) (fun _ => .drop (.drop (.drop (.keep (fun _ _ h => h) (.keep (fun _ _ h => h) (.keep (fun _ _ h => h) (.nil))))))) ?_)
   clear hKK_65 hcK_65 K_65
   refine d_eff 6 rfl (by kernel_rfl) (fun K_66 hKK_66 hcK_66 => ?_)
   refine r_append (k := 2) (k2 := 0) .none rfl Try.underlying22 el3 rfl (by decide) rfl rfl rfl rfl rfl (one_lit rfl rfl) (by simp only [maxLen]; omega) (by omega) (fun v_67 => ?_)
   refine r_row1 (k := 2) rfl (fun o_68 => ?_)
   refine r_nil (e_d (i := 6) (brk := (fun j => [15].contains j)) (ph' := true) hKK_66 hcK_66 rfl (fun _ => GLe.refl _) (fun _ => .drop (.drop (.drop (.keep (fun _ _ h => h) (.keep (fun _ _ h => h) (.keep (fun _ _ h => h) (.nil))))))) ?_)
   clear hKK_66 hcK_66 K_66
   refine d_eff 9 rfl (by kernel_rfl) (fun K_69 hKK_69 hcK_69 => ?_)
   refine r_callrow (vs := [_]) .none rfl cl80 rfl (fun w hw => c_cloneT _ m.2 hb (by omega) w hw) (fun v_70 => ?_)
   refine r_nil (e_d (i := 9) (brk := (fun j => [15].contains j)) (ph' := true) hKK_69 hcK_69 rfl (fun _ => GLe.refl _) (fun _ => .drop (.drop (.drop (.drop (.keep (fun _ _ h => h) (.keep (fun _ _ h => h) (.keep (fun _ _ h => h) (.nil)))))))) ?_)
   clear hKK_69 hcK_69 K_69
   refine d_eff 13 rfl (by kernel_rfl) (fun K_71 hKK_71 hcK_71 => ?_)
   refine r_append (k := 0) (k2 := 2) .none rfl Try.underlying70 el106 rfl (by decide) rfl rfl rfl rfl rfl (one_lit rfl rfl) (by simp only [maxLen]; omega) (by omega) (fun v_72 => ?_)
   refine r_row1 (k := 0) rfl (fun o_73 => ?_)
   refine r_nil (e_d (i := 13) (brk := (fun j => [15].contains j)) (ph' := true) hKK_71 hcK_71 rfl (fun _ => GLe.refl _) (fun _ => .drop (.drop (.drop (.drop (.keep (fun _ _ h => h) (.keep (fun _ _ h => h) (.keep (fun _ _ h => h) (.nil)))))))) ?_)
   clear hKK_71 hcK_71 K_71
   refine d_rowsl (k := 3) rfl (fun a_74 c_75 e_76 => ?_)
   subst e_76
   refine d_rowsl (k := 0) rfl (fun a_77 c_78 e_79 => ?_)
   subst e_79
   refine d_val1 14 rfl rfl (by kernel_rfl) (fun j hj => by have h : 15 < j := (Nat.lt_of_lt_of_le (by decide : 15 < 16) hj); simp; omega) .none rfl (p_build (vs := [(0, Value.slice _ _ _), (1, Value.slice _ _ _)]) rfl (bl137_0s3_1s3 _ _ _ _ _ _)) ?_
   refine d_eff 15 rfl (by kernel_rfl) (fun K_80 hKK_80 hcK_80 => ?_)
   refine r_stw (k := 4) .none sz137 rfl rfl (IsRow.lit _) (one_lit rfl (by simp [Value.oneCell', o_68, o_73])) rfl ?_
   refine r_nil (e_d (i := 15) (brk := (fun j => [15].contains j)) (ph' := false) hKK_80 hcK_80 rfl (fun h => by cases h) (fun h => by cases h) ?_)
   clear hKK_80 hcK_80 K_80
   refine d_nil (by kernel_rfl) ?_
   refine e_next ?_
   refine c_ret ?_
   refine e_freeze (k := 3) rfl (fun G_81 hn_82 hs_83 => ?_)
   replace hi := hi.mono hn_82.le
   replace hb := hb.mono hn_82.le
   have hwi : SlL G_81 (Value.slice a_74 _ c_75) 1 cI 0 (m.1 ++ [f.1]) := SlL.of2 0 (fun _ => rfl) (by simp) (by rw [List.flatMap_append, List.flatMap_cons, List.flatMap_nil, List.append_nil]; rfl) hs_83
   refine e_freeze (k := 0) rfl (fun G_84 hn_85 hs_86 => ?_)
   replace hi := hi.mono hn_85.le
   replace hb := hb.mono hn_85.le
   replace hwi := hwi.mono hn_85.le
   have hwb : SlL G_84 (Value.slice a_77 _ c_78) 3 triL z3 (m.2 ++ [f.2]) := SlL.of2 z3 (fun _ => rfl) (by simp) (by rw [List.flatMap_append, List.flatMap_cons, List.flatMap_nil, List.append_nil]; rfl) hs_86
   refine e_ret1 Try.results69 (.cell (k := 2) rfl Try.underlying137 rfl sz137 rfl (rfl : _ = Value.agg #[_, _]) .nil) (fun w hm => ⟨_, (hn_82.trans hn_85), hm.has, ?_, hm.since⟩)
   exact ⟨_, _, rfl, hwi, hwb⟩
 ·
  refine r_bslice (vs := [(0, Value.int _ _)]) (c := #[_]) .none rfl Try.underlying22 el3 rfl rfl rfl (bs3_10i2 _ _) (IsRow.lit _) (fun b_10 => ?_)
  refine r_nil (e_d (i := 5) (brk := (fun j => [15].contains j)) (ph' := true) hKK_1 hcK_1 rfl (fun _ => GLe.refl _) (fun _ => .drop (.keep (fun _ _ h => h) (.keep (fun _ _ h => h) (.keep (fun _ _ h => h) (.nil))))) ?_)
  clear hKK_1 hcK_1 K_1
  refine d_eff2 2 12 rfl rfl (by kernel_rfl) (fun K_87 hKK_87 hcK_87 => ?_) (fun K_87 hKK_87 hcK_87 => ?_)
  ·
   refine r_callrow (vs := [_]) .none rfl cl50 rfl (fun w hw => c_cloneI _ m.1 hi (by omega) w hw) (fun v_88 => ?_)
   refine r_nil (e_d (i := 2) (brk := (fun j => [15].contains j)) (ph' := true) hKK_87 hcK_87 rfl (fun _ => GLe.refl _) (fun _ => .drop (.drop (.keep (fun _ _ h => h) (.keep (fun _ _ h => h) (.keep (fun _ _ h => h) (.nil)))))) ?_)
   clear hKK_87 hcK_87 K_87
   refine d_eff2 6 12 rfl rfl (by kernel_rfl) (fun K_89 hKK_89 hcK_89 => ?_) (fun K_89 hKK_89 hcK_89 => ?_)
   ·
    refine r_append (k := 0) (k2 := 1) .none rfl Try.underlying22 el3 rfl (by decide) rfl rfl rfl rfl rfl (one_lit rfl rfl) (by simp only [maxLen]; omega) (by omega) (fun v_90 => ?_)
    refine r_row1 (k := 0) rfl (fun o_91 => ?_)
    refine r_nil (e_d (i := 6) (brk := (fun j => [15].contains j)) (ph' := true) hKK_89 hcK_89 rfl (fun _ => GLe.refl _) (fun _ => .drop (.drop (.keep (fun _ _ h => h) (.keep (fun _ _ h => h) (.keep (fun _ _ h => h) (.nil)))))) ?_)
    clear hKK_89 hcK_89 K_89
    refine d_eff2 9 12 rfl rfl (by kernel_rfl) (fun K_92 hKK_92 hcK_92 => ?_) (fun K_92 hKK_92 hcK_92 => ?_)
    ·
     refine r_callrow (vs := [_]) .none rfl cl80 rfl (fun w hw => c_cloneT _ m.2 hb (by omega) w hw) (fun v_93 => ?_)
     refine r_nil (e_d (i := 9) (brk := (fun j => [15].contains j)) (ph' := true) hKK_92 hcK_92 rfl (fun _ => GLe.refl _) (fun _ => .drop (.drop (.drop (.keep (fun _ _ h => h) (.keep (fun _ _ h => h) (.keep (fun _ _ h => h) (.nil))))))) ?_)
     clear hKK_92 hcK_92 K_92
     refine d_eff 12 rfl (by kernel_rfl) (fun K_94 hKK_94 hcK_94 => ?_)
     refine r_bslice (vs := [(0, Value.agg #[_, _, _])]) (c := #[_, _, _]) .none rfl Try.underlying70 el106 rfl rfl rfl (bs106_10a3 _ _ _) (IsRow.lit _) (fun b_11 => ?_)
     refine r_nil (e_d (i := 12) (brk := (fun j => [15].contains j)) (ph' := true) hKK_94 hcK_94 rfl (fun _ => GLe.refl _) (fun _ => .drop (.drop (.drop (.drop (.keep (fun _ _ h => h) (.keep (fun _ _ h => h) (.keep (fun _ _ h => h) (.nil)))))))) ?_)
     clear hKK_94 hcK_94 K_94
     refine d_eff 13 rfl (by kernel_rfl) (fun K_95 hKK_95 hcK_95 => ?_)
     refine r_append (k := 1) (k2 := 0) .none rfl Try.underlying70 el106 rfl (by decide) rfl rfl rfl rfl rfl (one_lit rfl rfl) (by simp only [maxLen]; omega) (by omega) (fun v_96 => ?_)
     refine r_row1 (k := 1) rfl (fun o_97 => ?_)
     refine r_nil (e_d (i := 13) (brk := (fun j => [15].contains j)) (ph' := true) hKK_95 hcK_95 rfl (fun _ => GLe.refl _) (fun _ => .drop (.drop (.drop (.drop (.keep (fun _ _ h => h) (.keep (fun _ _ h => h) (.keep (fun _ _ h => h) (.nil)))))))) ?_)
     clear hKK_95 hcK_95 K_95
     refine d_rowsl (k := 2) rfl (fun a_98 c_99 e_100 => ?_)
     subst e_100
     refine d_rowsl (k := 1) rfl (fun a_101 c_102 e_103 => ?_)
     subst e_103
     refine d_val1 14 rfl rfl (by kernel_rfl) (fun j hj => by have h : 15 < j := (Nat.lt_of_lt_of_le (by decide : 15 < 16) hj); simp; omega) .none rfl (p_build (vs := [(0, Value.slice _ _ _), (1, Value.slice _ _ _)]) rfl (bl137_0s3_1s3 _ _ _ _ _ _)) ?_
     refine d_eff 15 rfl (by kernel_rfl) (fun K_104 hKK_104 hcK_104 => ?_)
     refine r_stw (k := 4) .none sz137 rfl rfl (IsRow.lit _) (one_lit rfl (by simp [Value.oneCell', o_91, o_97])) rfl ?_
     refine r_nil (e_d (i := 15) (brk := (fun j => [15].contains j)) (ph' := false) hKK_104 hcK_104 rfl (fun h => by cases h) (fun h => by cases h) ?_)
     clear hKK_104 hcK_104 K_104
     refine d_nil (by kernel_rfl) ?_
     refine e_next ?_
     refine c_ret ?_
     refine e_freeze (k := 2) rfl (fun G_105 hn_106 hs_107 => ?_)
     replace hi := hi.mono hn_106.le
     replace hb := hb.mono hn_106.le
     have hwi : SlL G_105 (Value.slice a_98 _ c_99) 1 cI 0 (m.1 ++ [f.1]) := SlL.of2 0 (fun _ => rfl) (by simp) (by rw [List.flatMap_append, List.flatMap_cons, List.flatMap_nil, List.append_nil]; rfl) hs_107
     refine e_freeze (k := 1) rfl (fun G_108 hn_109 hs_110 => ?_)
     replace hi := hi.mono hn_109.le
     replace hb := hb.mono hn_109.le
     replace hwi := hwi.mono hn_109.le
     have hwb : SlL G_108 (Value.slice a_101 _ c_102) 3 triL z3 (m.2 ++ [f.2]) := SlL.of2 z3 (fun _ => rfl) (by simp) (by rw [List.flatMap_append, List.flatMap_cons, List.flatMap_nil, List.append_nil]; rfl) hs_110
     refine e_ret1 Try.results69 (.cell (k := 2) rfl Try.underlying137 rfl sz137 rfl (rfl : _ = Value.agg #[_, _]) .nil) (fun w hm => ⟨_, (hn_106.trans hn_109), hm.has, ?_, hm.since⟩)
     exact ⟨_, _, rfl, hwi, hwb⟩
    ·
     refine r_bslice (vs := [(0, Value.agg #[_, _, _])]) (c := #[_, _, _]) .none rfl Try.underlying70 el106 rfl rfl rfl (bs106_10a3 _ _ _) (IsRow.lit _) (fun b_12 => ?_)
     refine r_nil (e_d (i := 12) (brk := (fun j => [15].contains j)) (ph' := true) hKK_92 hcK_92 rfl (fun _ => GLe.refl _) (fun _ => .drop (.drop (.drop (.keep (fun _ _ h => h) (.keep (fun _ _ h => h) (.keep (fun _ _ h => h) (.nil))))))) ?_)
     clear hKK_92 hcK_92 K_92
     refine d_eff 9 rfl (by kernel_rfl) (fun K_111 hKK_111 hcK_111 => ?_)
     refine r_callrow (vs := [_]) .none rfl cl80 rfl (fun w hw => c_cloneT _ m.2 hb (by omega) w hw) (fun v_112 => ?_)
     refine r_nil (e_d (i := 9) (brk := (fun j => [15].contains j)) (ph' := true) hKK_111 hcK_111 rfl (fun _ => GLe.refl _) (fun _ => .drop (.drop (.drop (.drop (.keep (fun _ _ h => h) (.keep (fun _ _ h => h) (.keep (fun _ _ h => h) (.nil)))))))) ?_)
     clear hKK_111 hcK_111 K_111
     refine d_eff 13 rfl (by kernel_rfl) (fun K_113 hKK_113 hcK_113 => ?_)
     refine r_append (k := 0) (k2 := 1) .none rfl Try.underlying70 el106 rfl (by decide) rfl rfl rfl rfl rfl (one_lit rfl rfl) (by simp only [maxLen]; omega) (by omega) (fun v_114 => ?_)
     refine r_row1 (k := 0) rfl (fun o_115 => ?_)
     refine r_nil (e_d (i := 13) (brk := (fun j => [15].contains j)) (ph' := true) hKK_113 hcK_113 rfl (fun _ => GLe.refl _) (fun _ => .drop (.drop (.drop (.drop (.keep (fun _ _ h => h) (.keep (fun _ _ h => h) (.keep (fun _ _ h => h) (.nil)))))))) ?_)
     clear hKK_113 hcK_113 K_113
     refine d_rowsl (k := 2) rfl (fun a_116 c_117 e_118 => ?_)
     subst e_118
     refine d_rowsl (k := 0) rfl (fun a_119 c_120 e_121 => ?_)
     subst e_121
     refine d_val1 14 rfl rfl (by kernel_rfl) (fun j hj => by have h : 15 < j := (Nat.lt_of_lt_of_le (by decide : 15 < 16) hj); simp; omega) .none rfl (p_build (vs := [(0, Value.slice _ _ _), (1, Value.slice _ _ _)]) rfl (bl137_0s3_1s3 _ _ _ _ _ _)) ?_
     refine d_eff 15 rfl (by kernel_rfl) (fun K_122 hKK_122 hcK_122 => ?_)
     refine r_stw (k := 4) .none sz137 rfl rfl (IsRow.lit _) (one_lit rfl (by simp [Value.oneCell', o_91, o_115])) rfl ?_
     refine r_nil (e_d (i := 15) (brk := (fun j => [15].contains j)) (ph' := false) hKK_122 hcK_122 rfl (fun h => by cases h) (fun h => by cases h) ?_)
     clear hKK_122 hcK_122 K_122
     refine d_nil (by kernel_rfl) ?_
     refine e_next ?_
     refine c_ret ?_
     refine e_freeze (k := 2) rfl (fun G_123 hn_124 hs_125 => ?_)
     replace hi := hi.mono hn_124.le
     replace hb := hb.mono hn_124.le
     have hwi : SlL G_123 (Value.slice a_116 _ c_117) 1 cI 0 (m.1 ++ [f.1]) := SlL.of2 0 (fun _ => rfl) (by simp) (by rw [List.flatMap_append, List.flatMap_cons, List.flatMap_nil, List.append_nil]; rfl) hs_125
     refine e_freeze (k := 0) rfl (fun G_126 hn_127 hs_128 => ?_)
     replace hi := hi.mono hn_127.le
     replace hb := hb.mono hn_127.le
     replace hwi := hwi.mono hn_127.le
     have hwb : SlL G_126 (Value.slice a_119 _ c_120) 3 triL z3 (m.2 ++ [f.2]) := SlL.of2 z3 (fun _ => rfl) (by simp) (by rw [List.flatMap_append, List.flatMap_cons, List.flatMap_nil, List.append_nil]; rfl) hs_128
     refine e_ret1 Try.results69 (.cell (k := 2) rfl Try.underlying137 rfl sz137 rfl (rfl : _ = Value.agg #[_, _]) .nil) (fun w hm => ⟨_, (hn_124.trans hn_127), hm.has, ?_, hm.since⟩)
     exact ⟨_, _, rfl, hwi, hwb⟩
   ·
    refine r_bslice (vs := [(0, Value.agg #[_, _, _])]) (c := #[_, _, _]) .none rfl Try.underlying70 el106 rfl rfl rfl (bs106_10a3 _ _ _) (IsRow.lit _) (fun b_13 => ?_)
    refine r_nil (e_d (i := 12) (brk := (fun j => [15].contains j)) (ph' := true) hKK_89 hcK_89 rfl (fun _ => GLe.refl _) (fun _ => .drop (.drop (.drop (.keep (fun _ _ h => h) (.keep (fun _ _ h => h) (.keep (fun _ _ h => h) (.nil))))))) ?_)
    clear hKK_89 hcK_89 K_89
    refine d_eff 6 rfl (by kernel_rfl) (fun K_129 hKK_129 hcK_129 => ?_)
    refine r_append (k := 1) (k2 := 2) .none rfl Try.underlying22 el3 rfl (by decide) rfl rfl rfl rfl rfl (one_lit rfl rfl) (by simp only [maxLen]; omega) (by omega) (fun v_130 => ?_)
    refine r_row1 (k := 1) rfl (fun o_131 => ?_)
    refine r_nil (e_d (i := 6) (brk := (fun j => [15].contains j)) (ph' := true) hKK_129 hcK_129 rfl (fun _ => GLe.refl _) (fun _ => .drop (.drop (.drop (.keep (fun _ _ h => h) (.keep (fun _ _ h => h) (.keep (fun _ _ h => h) (.nil))))))) ?_)
    clear hKK_129 hcK_129 K_129
    refine d_eff 9 rfl (by kernel_rfl) (fun K_132 hKK_132 hcK_132 => ?_)
    refine r_callrow (vs := [_]) .none rfl cl80 rfl (fun w hw => c_cloneT _ m.2 hb (by omega) w hw) (fun v_133 => ?_)
    refine r_nil (e_d (i := 9) (brk := (fun j => [15].contains j)) (ph' := true) hKK_132 hcK_132 rfl (fun _ => GLe.refl _) (fun _ => .drop (.drop (.drop (.drop (.keep (fun _ _ h => h) (.keep (fun _ _ h => h) (.keep (fun _ _ h => h) (.nil)))))))) ?_)
    clear hKK_132 hcK_132 K_132
    refine d_eff 13 rfl (by kernel_rfl) (fun K_134 hKK_134 hcK_134 => ?_)
    refine r_append (k := 0) (k2 := 1) .none rfl Try.underlying70 el106 rfl (by decide) rfl rfl rfl rfl rfl (one_lit rfl rfl) (by simp only [maxLen]; omega) (by omega) (fun v_135 => ?_)
    refine r_row1 (k := 0) rfl (fun o_136 => ?_)
    refine r_nil (e_d (i := 13) (brk := (fun j => [15].contains j)) (ph' := true) hKK_134 hcK_134 rfl (fun _ => GLe.refl _) (fun _ => .drop (.drop (.drop (.drop (.keep (fun _ _ h => h) (.keep (fun _ _ h => h) (.keep (fun _ _ h => h) (.nil)))))))) ?_)
    clear hKK_134 hcK_134 K_134
    refine d_rowsl (k := 2) rfl (fun a_137 c_138 e_139 => ?_)
    subst e_139
    refine d_rowsl (k := 0) rfl (fun a_140 c_141 e_142 => ?_)
    subst e_142
    refine d_val1 14 rfl rfl (by kernel_rfl) (fun j hj => by have h : 15 < j := (Nat.lt_of_lt_of_le (by decide : 15 < 16) hj); simp; omega) .none rfl (p_build (vs := [(0, Value.slice _ _ _), (1, Value.slice _ _ _)]) rfl (bl137_0s3_1s3 _ _ _ _ _ _)) ?_
    refine d_eff 15 rfl (by kernel_rfl) (fun K_143 hKK_143 hcK_143 => ?_)
    refine r_stw (k := 4) .none sz137 rfl rfl (IsRow.lit _) (one_lit rfl (by simp [Value.oneCell', o_131, o_136])) rfl ?_
    refine r_nil (e_d (i := 15) (brk := (fun j => [15].contains j)) (ph' := false) hKK_143 hcK_143 rfl (fun h => by cases h) (fun h => by cases h) ?_)
    clear hKK_143 hcK_143 K_143
    refine d_nil (by kernel_rfl) ?_
    refine e_next ?_
    refine c_ret ?_
    refine e_freeze (k := 2) rfl (fun G_144 hn_145 hs_146 => ?_)
    replace hi := hi.mono hn_145.le
    replace hb := hb.mono hn_145.le
    have hwi : SlL G_144 (Value.slice a_137 _ c_138) 1 cI 0 (m.1 ++ [f.1]) := SlL.of2 0 (fun _ => rfl) (by simp) (by rw [List.flatMap_append, List.flatMap_cons, List.flatMap_nil, List.append_nil]; rfl) hs_146
    refine e_freeze (k := 0) rfl (fun G_147 hn_148 hs_149 => ?_)
    replace hi := hi.mono hn_148.le
    replace hb := hb.mono hn_148.le
    replace hwi := hwi.mono hn_148.le
    have hwb : SlL G_147 (Value.slice a_140 _ c_141) 3 triL z3 (m.2 ++ [f.2]) := SlL.of2 z3 (fun _ => rfl) (by simp) (by rw [List.flatMap_append, List.flatMap_cons, List.flatMap_nil, List.append_nil]; rfl) hs_149
    refine e_ret1 Try.results69 (.cell (k := 2) rfl Try.underlying137 rfl sz137 rfl (rfl : _ = Value.agg #[_, _]) .nil) (fun w hm => ⟨_, (hn_145.trans hn_148), hm.has, ?_, hm.since⟩)
    exact ⟨_, _, rfl, hwi, hwb⟩
  ·
   refine r_bslice (vs := [(0, Value.agg #[_, _, _])]) (c := #[_, _, _]) .none rfl Try.underlying70 el106 rfl rfl rfl (bs106_10a3 _ _ _) (IsRow.lit _) (fun b_14 => ?_)
   refine r_nil (e_d (i := 12) (brk := (fun j => [15].contains j)) (ph' := true) hKK_87 hcK_87 rfl (fun _ => GLe.refl _) (fun _ => .drop (.drop (.keep (fun _ _ h => h) (.keep (fun _ _ h => h) (.keep (fun _ _ h => h) (.nil)))))) ?_)
   clear hKK_87 hcK_87 K_87
   refine d_eff 2 rfl (by kernel_rfl) (fun K_150 hKK_150 hcK_150 => ?_)
   refine r_callrow (vs := [_]) .none rfl cl50 rfl (fun w hw => c_cloneI _ m.1 hi (by omega) w hw) (fun v_151 => ?_)
   refine r_nil (e_d (i := 2) (brk := (fun j => [15].contains j)) (ph' := true) hKK_150 hcK_150 rfl (fun _ => GLe.refl _) (fun _ => .drop (.drop (.drop (.keep (fun _ _ h => h) (.keep (fun _ _ h => h) (.keep (fun _ _ h => h) (.nil))))))) ?_)
   clear hKK_150 hcK_150 K_150
   refine d_eff 6 rfl (by kernel_rfl) (fun K_152 hKK_152 hcK_152 => ?_)
   refine r_append (k := 0) (k2 := 2) .none rfl Try.underlying22 el3 rfl (by decide) rfl rfl rfl rfl rfl (one_lit rfl rfl) (by simp only [maxLen]; omega) (by omega) (fun v_153 => ?_)
   refine r_row1 (k := 0) rfl (fun o_154 => ?_)
   refine r_nil (e_d (i := 6) (brk := (fun j => [15].contains j)) (ph' := true) hKK_152 hcK_152 rfl (fun _ => GLe.refl _) (fun _ => .drop (.drop (.drop (.keep (fun _ _ h => h) (.keep (fun _ _ h => h) (.keep (fun _ _ h => h) (.nil))))))) ?_)
   clear hKK_152 hcK_152 K_152
   refine d_eff 9 rfl (by kernel_rfl) (fun K_155 hKK_155 hcK_155 => ?_)
   refine r_callrow (vs := [_]) .none rfl cl80 rfl (fun w hw => c_cloneT _ m.2 hb (by omega) w hw) (fun v_156 => ?_)
   refine r_nil (e_d (i := 9) (brk := (fun j => [15].contains j)) (ph' := true) hKK_155 hcK_155 rfl (fun _ => GLe.refl _) (fun _ => .drop (.drop (.drop (.drop (.keep (fun _ _ h => h) (.keep (fun _ _ h => h) (.keep (fun _ _ h => h) (.nil)))))))) ?_)
   clear hKK_155 hcK_155 K_155
   refine d_eff 13 rfl (by kernel_rfl) (fun K_157 hKK_157 hcK_157 => ?_)
   refine r_append (k := 0) (k2 := 2) .none rfl Try.underlying70 el106 rfl (by decide) rfl rfl rfl rfl rfl (one_lit rfl rfl) (by simp only [maxLen]; omega) (by omega) (fun v_158 => ?_)
   refine r_row1 (k := 0) rfl (fun o_159 => ?_)
   refine r_nil (e_d (i := 13) (brk := (fun j => [15].contains j)) (ph' := true) hKK_157 hcK_157 rfl (fun _ => GLe.refl _) (fun _ => .drop (.drop (.drop (.drop (.keep (fun _ _ h => h) (.keep (fun _ _ h => h) (.keep (fun _ _ h => h) (.nil)))))))) ?_)
   clear hKK_157 hcK_157 K_157
   refine d_rowsl (k := 1) rfl (fun a_160 c_161 e_162 => ?_)
   subst e_162
   refine d_rowsl (k := 0) rfl (fun a_163 c_164 e_165 => ?_)
   subst e_165
   refine d_val1 14 rfl rfl (by kernel_rfl) (fun j hj => by have h : 15 < j := (Nat.lt_of_lt_of_le (by decide : 15 < 16) hj); simp; omega) .none rfl (p_build (vs := [(0, Value.slice _ _ _), (1, Value.slice _ _ _)]) rfl (bl137_0s3_1s3 _ _ _ _ _ _)) ?_
   refine d_eff 15 rfl (by kernel_rfl) (fun K_166 hKK_166 hcK_166 => ?_)
   refine r_stw (k := 4) .none sz137 rfl rfl (IsRow.lit _) (one_lit rfl (by simp [Value.oneCell', o_154, o_159])) rfl ?_
   refine r_nil (e_d (i := 15) (brk := (fun j => [15].contains j)) (ph' := false) hKK_166 hcK_166 rfl (fun h => by cases h) (fun h => by cases h) ?_)
   clear hKK_166 hcK_166 K_166
   refine d_nil (by kernel_rfl) ?_
   refine e_next ?_
   refine c_ret ?_
   refine e_freeze (k := 1) rfl (fun G_167 hn_168 hs_169 => ?_)
   replace hi := hi.mono hn_168.le
   replace hb := hb.mono hn_168.le
   have hwi : SlL G_167 (Value.slice a_160 _ c_161) 1 cI 0 (m.1 ++ [f.1]) := SlL.of2 0 (fun _ => rfl) (by simp) (by rw [List.flatMap_append, List.flatMap_cons, List.flatMap_nil, List.append_nil]; rfl) hs_169
   refine e_freeze (k := 0) rfl (fun G_170 hn_171 hs_172 => ?_)
   replace hi := hi.mono hn_171.le
   replace hb := hb.mono hn_171.le
   replace hwi := hwi.mono hn_171.le
   have hwb : SlL G_170 (Value.slice a_163 _ c_164) 3 triL z3 (m.2 ++ [f.2]) := SlL.of2 z3 (fun _ => rfl) (by simp) (by rw [List.flatMap_append, List.flatMap_cons, List.flatMap_nil, List.append_nil]; rfl) hs_172
   refine e_ret1 Try.results69 (.cell (k := 2) rfl Try.underlying137 rfl sz137 rfl (rfl : _ = Value.agg #[_, _]) .nil) (fun w hm => ⟨_, (hn_168.trans hn_171), hm.has, ?_, hm.since⟩)
   exact ⟨_, _, rfl, hwi, hwb⟩
 ·
  refine r_bslice (vs := [(0, Value.agg #[_, _, _])]) (c := #[_, _, _]) .none rfl Try.underlying70 el106 rfl rfl rfl (bs106_10a3 _ _ _) (IsRow.lit _) (fun b_15 => ?_)
  refine r_nil (e_d (i := 12) (brk := (fun j => [15].contains j)) (ph' := true) hKK_1 hcK_1 rfl (fun _ => GLe.refl _) (fun _ => .drop (.keep (fun _ _ h => h) (.keep (fun _ _ h => h) (.keep (fun _ _ h => h) (.nil))))) ?_)
  clear hKK_1 hcK_1 K_1
  refine d_eff2 2 5 rfl rfl (by kernel_rfl) (fun K_173 hKK_173 hcK_173 => ?_) (fun K_173 hKK_173 hcK_173 => ?_)
  ·
   refine r_callrow (vs := [_]) .none rfl cl50 rfl (fun w hw => c_cloneI _ m.1 hi (by omega) w hw) (fun v_174 => ?_)
   refine r_nil (e_d (i := 2) (brk := (fun j => [15].contains j)) (ph' := true) hKK_173 hcK_173 rfl (fun _ => GLe.refl _) (fun _ => .drop (.drop (.keep (fun _ _ h => h) (.keep (fun _ _ h => h) (.keep (fun _ _ h => h) (.nil)))))) ?_)
   clear hKK_173 hcK_173 K_173
   refine d_eff 5 rfl (by kernel_rfl) (fun K_175 hKK_175 hcK_175 => ?_)
   refine r_bslice (vs := [(0, Value.int _ _)]) (c := #[_]) .none rfl Try.underlying22 el3 rfl rfl rfl (bs3_10i2 _ _) (IsRow.lit _) (fun b_16 => ?_)
   refine r_nil (e_d (i := 5) (brk := (fun j => [15].contains j)) (ph' := true) hKK_175 hcK_175 rfl (fun _ => GLe.refl _) (fun _ => .drop (.drop (.drop (.keep (fun _ _ h => h) (.keep (fun _ _ h => h) (.keep (fun _ _ h => h) (.nil))))))) ?_)
   clear hKK_175 hcK_175 K_175
   refine d_eff 6 rfl (by kernel_rfl) (fun K_176 hKK_176 hcK_176 => ?_)
   refine r_append (k := 1) (k2 := 0) .none rfl Try.underlying22 el3 rfl (by decide) rfl rfl rfl rfl rfl (one_lit rfl rfl) (by simp only [maxLen]; omega) (by omega) (fun v_177 => ?_)
   refine r_row1 (k := 1) rfl (fun o_178 => ?_)
   refine r_nil (e_d (i := 6) (brk := (fun j => [15].contains j)) (ph' := true) hKK_176 hcK_176 rfl (fun _ => GLe.refl _) (fun _ => .drop (.drop (.drop (.keep (fun _ _ h => h) (.keep (fun _ _ h => h) (.keep (fun _ _ h => h) (.nil))))))) ?_)
   clear hKK_176 hcK_176 K_176
   refine d_eff 9 rfl (by kernel_rfl) (fun K_179 hKK_179 hcK_179 => ?_)
   refine r_callrow (vs := [_]) .none rfl cl80 rfl (fun w hw => c_cloneT _ m.2 hb (by omega) w hw) (fun v_180 => ?_)
   refine r_nil (e_d (i := 9) (brk := (fun j => [15].contains j)) (ph' := true) hKK_179 hcK_179 rfl (fun _ => GLe.refl _) (fun _ => .drop (.drop (.drop (.drop (.keep (fun _ _ h => h) (.keep (fun _ _ h => h) (.keep (fun _ _ h => h) (.nil)))))))) ?_)
   clear hKK_179 hcK_179 K_179
   refine d_eff 13 rfl (by kernel_rfl) (fun K_181 hKK_181 hcK_181 => ?_)
   refine r_append (k := 0) (k2 := 3) .none rfl Try.underlying70 el106 rfl (by decide) rfl rfl rfl rfl rfl (one_lit rfl rfl) (by simp only [maxLen]; omega) (by omega) (fun v_182 => ?_)
   refine r_row1 (k := 0) rfl (fun o_183 => ?_)
   refine r_nil (e_d (i := 13) (brk := (fun j => [15].contains j)) (ph' := true) hKK_181 hcK_181 rfl (fun _ => GLe.refl _) (fun _ => .drop (.drop (.drop (.drop (.keep (fun _ _ h => h) (.keep (fun _ _ h => h) (.keep (fun _ _ h => h) (.nil)))))))) ?_)
   clear hKK_181 hcK_181 K_181
   refine d_rowsl (k := 2) rfl (fun a_184 c_185 e_186 => ?_)
   subst e_186
   refine d_rowsl (k := 0) rfl (fun a_187 c_188 e_189 => ?_)
   subst e_189
   refine d_val1 14 rfl rfl (by kernel_rfl) (fun j hj => by have h : 15 < j := (Nat.lt_of_lt_of_le (by decide : 15 < 16) hj); simp; omega) .none rfl (p_build (vs := [(0, Value.slice _ _ _), (1, Value.slice _ _ _)]) rfl (bl137_0s3_1s3 _ _ _ _ _ _)) ?_
   refine d_eff 15 rfl (by kernel_rfl) (fun K_190 hKK_190 hcK_190 => ?_)
   refine r_stw (k := 4) .none sz137 rfl rfl (IsRow.lit _) (one_lit rfl (by simp [Value.oneCell', o_178, o_183])) rfl ?_
   refine r_nil (e_d (i := 15) (brk := (fun j => [15].contains j)) (ph' := false) hKK_190 hcK_190 rfl (fun h => by cases h) (fun h => by cases h) ?_)
   clear hKK_190 hcK_190 K_190
   refine d_nil (by kernel_rfl) ?_
   refine e_next ?_
   refine c_ret ?_
   refine e_freeze (k := 2) rfl (fun G_191 hn_192 hs_193 => ?_)
   replace hi := hi.mono hn_192.le
   replace hb := hb.mono hn_192.le
   have hwi : SlL G_191 (Value.slice a_184 _ c_185) 1 cI 0 (m.1 ++ [f.1]) := SlL.of2 0 (fun _ => rfl) (by simp) (by rw [List.flatMap_append, List.flatMap_cons, List.flatMap_nil, List.append_nil]; rfl) hs_193
   refine e_freeze (k := 0) rfl (fun G_194 hn_195 hs_196 => ?_)
   replace hi := hi.mono hn_195.le
   replace hb := hb.mono hn_195.le
   replace hwi := hwi.mono hn_195.le
   have hwb : SlL G_194 (Value.slice a_187 _ c_188) 3 triL z3 (m.2 ++ [f.2]) := SlL.of2 z3 (fun _ => rfl) (by simp) (by rw [List.flatMap_append, List.flatMap_cons, List.flatMap_nil, List.append_nil]; rfl) hs_196
   refine e_ret1 Try.results69 (.cell (k := 2) rfl Try.underlying137 rfl sz137 rfl (rfl : _ = Value.agg #[_, _]) .nil) (fun w hm => ⟨_, (hn_192.trans hn_195), hm.has, ?_, hm.since⟩)
   exact ⟨_, _, rfl, hwi, hwb⟩
  ·
   refine r_bslice (vs := [(0, Value.int _ _)]) (c := #[_]) .none rfl Try.underlying22 el3 rfl rfl rfl (bs3_10i2 _ _) (IsRow.lit _) (fun b_17 => ?_)
   refine r_nil (e_d (i := 5) (brk := (fun j => [15].contains j)) (ph' := true) hKK_173 hcK_173 rfl (fun _ => GLe.refl _) (fun _ => .drop (.drop (.keep (fun _ _ h => h) (.keep (fun _ _ h => h) (.keep (fun _ _ h => h) (.nil)))))) ?_)
   clear hKK_173 hcK_173 K_173
   refine d_eff 2 rfl (by kernel_rfl) (fun K_197 hKK_197 hcK_197 => ?_)
   refine r_callrow (vs := [_]) .none rfl cl50 rfl (fun w hw => c_cloneI _ m.1 hi (by omega) w hw) (fun v_198 => ?_)
   refine r_nil (e_d (i := 2) (brk := (fun j => [15].contains j)) (ph' := true) hKK_197 hcK_197 rfl (fun _ => GLe.refl _) (fun _ => .drop (.drop (.drop (.keep (fun _ _ h => h) (.keep (fun _ _ h => h) (.keep (fun _ _ h => h) (.nil))))))) ?_)
   clear hKK_197 hcK_197 K_197
   refine d_eff 6 rfl (by kernel_rfl) (fun K_199 hKK_199 hcK_199 => ?_)
   refine r_append (k := 0) (k2 := 1) .none rfl Try.underlying22 el3 rfl (by decide) rfl rfl rfl rfl rfl (one_lit rfl rfl) (by simp only [maxLen]; omega) (by omega) (fun v_200 => ?_)
   refine r_row1 (k := 0) rfl (fun o_201 => ?_)
   refine r_nil (e_d (i := 6) (brk := (fun j => [15].contains j)) (ph' := true) hKK_199 hcK_199 rfl (fun _ => GLe.refl _) (fun _ => .drop (.drop (.drop (.keep (fun _ _ h => h) (.keep (fun _ _ h => h) (.keep (fun _ _ h => h) (.nil))))))) ?_)
   clear hKK_199 hcK_199 K_199
   refine d_eff 9 rfl (by kernel_rfl) (fun K_202 hKK_202 hcK_202 => ?_)
   refine r_callrow (vs := [_]) .none rfl cl80 rfl (fun w hw => c_cloneT _ m.2 hb (by omega) w hw) (fun v_203 => ?_)
   refine r_nil (e_d (i := 9) (brk := (fun j => [15].contains j)) (ph' := true) hKK_202 hcK_202 rfl (fun _ => GLe.refl _) (fun _ => .drop (.drop (.drop (.drop (.keep (fun _ _ h => h) (.keep (fun _ _ h => h) (.keep (fun _ _ h => h) (.nil)))))))) ?_)
   clear hKK_202 hcK_202 K_202
   refine d_eff 13 rfl (by kernel_rfl) (fun K_204 hKK_204 hcK_204 => ?_)
   refine r_append (k := 0) (k2 := 3) .none rfl Try.underlying70 el106 rfl (by decide) rfl rfl rfl rfl rfl (one_lit rfl rfl) (by simp only [maxLen]; omega) (by omega) (fun v_205 => ?_)
   refine r_row1 (k := 0) rfl (fun o_206 => ?_)
   refine r_nil (e_d (i := 13) (brk := (fun j => [15].contains j)) (ph' := true) hKK_204 hcK_204 rfl (fun _ => GLe.refl _) (fun _ => .drop (.drop (.drop (.drop (.keep (fun _ _ h => h) (.keep (fun _ _ h => h) (.keep (fun _ _ h => h) (.nil)))))))) ?_)
   clear hKK_204 hcK_204 K_204
   refine d_rowsl (k := 1) rfl (fun a_207 c_208 e_209 => ?_)
   subst e_209
   refine d_rowsl (k := 0) rfl (fun a_210 c_211 e_212 => ?_)
   subst e_212
   refine d_val1 14 rfl rfl (by kernel_rfl) (fun j hj => by have h : 15 < j := (Nat.lt_of_lt_of_le (by decide : 15 < 16) hj); simp; omega) .none rfl (p_build (vs := [(0, Value.slice _ _ _), (1, Value.slice _ _ _)]) rfl (bl137_0s3_1s3 _ _ _ _ _ _)) ?_
   refine d_eff 15 rfl (by kernel_rfl) (fun K_213 hKK_213 hcK_213 => ?_)
   refine r_stw (k := 4) .none sz137 rfl rfl (IsRow.lit _) (one_lit rfl (by simp [Value.oneCell', o_201, o_206])) rfl ?_
   refine r_nil (e_d (i := 15) (brk := (fun j => [15].contains j)) (ph' := false) hKK_213 hcK_213 rfl (fun h => by cases h) (fun h => by cases h) ?_)
   clear hKK_213 hcK_213 K_213
   refine d_nil (by kernel_rfl) ?_
   refine e_next ?_
   refine c_ret ?_
   refine e_freeze (k := 1) rfl (fun G_214 hn_215 hs_216 => ?_)
   replace hi := hi.mono hn_215.le
   replace hb := hb.mono hn_215.le
   have hwi : SlL G_214 (Value.slice a_207 _ c_208) 1 cI 0 (m.1 ++ [f.1]) := SlL.of2 0 (fun _ => rfl) (by simp) (by rw [List.flatMap_append, List.flatMap_cons, List.flatMap_nil, List.append_nil]; rfl) hs_216
   refine e_freeze (k := 0) rfl (fun G_217 hn_218 hs_219 => ?_)
   replace hi := hi.mono hn_218.le
   replace hb := hb.mono hn_218.le
   replace hwi := hwi.mono hn_218.le
   have hwb : SlL G_217 (Value.slice a_210 _ c_211) 3 triL z3 (m.2 ++ [f.2]) := SlL.of2 z3 (fun _ => rfl) (by simp) (by rw [List.flatMap_append, List.flatMap_cons, List.flatMap_nil, List.append_nil]; rfl) hs_219
   refine e_ret1 Try.results69 (.cell (k := 2) rfl Try.underlying137 rfl sz137 rfl (rfl : _ = Value.agg #[_, _]) .nil) (fun w hm => ⟨_, (hn_215.trans hn_218), hm.has, ?_, hm.since⟩)
   exact ⟨_, _, rfl, hwi, hwb⟩
end Go.Proofs.Ytpadfgomhojjnaa

/- Walks: what Go functions of this chapter come to, each as a function on plain data; no condition but those that each theorem names. Printed by a program of this work (gen.py). -/
namespace Go.Proofs.Ytpadfgomhojjnaa
open Go.Gx Go.Gx.T13 Go.Gx.T8 Go.Gx.T4 Go.Gx.T3 Go.Gx.T14 Go.Gx.T13 Go.Gx.T8 Go.Gx.T6 Go.Gx.T4 Go.Gx.T3 Go.Gx.T3 Go.Gx.T4 Go.Gx.T3 Go.Gx.T6 Go.Gx.T8 Go.Gx.T4 Go.Gx.T3 Go.Gx.T8 Go.Gx.T4 Go.Gx.T3 Go.Gx.T8 Go.Gx.T6 Go.Gx.T4 Go.Gx.T3
theorem sz81 : SzIs Try.prog 81 1 := by
 unfold SzIs
 kernel_rfl
theorem zr109 : ZeroIs Try.prog 109 (Value.agg #[Value.int .i64 0, Value.int .i64 0, Value.int .i64 0, Value.int .i64 0, Value.slice none 0 0, Value.slice none 0 0]) := by
 unfold ZeroIs
 kernel_rfl
theorem cl55 : Callable Try.prog 55 := callable Try.func55 (by kernel_rfl) rfl
theorem cl66 : Callable Try.prog 66 := callable Try.func66 (by kernel_rfl) rfl
theorem cl69 : Callable Try.prog 69 := callable Try.func69 (by kernel_rfl) rfl
theorem cl70 : Callable Try.prog 70 := callable Try.func70 (by kernel_rfl) rfl
theorem cl81 : Callable Try.prog 81 := callable Try.func81 (by kernel_rfl) rfl
def YieldOk {σ : Type} (A : σ → Asrt) (bb : Bool) (Sg : Ghost → List MT → σ → Prop) (g : Nat) (cs : List Value) : Prop := Callable Try.prog g ∧ (∀ G G' Ms z, Sg G Ms z → GLe G G' → Sg G' Ms z) ∧ ∀ (m : MT) (vi vb : Value) (Ms : List MT) (z : σ) (G : Ghost) (F : Nat → Prop) (w : World), (bb = true → Ms.length ≤ 5000) → SlL G vi 1 cI 0 m.1 → SlL G vb 3 triL z3 m.2 → Sg G Ms z → Has G w → (A z).holds w F → (∀ c, F c → G c = none) → Calls Try.prog g ([Value.agg #[vi, vb]] ++ cs).toArray w (Ret fun r w' => ∃ G' z', GNew w F G G' ∧ Has G' w' ∧ (r = .bool bb ∧ Sg G' (Ms ++ [m]) z') ∧ KeptG (A z') F G' w w')
def GrowPIs (n : Nat) : Prop := ∀ (σ : Type) (A : σ → Asrt) (bb : Bool) (Sg : Ghost → List MT → σ → Prop) (g : Nat) (cs : List Value), YieldOk A bb Sg g cs → ∀ (vf vl vi vb : Value) (fs : List FD) (l : List ST) (m : MT) (Ms : List MT) (z : σ) (G : Ghost) (F : Nat → Prop) (w : World), SizeOf.sizeOf l ≤ n → (fs.length ≤ 2000 ∧ m.1.length + sszL l ≤ 1000 ∧ m.2.length + sszL l ≤ 1000) → okSL l → (bb = true → Ms.length + (gm fs l m).length ≤ 5000) → SlL G vf 4 fC f0 fs → Ss G vl l → SlL G vi 1 cI 0 m.1 → SlL G vb 3 triL z3 m.2 → Sg G Ms z → Has G w → (A z).holds w F → (∀ c, F c → G c = none) → Calls Try.prog 55 #[vf, vl, Value.agg #[vi, vb], Value.func (.func g) #[] cs.toArray] w (Ret fun r w' => ∃ G' z', GNew w F G G' ∧ Has G' w' ∧ (r = .bool (bb || (gm fs l m).isEmpty) ∧ Sg G' (Ms ++ proc bb (gm fs l m)) z') ∧ KeptG (A z') F G' w w')
theorem c_foundcl0 (vi vb : Value) (w : World) : Calls Try.prog 81 #[Value.agg #[vi, vb]] w (Ret fun r w' => r = Value.bool false ∧ Since nX w w') := by
 refine enter (args := [_]) (X := nX) (G := (fun _ => none)) (l := [(0, Value.agg #[vi, vb])]) Try.func81 rfl Try.ntmps81 (fun _ _ h => by cases h) ⟨rfl, trivial⟩ (Nat.le_of_ble_eq_true rfl) ?_
 refine c_seq ?_
 refine c_region ?_
 refine r_box .none rfl rfl (IsRow.lit _) (fun b_1 => ?_)
 refine r_val .none rfl (p_assign rfl) ?_
 refine r_nil ?_
 refine e_next ?_
 refine c_seq ?_
 refine c_region ?_
 refine r_val .none rfl (p_assign rfl) ?_
 refine r_nil ?_
 refine e_next ?_
 refine c_ret ?_
 refine e_ret1 Try.results81 (.tmp rfl .nil) (fun w hm => ⟨?_, hm.since⟩)
 rfl
theorem c_foundcl : YieldOk (fun _ : Unit => empA) false (fun _ _ _ => True) 81 [] := by
 refine ⟨cl81, fun _ _ _ _ h _ => h, ?_⟩
 intro m vi vb Ms z G F w _ _ _ _ hG hA _
 refine (c_foundcl0 vi vb w).mono (fun e w' hR => ?_)
 cases e with
 | returned r =>
  obtain ⟨rfl, hs⟩ := hR
  refine ⟨G, (), GNew.refl _ _ _, fun b o e => ?_, ⟨rfl, trivial⟩, ⟨hs.os, hs.tape, hs.output, hs.size, fun k hk _ => hs.block k hk id⟩, F, hA, fun b hb => .inl hb, fun b hb => (hA b hb).elim⟩
  rw [hs.block b (hG.lt e) id]; exact hG b o e
 | panicked c => exact hR.elim
 | outgrown => exact hR.elim
theorem c_found_s (n : Nat) (ih : GrowPIs n) (vf vl vi vb : Value) (fs : List FD) (l : List ST) (m : MT) {G : Ghost} (hz : SizeOf.sizeOf l ≤ n) (hlen : fs.length ≤ 2000 ∧ m.1.length + sszL l ≤ 1000 ∧ m.2.length + sszL l ≤ 1000) (hok : okSL l) (hf : SlL G vf 4 fC f0 fs) (hs : Ss G vl l) (hi : SlL G vi 1 cI 0 m.1) (hb : SlL G vb 3 triL z3 m.2) (w : World) (hG : Has G w) :
  Calls Try.prog 70 #[vf, vl, Value.agg #[vi, vb]] w (Ret fun r w' => ∃ G', GNew w nX G G' ∧ Has G' w' ∧ r = Value.bool (!(gm fs l m).isEmpty) ∧ Since nX w w') := by
 refine enter (args := [_, _, _]) (X := nX) (G := G) (l := [(0, vf), (1, vl), (2, Value.agg #[vi, vb])]) Try.func70 rfl Try.ntmps70 hG ⟨rfl, rfl, rfl, trivial⟩ (Nat.le_of_ble_eq_true rfl) ?_
 refine c_seq ?_
 refine c_region ?_
 refine r_box .none rfl rfl (IsRow.lit _) (fun b_1 => ?_)
 refine r_val .none rfl (p_assign rfl) ?_
 refine r_nil ?_
 refine e_next ?_
 refine c_seq ?_
 refine c_region ?_
 refine r_val .none rfl (p_move rfl) ?_
 refine r_val .none rfl (p_move rfl) ?_
 refine r_val .none rfl (p_ldw (k := 0) Try.underlying137 rfl sz137 rfl rfl (rfl : _ = Value.agg #[_, _])) ?_
 refine r_emp ?_
 refine r_callox (k := 0) (vs := [_, _, _, _]) .none rfl cl55 rfl rfl (fun w F hw hA hFG => ih Unit (fun _ => empA) false (fun _ _ _ => True) _ [] c_foundcl vf vl vi vb fs l m [] () G F w hz hlen hok (fun h => by cases h) hf hs hi hb trivial hw hA hFG) (fun G_1 v_4 z_6 hn_2 hr_3 => ?_)
 replace hf := hf.mono hn_2.le
 replace hs := hs.mono hn_2.le
 replace hi := hi.mono hn_2.le
 replace hb := hb.mono hn_2.le
 obtain ⟨rfl, -⟩ := hr_3
 refine r_val .none rfl (p_not rfl) ?_
 refine r_val .none rfl (p_assign rfl) ?_
 refine r_nil ?_
 refine e_next ?_
 refine c_ret ?_
 refine e_ret1 Try.results70 (.tmp rfl .nil) (fun w hm => ⟨_, hn_2, hm.has, ?_, hm.since⟩)
 simp
theorem c_growP_s (n : Nat) (ih : GrowPIs n) {σ : Type} (A : σ → Asrt) (bb : Bool) (Sg : Ghost → List MT → σ → Prop) (g : Nat) (cs : List Value) (hy : YieldOk A bb Sg g cs) (vf vl vi vb : Value) (fs : List FD) (l : List ST) (m : MT) (Ms : List MT) (z : σ) {G : Ghost} {F : Nat → Prop} (hz : SizeOf.sizeOf l ≤ n + 1) (hlen : fs.length ≤ 2000 ∧ m.1.length + sszL l ≤ 1000 ∧ m.2.length + sszL l ≤ 1000) (hok : okSL l) (hlim : bb = true → Ms.length + (gm fs l m).length ≤ 5000) (hf : SlL G vf 4 fC f0 fs) (hs : Ss G vl l) (hi : SlL G vi 1 cI 0 m.1) (hb : SlL G vb 3 triL z3 m.2) (hS : Sg G Ms z) (w : World) (hG : Has G w) (hA : (A z).holds w F) (hFG : ∀ c, F c → G c = none) :
    Calls Try.prog 55 #[vf, vl, Value.agg #[vi, vb], Value.func (.func g) #[] cs.toArray] w (Ret fun r w' => ∃ G' z', GNew w F G G' ∧ Has G' w' ∧ (r = .bool (bb || (gm fs l m).isEmpty) ∧ Sg G' (Ms ++ proc bb (gm fs l m)) z') ∧ KeptG (A z') F G' w w') := by
  refine enterO (args := [_, _, _, _]) (G := G) (A := A z) (l := [(0, vf), (1, vl), (2, Value.agg #[vi, vb]), (3, Value.func (.func g) #[] cs.toArray)]) Try.func55 rfl Try.ntmps55 hG hA hFG ⟨rfl, rfl, rfl, rfl, trivial⟩ (Nat.le_of_ble_eq_true rfl) ?_
  have hy9 := hy
  obtain ⟨hcg, hmono, hcl⟩ := hy9
  obtain ⟨rs, hr, hpt, hps, hl⟩ := hs.inv
  have hbd := hr.bound
  have hlr : l.length = rs.length := by rw [hl]; simp
  refine c_seq ?_
  refine c_region ?_
  refine r_box .none rfl rfl (IsRow.lit _) (fun b_1 => ?_)
  refine r_val .none rfl (p_assign rfl) ?_
  refine r_nil ?_
  refine e_next ?_
  refine c_seq ?_
  refine c_seq ?_
  refine c_region ?_
  refine r_val .none rfl (p_move rfl) ?_
  refine r_val .none rfl (p_leng Try.underlying81 rfl hr) ?_
  have bd_1 := (hr).bound
  refine r_val .none rfl (p_eq rfl rfl) ?_
  refine r_nil ?_
  refine e_next ?_
  refine c_splitd (d := 15) rfl (fun h_2 => ?_) (fun h_2 => ?_)
  · skip
    have hnil : l = [] := by rw [hl, List.eq_nil_of_length_eq_zero (show rs.length = 0 by omega)]; rfl
    first
      | (exfalso; omega)
      | (
        refine c_cond_t rfl ?_
        refine c_seq ?_
        refine c_region ?_
        refine r_val .none rfl (p_move rfl) ?_
        refine r_val .none rfl (p_ldw (k := 0) Try.underlying137 rfl sz137 rfl rfl (rfl : _ = Value.agg #[_, _])) ?_
        refine r_yield (k := 1) (us := [_]) .none rfl rfl rfl hcg rfl (fun w F hw hA hFG => hcl m vi vb Ms z _ _ w (fun hb9 => by have q2 := hlim hb9; omega) hi hb hS hw hA hFG) (fun G_3 v_6 z_8 hn_4 hr_5 => ?_)
        replace hf := hf.mono hn_4.le
        replace hr := hr.mono hn_4.le
        replace hpt := fun p hm0 => (hpt p hm0).mono hn_4.le
        replace hps := fun p hm0 => (hps p hm0).mono hn_4.le
        replace hi := hi.mono hn_4.le
        replace hb := hb.mono hn_4.le
        replace hS := hmono _ _ _ _ hS hn_4.le
        obtain ⟨rfl, u_7s⟩ := hr_5
        refine r_val .none rfl (p_assign rfl) ?_
        refine r_nil ?_
        refine e_next ?_
        refine c_ret ?_
        refine e_ret_then ?_
        refine e_ret1 Try.results55 (.tmp rfl .nil) (fun w hm => ⟨_, z_8, hn_4, hm.has, ⟨?_, ?_⟩, hm.keptG [A z_8] (.drop (.keep (fun _ _ h => h) (.nil))) (A z_8) (fun F' h => starL_one h)⟩)
        · rw [hnil, gm]; simp
        · rw [hnil, gm, proc_one]; exact u_7s
        )
  · skip
    have hl0 : 0 < rs.length := by omega
    have hcons : l = (rs.getD 0 s0).1 :: ((rs.drop 1).map Prod.fst) := ss_cons hl hl0
    have hok2 := okSL_cons (by rw [← hcons]; exact hok)
    have hsq : sszL l = ssz (rs.getD 0 s0).1 + sszL ((rs.drop 1).map Prod.fst) := by rw [hcons, sszL]
    have hsx := ssz_eq (rs.getD 0 s0).1
    first
      | (exfalso; omega)
      | (
        refine c_cond_f rfl ?_
        refine c_skip ?_
        refine e_next ?_
        refine c_seq ?_
        refine c_region_d (fun _ => false) _ mixed (.keep (fun _ _ h => h) (.keep (fun _ _ h => h) (.nil))) ?_
        refine d_val1 0 rfl rfl (by kernel_rfl) (fun _ _ => rfl) .none rfl (p_move rfl) ?_
        refine d_iaddr_g 1 (k := 0) rfl rfl (by kernel_rfl) (fun _ _ => rfl) .none rfl Try.underlying81 sz109 rfl hr rfl (by first | exact of_decide_eq_true rfl | omega) (fun p_10 o_11 R_9 => ?_)
        have ht_12 := hpt _ (getD_mem (i := 0) (d := s0) (by omega))
        have hc_13 := hps _ (getD_mem (i := 0) (d := s0) (by omega))
        refine d_val1 2 rfl rfl (by kernel_rfl) (fun _ _ => rfl) .none rfl (p_ldga0 Try.underlying109 rfl sz109 rfl R_9 (by first | exact of_decide_eq_true rfl | omega) (rfl : _ = Value.agg #[_, _, _, _, _, _])) ?_
        refine d_val1 3 rfl rfl (by kernel_rfl) (fun _ _ => rfl) .none rfl (p_move rfl) ?_
        refine d_sliceL 4 1 rfl rfl (by kernel_rfl) (fun _ _ => rfl) .none rfl Try.underlying81 sz109 rfl hr rfl (by first | exact of_decide_eq_true rfl | omega) (fun v_14 hs_15 => ?_)
        have hR := ss_drop hs_15 hpt hps
        refine d_eff 5 rfl (by kernel_rfl) (fun K_17 hKK_17 hcK_17 => ?_)
        refine r_alloc .none rfl zr109 (IsRow.lit _) (fun b_2 => ?_)
        refine r_nil (e_d (i := 5) (brk := (fun _ => false)) (ph' := true) hKK_17 hcK_17 rfl (fun _ => GLe.refl _) (fun _ => .drop (.keep (fun _ _ h => h) (.keep (fun _ _ h => h) (.nil)))) ?_)
        clear hKK_17 hcK_17 K_17
        refine d_eff 6 rfl (by kernel_rfl) (fun K_18 hKK_18 hcK_18 => ?_)
        refine r_stw (k := 0) .none sz109 rfl rfl (IsRow.lit _) (one_lit rfl (all_cons rfl (all_cons rfl (all_cons rfl (all_cons rfl (all_cons (ht_12).one (all_cons (hc_13).one rfl))))))) rfl ?_
        refine r_nil (e_d (i := 6) (brk := (fun _ => false)) (ph' := true) hKK_18 hcK_18 rfl (fun _ => GLe.refl _) (fun _ => .drop (.keep (fun _ _ h => h) (.keep (fun _ _ h => h) (.nil)))) ?_)
        clear hKK_18 hcK_18 K_18
        refine d_val1 7 rfl rfl (by kernel_rfl) (fun _ _ => rfl) .none rfl (p_assign rfl) ?_
        refine d_nil (by kernel_rfl) ?_
        refine e_next ?_
        refine c_seq ?_
        refine c_seq ?_
        refine c_region ?_
        refine r_val .none rfl (p_field Try.underlying109 rfl sz3 rfl) ?_
        refine r_val .none rfl (p_ld (k := 0) Try.underlying3 rfl rfl rfl (by first | exact of_decide_eq_true rfl | omega) (rfl : _ = Value.int _ _)) ?_
        refine r_nil ?_
        refine e_next ?_
        refine c_block ?_
        refine c_seq ?_
        refine c_region ?_
        refine r_val .none rfl (p_eq rfl rfl) ?_
        refine r_val .none rfl (p_assign rfl) ?_
        refine r_nil ?_
        refine e_next ?_
        refine c_splitd (d := 31) rfl (fun h_19 => ?_) (fun h_19 => ?_)
        · skip
          have hk1 := h_19
          first
            | (exfalso; omega)
            | (
              refine c_cond_t rfl ?_
              refine c_seq ?_
              refine c_seq ?_
              refine c_region ?_
              refine r_val .none rfl (p_move rfl) ?_
              refine r_val .none rfl (p_leng Try.underlying72 rfl hf) ?_
              have bd_20 := (hf).bound
              refine r_val .none rfl (p_move rfl) ?_
              refine r_nil ?_
              refine e_next ?_
              refine c_block ?_
              refine c_name (d := 0) rfl (fun u_21 hu_21 => ?_)
              refine c_name (d := 3) rfl (fun u_22 hu_22 => ?_)
              refine c_name (d := 6) rfl (fun u_23 hu_23 => ?_)
              refine c_name (d := 9) rfl (fun u_24 hu_24 => ?_)
              refine c_name (d := 10) rfl (fun u_25 hu_25 => ?_)
              refine c_name (d := 33) rfl (fun u_26 hu_26 => ?_)
              refine c_name (d := 34) rfl (fun u_27 hu_27 => ?_)
              refine c_nameL (k := 0) rfl (fun A_28 hA_28 => ?_)
              refine c_nameL (k := 1) rfl (fun A_29 hA_29 => ?_)
              refine c_loop (σ := Nat × σ × Ghost) (fun s => [(35, Value.int .i64 (s.1 : Nat)), (0, u_21), (3, u_22), (6, u_23), (9, u_24), (10, u_25), (33, u_26), (34, u_27)]) (fun s => [A_28, A_29, A s.2.1]) (fun s => s.2.2) (fun s => s.1 ≤ fs.length ∧ (bb = false → gmTo fs (rs.getD 0 s0).1 ((rs.drop 1).map Prod.fst) m s.1 = []) ∧ Sg s.2.2 (Ms ++ gmTo fs (rs.getD 0 s0).1 ((rs.drop 1).map Prod.fst) m s.1) s.2.1 ∧ GNew w F G s.2.2) (fun s => fs.length - s.1) ((0, z, _)) ⟨Nat.zero_le _, fun _ => rfl, by dsimp only; rw [gmTo_zero, List.append_nil]; exact hS, GNew.refl _ _ _⟩ rfl ⟨rfl, rfl, rfl, rfl, rfl, rfl, rfl, rfl, trivial⟩ (.keep (fun _ _ h => h) (.keep (fun _ _ h => h) (.keep (fun _ _ h => h) (.nil)))) (fun s hphi => ?_)
              subst hu_21
              subst hu_22
              subst hu_23
              subst hu_24
              subst hu_25
              subst hu_26
              subst hu_27
              subst hA_28
              subst hA_29
              obtain ⟨k, y, H⟩ := s
              obtain ⟨hk, hno, hS2, hgn⟩ := hphi
              dsimp only at hk hno hS2 hgn ⊢
              replace hf := hf.mono hgn.le
              replace hr := hr.mono hgn.le
              replace hpt := fun p hm0 => (hpt p hm0).mono hgn.le
              replace hps := fun p hm0 => (hps p hm0).mono hgn.le
              replace hi := hi.mono hgn.le
              replace hb := hb.mono hgn.le
              replace hS := hmono _ _ _ _ hS hgn.le
              replace R_9 := R_9.mono hgn.le
              replace ht_12 := ht_12.mono hgn.le
              replace hc_13 := hc_13.mono hgn.le
              replace hs_15 := hs_15.mono hgn.le
              replace hR := hR.mono hgn.le
              refine c_seq ?_
              refine c_region ?_
              refine r_val .none rfl (p_lt rfl rfl) ?_
              refine r_nil ?_
              refine e_next ?_
              refine c_seq ?_
              refine c_splitd (d := 36) rfl (fun h_30 => ?_) (fun h_30 => ?_)
              · skip
                first
                  | (exfalso; omega)
                  | (
                    refine c_cond_t rfl ?_
                    refine c_skip ?_
                    refine e_next ?_
                    refine c_seq ?_
                    refine c_block ?_
                    refine c_seq ?_
                    refine c_region ?_
                    refine r_iaddr_g .none rfl Try.underlying72 sz120 rfl hf rfl (by first | exact of_decide_eq_true rfl | omega) (fun p_32 o_33 R_31 => ?_)
                    refine r_val .none rfl (p_ldga0 Try.underlying120 rfl sz120 rfl R_31 (by first | exact of_decide_eq_true rfl | omega) (rfl : _ = Value.agg #[_, _, _, _])) ?_
                    refine r_alloc .none rfl zr120 (IsRow.lit _) (fun b_3 => ?_)
                    refine r_stw (k := 0) .none sz120 rfl rfl (IsRow.lit _) (one_lit rfl rfl) rfl ?_
                    refine r_nil ?_
                    refine e_next ?_
                    refine c_seq ?_
                    refine c_region ?_
                    refine r_val .none rfl (p_ldw (k := 1) Try.underlying109 rfl sz109 rfl rfl (rfl : _ = Value.agg #[_, _, _, _, _, _])) ?_
                    refine r_val .none rfl (p_field Try.underlying137 rfl sz70 rfl) ?_
                    refine r_val .none rfl (p_ld (k := 2) Try.underlying70 rfl rfl rfl (by first | exact of_decide_eq_true rfl | omega) rfl) ?_
                    refine r_val .none rfl (p_field Try.underlying120 rfl sz106 rfl) ?_
                    refine r_val .none rfl (p_lda (k := 0) Try.underlying106 rfl sz106 rfl rfl (by first | exact of_decide_eq_true rfl | omega) (rfl : _ = Value.agg #[_, _, _])) ?_
                    refine r_call (vs := [_, _, _]) .none rfl cl73 rfl (fun w hw => c_meets (rs.getD 0 s0).1.h.k (sKey (rs.getD 0 s0).1.h) (rs.getD 0 s0).1.h.ts _ _ _ m.2 (fs.getD k f0).2 hok2.1.1 ht_12 hb w hw) ?_
                    refine r_val .none rfl (p_move rfl) ?_
                    refine r_split (d := 45) rfl (fun h_34 => ?_) (fun h_34 => ?_)
                    · skip
                      have hM := h_34
                      first
                        | (exfalso; omega)
                        | (
                          refine r_val (.some rfl rfl) rfl (p_move rfl) ?_
                          refine r_val (.some rfl rfl) rfl (p_move rfl) ?_
                          refine r_val (.some rfl rfl) rfl (p_ldw (k := 2) Try.underlying137 rfl sz137 rfl rfl (rfl : _ = Value.agg #[_, _])) ?_
                          refine r_val (.some rfl rfl) rfl (p_ldw (k := 0) Try.underlying120 rfl sz120 rfl rfl (rfl : _ = Value.agg #[_, _, _, _])) ?_
                          refine r_callm (vs := [_, _]) (.some rfl rfl) rfl cl69 rfl (fun w hw => c_with m (fs.getD k f0) _ _ (by omega) hi hb w hw) (fun G_35 v_38 hn_36 hr_37 => ?_)
                          replace hf := hf.mono hn_36.le
                          replace hr := hr.mono hn_36.le
                          replace hpt := fun p hm0 => (hpt p hm0).mono hn_36.le
                          replace hps := fun p hm0 => (hps p hm0).mono hn_36.le
                          replace hi := hi.mono hn_36.le
                          replace hb := hb.mono hn_36.le
                          replace hS := hmono _ _ _ _ hS hn_36.le
                          replace R_9 := R_9.mono hn_36.le
                          replace ht_12 := ht_12.mono hn_36.le
                          replace hc_13 := hc_13.mono hn_36.le
                          replace hs_15 := hs_15.mono hn_36.le
                          replace hR := hR.mono hn_36.le
                          replace hS2 := hmono _ _ _ _ hS2 hn_36.le
                          replace R_31 := R_31.mono hn_36.le
                          obtain ⟨u_39a, u_39b, rfl, u_39s, u_39t⟩ := hr_37
                          refine r_val (.some rfl rfl) rfl (p_move rfl) ?_
                          refine r_callox (k := 3) (vs := [_, _, _, _]) (.some rfl rfl) rfl cl55 rfl rfl (fun w F hw hA hFG => ih σ A bb Sg g cs hy _ _ _ _ fs ((rs.drop 1).map Prod.fst) (mw m (fs.getD k f0)) (Ms ++ gmTo fs (rs.getD 0 s0).1 ((rs.drop 1).map Prod.fst) m k) y _ _ w (by have := drop_lt hl0; rw [← hl] at this; omega) ⟨hlen.1, by show (m.1 ++ [(fs.getD k f0).1]).length + _ ≤ 1000; rw [List.length_append, List.length_singleton]; omega, by show (m.2 ++ [(fs.getD k f0).2]).length + _ ≤ 1000; rw [List.length_append, List.length_singleton]; omega⟩ hok2.2 (fun hb9 => by have q1 := gmTo_len (rest := ((rs.drop 1).map Prod.fst)) (m := m) (show k + 1 ≤ fs.length by omega) hk1; rw [gmTo_yes (by omega) hM, List.length_append] at q1; have q2 := hlim hb9; rw [hcons] at q2; rw [List.length_append]; omega) hf hR u_39s u_39t hS2 hw hA hFG) (fun G_40 v_43 z_45 hn_41 hr_42 => ?_)
                          replace hf := hf.mono hn_41.le
                          replace hr := hr.mono hn_41.le
                          replace hpt := fun p hm0 => (hpt p hm0).mono hn_41.le
                          replace hps := fun p hm0 => (hps p hm0).mono hn_41.le
                          replace hi := hi.mono hn_41.le
                          replace hb := hb.mono hn_41.le
                          replace hS := hmono _ _ _ _ hS hn_41.le
                          replace R_9 := R_9.mono hn_41.le
                          replace ht_12 := ht_12.mono hn_41.le
                          replace hc_13 := hc_13.mono hn_41.le
                          replace hs_15 := hs_15.mono hn_41.le
                          replace hR := hR.mono hn_41.le
                          replace hS2 := hmono _ _ _ _ hS2 hn_41.le
                          replace R_31 := R_31.mono hn_41.le
                          replace u_39s := u_39s.mono hn_41.le
                          replace u_39t := u_39t.mono hn_41.le
                          obtain ⟨rfl, u_44s⟩ := hr_42
                          refine r_val (.some rfl rfl) rfl (p_not rfl) ?_
                          refine r_val .none rfl (p_pick_t rfl rfl) ?_
                          refine r_nil ?_
                          refine e_next ?_
                          refine c_splitn (d := 54) rfl (fun h_46 => ?_) (fun h_46 => ?_)
                          · skip
                            have hX9 := h_46
                            have hX8 : (bb || (gm fs ((rs.drop 1).map Prod.fst) (mw m (fs.getD k f0))).isEmpty) = false := by simpa using hX9
                            obtain ⟨hbf, hE9⟩ := Bool.or_eq_false_iff.1 hX8
                            first
                              | (exfalso; omega)
                              | (
                                refine c_cond_t rfl ?_
                                refine c_seq ?_
                                refine c_region ?_
                                refine r_val .none rfl (p_assign rfl) ?_
                                refine r_nil ?_
                                refine e_next ?_
                                refine c_ret ?_
                                refine e_ret_block ?_
                                refine e_ret_then ?_
                                refine e_ret_then ?_
                                refine e_ret_block ?_
                                refine e_ret_then ?_
                                refine e_ret_block ?_
                                refine e_ret_then ?_
                                refine e_ret1 Try.results55 (.tmp rfl .nil) (fun w hm => ⟨_, z_45, ((hgn.trans hn_36).trans hn_41), hm.has, ⟨?_, ?_⟩, hm.keptG [A z_45] (.drop (.drop (.drop (.keep (fun _ _ h => h) (.nil))))) (A z_45) (fun F' h => starL_one h)⟩)
                                · have hst := growP_stop (rest := ((rs.drop 1).map Prod.fst)) (show k < fs.length by omega) hk1 hM (hno hbf) hE9
                                  rw [hcons, hst.1, hbf]; rfl
                                · have hst := growP_stop (rest := ((rs.drop 1).map Prod.fst)) (show k < fs.length by omega) hk1 hM (hno hbf) hE9
                                  rw [hbf, hno hbf, List.append_nil] at u_44s
                                  rw [hcons, hbf, hst.2]; exact u_44s
                                )
                          · skip
                            have hX9 := h_46
                            have hX : (bb || (gm fs ((rs.drop 1).map Prod.fst) (mw m (fs.getD k f0))).isEmpty) = true := by simpa using hX9
                            first
                              | (exfalso; omega)
                              | (
                                refine c_cond_f rfl ?_
                                refine c_skip ?_
                                refine e_norm_block ?_
                                refine e_next ?_
                                refine c_region ?_
                                refine r_val .none rfl (p_add rfl rfl (by omega)) ?_
                                refine r_val .none rfl (p_move rfl) ?_
                                refine r_nil ?_
                                refine e_round ((k + 1, z_45, _)) ⟨⟨by dsimp only; omega, fun hb9 => by dsimp only; rw [gmTo_yes (by omega) hM, hno hb9, go_nil hX hb9]; rfl, by dsimp only; rw [gmTo_yes (by omega) hM, ← List.append_assoc]; rw [proc_go hX] at u_44s; exact u_44s, ((hgn.trans hn_36).trans hn_41)⟩, by dsimp only; omega⟩ rfl ⟨rfl, rfl, rfl, rfl, rfl, rfl, rfl, rfl, trivial⟩ (.drop (.keep (fun _ _ h => h) (.keep (fun _ _ h => h) (.keep (fun _ _ h => h) (.nil)))))
                                )
                          )
                    · skip
                      have hM := h_34
                      first
                        | (exfalso; omega)
                        | (
                          refine r_skip rfl (.no rfl rfl) ?_
                          refine r_skip rfl (.no rfl rfl) ?_
                          refine r_skip rfl (.no rfl rfl) ?_
                          refine r_skip rfl (.no rfl rfl) ?_
                          refine r_skip rfl (.no rfl rfl) ?_
                          refine r_skip rfl (.no rfl rfl) ?_
                          refine r_skip rfl (.no rfl rfl) ?_
                          refine r_skip rfl (.no rfl rfl) ?_
                          refine r_val .none rfl (p_pick_f rfl rfl) ?_
                          refine r_nil ?_
                          refine e_next ?_
                          refine c_cond_f rfl ?_
                          refine c_skip ?_
                          refine e_norm_block ?_
                          refine e_next ?_
                          refine c_region ?_
                          refine r_val .none rfl (p_add rfl rfl (by omega)) ?_
                          refine r_val .none rfl (p_move rfl) ?_
                          refine r_nil ?_
                          refine e_round ((k + 1, y, _)) ⟨⟨by dsimp only; omega, fun hb9 => by dsimp only; rw [gmTo_no (by omega) hM]; exact hno hb9, by dsimp only; rw [gmTo_no (by omega) hM]; exact hS2, hgn⟩, by dsimp only; omega⟩ rfl ⟨rfl, rfl, rfl, rfl, rfl, rfl, rfl, rfl, trivial⟩ (.drop (.keep (fun _ _ h => h) (.keep (fun _ _ h => h) (.keep (fun _ _ h => h) (.nil)))))
                          )
                    )
              · skip
                first
                  | (exfalso; omega)
                  | (
                    refine c_cond_f rfl ?_
                    refine c_exit ?_
                    refine e_exit_then ?_
                    refine e_exit_then ?_
                    refine e_exit_block ?_
                    refine e_next ?_
                    refine c_seq ?_
                    refine c_region ?_
                    refine r_val .none rfl (p_assign rfl) ?_
                    refine r_nil ?_
                    refine e_next ?_
                    refine c_ret ?_
                    refine e_ret_block ?_
                    refine e_ret_then ?_
                    refine e_ret1 Try.results55 (.tmp rfl .nil) (fun w hm => ⟨_, y, hgn, hm.has, ⟨?_, ?_⟩, hm.keptG [A y] (.drop (.drop (.keep (fun _ _ h => h) (.nil)))) (A y) (fun F' h => starL_one h)⟩)
                    · rw [hcons, gm_pos hk1, show fs.length = k by omega, end_true hno]
                    · rw [hcons, gm_pos hk1, show fs.length = k by omega, proc_all hno]; exact hS2
                    )
              )
        · skip
          have hk1 := h_19
          first
            | (exfalso; omega)
            | (
              refine c_cond_f rfl ?_
              refine c_seq ?_
              refine c_region ?_
              refine r_val .none rfl (p_eq rfl rfl) ?_
              refine r_val .none rfl (p_assign rfl) ?_
              refine r_nil ?_
              refine e_next ?_
              refine c_splitd (d := 56) rfl (fun h_47 => ?_) (fun h_47 => ?_)
              · skip
                have hk2 := h_47
                first
                  | (exfalso; omega)
                  | (
                    refine c_cond_t rfl ?_
                    refine c_seq ?_
                    refine c_region ?_
                    refine r_val .none rfl (p_ldw (k := 0) Try.underlying109 rfl sz109 rfl rfl (rfl : _ = Value.agg #[_, _, _, _, _, _])) ?_
                    refine r_val .none rfl (p_field Try.underlying137 rfl sz70 rfl) ?_
                    refine r_val .none rfl (p_ld (k := 1) Try.underlying70 rfl rfl rfl (by first | exact of_decide_eq_true rfl | omega) rfl) ?_
                    refine r_val .none rfl (p_move rfl) ?_
                    refine r_callm (vs := [_, _, _]) .none rfl cl66 rfl (fun w hw => c_which (rs.getD 0 s0).1.h.k (sKey (rs.getD 0 s0).1.h) (rs.getD 0 s0).1.h.ts _ _ _ m.2 _ fs hlen.1 hok2.1.1 ht_12 hb hf w hw) (fun G_48 v_51 hn_49 hr_50 => ?_)
                    replace hf := hf.mono hn_49.le
                    replace hr := hr.mono hn_49.le
                    replace hpt := fun p hm0 => (hpt p hm0).mono hn_49.le
                    replace hps := fun p hm0 => (hps p hm0).mono hn_49.le
                    replace hi := hi.mono hn_49.le
                    replace hb := hb.mono hn_49.le
                    replace hS := hmono _ _ _ _ hS hn_49.le
                    replace R_9 := R_9.mono hn_49.le
                    replace ht_12 := ht_12.mono hn_49.le
                    replace hc_13 := hc_13.mono hn_49.le
                    replace hs_15 := hs_15.mono hn_49.le
                    replace hR := hR.mono hn_49.le
                    have u_52 := hr_50
                    refine r_val .none rfl (p_leng Try.underlying22 rfl u_52) ?_
                    have bd_53 := (u_52).bound
                    refine r_val .none rfl (p_gt rfl rfl) ?_
                    refine r_nil ?_
                    refine e_next ?_
                    refine c_splitd (d := 64) rfl (fun h_54 => ?_) (fun h_54 => ?_)
                    · skip
                      have hW := h_54
                      skip
                      first
                        | (exfalso; omega)
                        | (
                          refine c_cond_t rfl ?_
                          refine c_seq ?_
                          refine c_region ?_
                          refine r_val .none rfl (p_assign rfl) ?_
                          refine r_nil ?_
                          refine e_next ?_
                          refine c_ret ?_
                          refine e_ret_block ?_
                          refine e_ret_then ?_
                          refine e_ret1 Try.results55 (.tmp rfl .nil) (fun w hm => ⟨_, z, hn_49, hm.has, ⟨?_, ?_⟩, hm.keptG [A z] (.drop (.drop (.keep (fun _ _ h => h) (.nil)))) (A z) (fun F' h => starL_one h)⟩)
                          · rw [hcons, gm_neg_no hk2 (by omega)]; simp
                          · rw [hcons, gm_neg_no hk2 (by omega), proc_nil, List.append_nil]; exact hS
                          )
                    · skip
                      have hW := h_54
                      skip
                      first
                        | (exfalso; omega)
                        | (
                          refine c_cond_f rfl ?_
                          refine c_skip ?_
                          refine e_norm_block ?_
                          refine e_next ?_
                          refine c_seq ?_
                          refine c_region ?_
                          refine r_val .none rfl (p_move rfl) ?_
                          refine r_val .none rfl (p_move rfl) ?_
                          refine r_val .none rfl (p_ldw (k := 1) Try.underlying137 rfl sz137 rfl rfl (rfl : _ = Value.agg #[_, _])) ?_
                          refine r_val .none rfl (p_move rfl) ?_
                          refine r_callox (k := 2) (vs := [_, _, _, _]) .none rfl cl55 rfl rfl (fun w F hw hA hFG => ih σ A bb Sg g cs hy _ _ _ _ fs ((rs.drop 1).map Prod.fst) m Ms z _ _ w (by have := drop_lt hl0; rw [← hl] at this; omega) ⟨hlen.1, by omega, by omega⟩ hok2.2 (fun hb9 => by have q2 := hlim hb9; rw [hcons, gm_neg hk2 (by omega)] at q2; exact q2) hf hR hi hb hS hw hA hFG) (fun G_55 v_58 z_60 hn_56 hr_57 => ?_)
                          replace hf := hf.mono hn_56.le
                          replace hr := hr.mono hn_56.le
                          replace hpt := fun p hm0 => (hpt p hm0).mono hn_56.le
                          replace hps := fun p hm0 => (hps p hm0).mono hn_56.le
                          replace hi := hi.mono hn_56.le
                          replace hb := hb.mono hn_56.le
                          replace hS := hmono _ _ _ _ hS hn_56.le
                          replace R_9 := R_9.mono hn_56.le
                          replace ht_12 := ht_12.mono hn_56.le
                          replace hc_13 := hc_13.mono hn_56.le
                          replace hs_15 := hs_15.mono hn_56.le
                          replace hR := hR.mono hn_56.le
                          replace u_52 := u_52.mono hn_56.le
                          obtain ⟨rfl, u_59s⟩ := hr_57
                          refine r_val .none rfl (p_assign rfl) ?_
                          refine r_nil ?_
                          refine e_next ?_
                          refine c_ret ?_
                          refine e_ret1 Try.results55 (.tmp rfl .nil) (fun w hm => ⟨_, z_60, (hn_49.trans hn_56), hm.has, ⟨?_, ?_⟩, hm.keptG [A z_60] (.drop (.drop (.keep (fun _ _ h => h) (.nil)))) (A z_60) (fun F' h => starL_one h)⟩)
                          · rw [hcons, gm_neg hk2 (by omega)]
                          · rw [hcons, gm_neg hk2 (by omega)]; exact u_59s
                          )
                    )
              · skip
                have hk2 := h_47
                first
                  | (exfalso; omega)
                  | (
                    refine c_cond_f rfl ?_
                    refine c_seq ?_
                    refine c_region ?_
                    refine r_val .none rfl (p_move rfl) ?_
                    refine r_val .none rfl (p_field Try.underlying109 rfl sz81 rfl) ?_
                    refine r_val .none rfl (p_ld (k := 0) Try.underlying81 rfl rfl rfl (by first | exact of_decide_eq_true rfl | omega) rfl) ?_
                    refine r_val .none rfl (p_ldw (k := 1) Try.underlying137 rfl sz137 rfl rfl (rfl : _ = Value.agg #[_, _])) ?_
                    refine r_callm (vs := [_, _, _]) .none rfl cl70 rfl (fun w hw => c_found_s n ih _ _ _ _ fs (rs.getD 0 s0).1.subs m (by have q1 := s_subs (rs.getD 0 s0).1; have q2 := List.sizeOf_lt_of_mem (show (rs.getD 0 s0).1 ∈ l by rw [hcons]; simp); omega) ⟨hlen.1, by omega, by omega⟩ hok2.1.2 hf hc_13 hi hb w hw) (fun G_61 v_64 hn_62 hr_63 => ?_)
                    replace hf := hf.mono hn_62.le
                    replace hr := hr.mono hn_62.le
                    replace hpt := fun p hm0 => (hpt p hm0).mono hn_62.le
                    replace hps := fun p hm0 => (hps p hm0).mono hn_62.le
                    replace hi := hi.mono hn_62.le
                    replace hb := hb.mono hn_62.le
                    replace hS := hmono _ _ _ _ hS hn_62.le
                    replace R_9 := R_9.mono hn_62.le
                    replace ht_12 := ht_12.mono hn_62.le
                    replace hc_13 := hc_13.mono hn_62.le
                    replace hs_15 := hs_15.mono hn_62.le
                    replace hR := hR.mono hn_62.le
                    subst hr_63
                    refine r_nil ?_
                    refine e_next ?_
                    refine c_split (d := 30) rfl (fun h_66 => ?_) (fun h_66 => ?_)
                    · skip
                      have hW := h_66
                      skip
                      first
                        | (exfalso; omega)
                        | (
                          refine c_cond_t rfl ?_
                          refine c_seq ?_
                          refine c_region ?_
                          refine r_val .none rfl (p_assign rfl) ?_
                          refine r_nil ?_
                          refine e_next ?_
                          refine c_ret ?_
                          refine e_ret_block ?_
                          refine e_ret_then ?_
                          refine e_ret1 Try.results55 (.tmp rfl .nil) (fun w hm => ⟨_, z, hn_62, hm.has, ⟨?_, ?_⟩, hm.keptG [A z] (.drop (.drop (.keep (fun _ _ h => h) (.nil)))) (A z) (fun F' h => starL_one h)⟩)
                          · rw [hcons, gm_ncc_no hk1 hk2 (by simpa using hW)]; simp
                          · rw [hcons, gm_ncc_no hk1 hk2 (by simpa using hW), proc_nil, List.append_nil]; exact hS
                          )
                    · skip
                      have hW := h_66
                      skip
                      first
                        | (exfalso; omega)
                        | (
                          refine c_cond_f rfl ?_
                          refine c_skip ?_
                          refine e_norm_block ?_
                          refine e_next ?_
                          refine c_seq ?_
                          refine c_region ?_
                          refine r_val .none rfl (p_move rfl) ?_
                          refine r_val .none rfl (p_move rfl) ?_
                          refine r_val .none rfl (p_ldw (k := 1) Try.underlying137 rfl sz137 rfl rfl (rfl : _ = Value.agg #[_, _])) ?_
                          refine r_val .none rfl (p_move rfl) ?_
                          refine r_callox (k := 2) (vs := [_, _, _, _]) .none rfl cl55 rfl rfl (fun w F hw hA hFG => ih σ A bb Sg g cs hy _ _ _ _ fs ((rs.drop 1).map Prod.fst) m Ms z _ _ w (by have := drop_lt hl0; rw [← hl] at this; omega) ⟨hlen.1, by omega, by omega⟩ hok2.2 (fun hb9 => by have q2 := hlim hb9; rw [hcons, gm_ncc hk1 hk2 (by simpa using hW)] at q2; exact q2) hf hR hi hb hS hw hA hFG) (fun G_67 v_70 z_72 hn_68 hr_69 => ?_)
                          replace hf := hf.mono hn_68.le
                          replace hr := hr.mono hn_68.le
                          replace hpt := fun p hm0 => (hpt p hm0).mono hn_68.le
                          replace hps := fun p hm0 => (hps p hm0).mono hn_68.le
                          replace hi := hi.mono hn_68.le
                          replace hb := hb.mono hn_68.le
                          replace hS := hmono _ _ _ _ hS hn_68.le
                          replace R_9 := R_9.mono hn_68.le
                          replace ht_12 := ht_12.mono hn_68.le
                          replace hc_13 := hc_13.mono hn_68.le
                          replace hs_15 := hs_15.mono hn_68.le
                          replace hR := hR.mono hn_68.le
                          obtain ⟨rfl, u_71s⟩ := hr_69
                          refine r_val .none rfl (p_assign rfl) ?_
                          refine r_nil ?_
                          refine e_next ?_
                          refine c_ret ?_
                          refine e_ret1 Try.results55 (.tmp rfl .nil) (fun w hm => ⟨_, z_72, (hn_62.trans hn_68), hm.has, ⟨?_, ?_⟩, hm.keptG [A z_72] (.drop (.drop (.keep (fun _ _ h => h) (.nil)))) (A z_72) (fun F' h => starL_one h)⟩)
                          · rw [hcons, gm_ncc hk1 hk2 (by simpa using hW)]
                          · rw [hcons, gm_ncc hk1 hk2 (by simpa using hW)]; exact u_71s
                          )
                    )
              )
        )
theorem c_growP_n : ∀ n, GrowPIs n
 | 0 => fun σ A bb Sg g cs hy vf vl vi vb fs l m Ms z G F w hz _ _ _ _ _ _ _ _ _ _ _ => absurd hz (by cases l <;> simp)
 | n + 1 => fun σ A bb Sg g cs hy vf vl vi vb fs l m Ms z G F w hz hlen hok hlim hf hs hi hb hS hG hA hFG => c_growP_s n (c_growP_n n) A bb Sg g cs hy vf vl vi vb fs l m Ms z hz hlen hok hlim hf hs hi hb hS w hG hA hFG
end Go.Proofs.Ytpadfgomhojjnaa

/-
  GX: an assertion is brought to the front. Generic in the program.
-/
namespace Go.Gx
theorem Sep.front {w : World} : ∀ {L : List Asrt} {k : Nat} {A : Asrt} {U : Nat → Prop}, L[k]? = some A → Sep w L U → Sep w (A :: L.eraseIdx k) U
  | [], _, _, _, h, _ => by simp at h
  | B :: L, 0, A, U, h, hS => by
    simp at h; subst h; simpa using hS
  | B :: L, k + 1, A, U, h, ⟨F, hB, hF, hL⟩ => by
    simp at h
    obtain ⟨F2, hA, hF2, hR⟩ := Sep.front h hL
    refine ⟨F2, hA, fun b hb => (hF2 b hb).1, ?_⟩
    rw [List.eraseIdx_cons_succ]
    exact ⟨F, hB, fun b hb => ⟨hF b hb, fun h2 => (hF2 b h2).2 hb⟩, hR.mono (fun b _ hb => ⟨⟨hb.1.1, hb.2⟩, hb.1.2⟩)⟩
theorem Mem.front {X : Nat → Prop} {w0 w : World} {G : Ghost} {L : List Asrt} {k : Nat} {A : Asrt} (h : Mem X w0 G w L) (hL : L[k]? = some A) : Mem X w0 G w (A :: L.eraseIdx k) := ⟨h.since, h.has, h.sep.front hL⟩
section
variable {P : Program} {ops : Array Oper} {Q : Exit → Act → World → Prop} {N : Nat} {X : Nat → Prop} {w0 : World} {G : Ghost} {l : List (Nat × Value)} {L : List Asrt} {rest : List Oper} {k : Nat} {A : Asrt}
theorem r_front (hL : L[k]? = some A) (h : Runs P ops Q N X w0 G rest l (A :: L.eraseIdx k)) : Runs P ops Q N X w0 G rest l L := fun a w hS => h a w ⟨hS.fr, hS.mem.front hL⟩
end
end Go.Gx
namespace Go.Gx
open Go.RowKit
section
variable {P : Program} {N : Nat} {X : Nat → Prop} {w0 : World} {G : Ghost} {l : List (Nat × Value)} {L : List Asrt} {d : Nat} {ty : TypeId} {pos : String} {after : Array Edge} {gd : Option (Nat × Bool)} {x : Operand}
end
end Go.Gx
namespace Go.Gx
open Go.RowKit
section
variable {P : Program} {N : Nat} {X : Nat → Prop} {w0 : World} {G : Ghost} {l : List (Nat × Value)} {L : List Asrt} {d : Nat} {ty : TypeId} {pos : String} {after : Array Edge} {gd : Option (Nat × Bool)} {x : Operand}
/-- A field of a value that is one cell. -/
theorem p_field1 {S : TypeId} {fs : Array Field} {fld : Field} {e : TypeDesc} {j M o : Nat} {c : Array Value} {g : Nat → Value} {u : Value} (hS' : P.underlying S = some (.struct fs)) (hf : fs[j]? = some fld) (hT : P.underlying fld.type = some e) (ha : e.aggB = false) (hm : SzIs P fld.type 1)
    (hx : ev l x = some (.agg c)) (hc : IsRow c M g) (ho : fld.offset = o) (hM : o + 1 ≤ M) (hv : g o = u) : PV P N X w0 G l L ⟨some d, .field S x j, ty, pos, after, gd⟩ u := by
  intro a w hS
  subst ho
  have h1 := hc.get fld.offset (by omega)
  simp only [execOp, hS.fr.eval hx]
  simp [Instr.field, asAgg, run_underlying hS', hf, hm.run, part, run_isAgg hT, ha, h1, ← hv]
end
theorem sl_take {α : Type} {G : Ghost} {v : Value} {sz k : Nat} {cells : α → List Value} {d : α} {rs : List α} (hk : k ≤ rs.length) (h : SlG G v k sz (fun i => at_ (cells (rs.getD i d)))) : SlL G v sz cells d (rs.take k) := by
  unfold SlL
  rw [List.length_take, Nat.min_eq_left hk]
  refine h.congr fun i hi j _ => ?_
  simp [List.getD, List.getElem?_take, hi]
end Go.Gx

/- Walks: what Go functions of this chapter come to, each as a function on plain data; no condition but those that each theorem names. Printed by a program of this work (gen.py). -/
namespace Go.Proofs.Ytpadfgomhojjnaa
open Go.Gx Go.Gx.T13 Go.Gx.T8 Go.Gx.T4 Go.Gx.T3 Go.Gx.T14 Go.Gx.T13 Go.Gx.T8 Go.Gx.T6 Go.Gx.T4 Go.Gx.T3 Go.Gx.T3 Go.Gx.T4 Go.Gx.T3 Go.Gx.T6 Go.Gx.T8 Go.Gx.T4 Go.Gx.T3 Go.Gx.T8 Go.Gx.T4 Go.Gx.T3 Go.Gx.T8 Go.Gx.T6 Go.Gx.T4 Go.Gx.T3
theorem sz79 : SzIs Try.prog 79 1 := by
 unfold SzIs
 kernel_rfl
theorem zr79 : ZeroIs Try.prog 79 (Value.slice none 0 0) := by
 unfold ZeroIs
 kernel_rfl
theorem cl56 : Callable Try.prog 56 := callable Try.func56 (by kernel_rfl) rfl
theorem bl137_  : Program.built Try.prog 137 [] = some #[Value.slice none 0 0, Value.slice none 0 0] := by
 kernel_rfl
theorem bs22_10s3 (a0 : Option Addr) (a1 a2 : Nat) : Instr.fill (fun i => some (i * 1, 1)) ((Array.range (1 * 1)).map ((Value.slice none 0 0).cells[· % (Value.slice none 0 0).cells.size]!)) [(0, Value.slice a0 a1 a2)] = some #[Value.slice a0 a1 a2] := by
 kernel_rfl
theorem el22 : ElemIs Try.prog 22 1 24 (Value.slice none 0 0) := by
 unfold ElemIs
 kernel_rfl
theorem c_partcl (p : Nat) (m : MT) (vi vb : Value) (Ms : List MT) (z : List (List Int × Value)) {G : Ghost} {F : Nat → Prop} (hlz : Ms.length ≤ 5000) (hi : SlL G vi 1 cI 0 m.1) (hb : SlL G vb 3 triL z3 m.2) (hS : PaC G Ms z) (w : World) (hG : Has G w) (hA : (outA 79 22 p (z)).holds w F) (hFG : ∀ b, F b → G b = none) :
  Calls Try.prog 56 #[Value.agg #[vi, vb], Value.pointer (some ⟨p, 0, none⟩)] w (Ret fun r w' => ∃ G' z', GNew w F G G' ∧ Has G' w' ∧ (r = .bool true ∧ PaC G' (Ms ++ [m]) z') ∧ KeptG (outA 79 22 p (z')) F G' w w') := by
 refine enterO (args := [_, _]) (G := G) (A := outA 79 22 p (z)) (l := [(0, Value.agg #[vi, vb]), (1, Value.pointer (some ⟨p, 0, none⟩))]) Try.func56 rfl Try.ntmps56 hG hA hFG ⟨rfl, rfl, trivial⟩ (Nat.le_of_ble_eq_true rfl) ?_
 have hzl : z.length = Ms.length := by have h9 := congrArg List.length hS.1; simpa using h9
 refine c_unex (fun ov => ?_)
 refine c_unpack ?_
 refine c_row1 (k := 1) rfl (fun o1 => ?_)
 refine c_seq ?_
 refine c_region ?_
 refine r_box .none rfl rfl (IsRow.lit _) (fun b_1 => ?_)
 refine r_val .none rfl (p_assign rfl) ?_
 refine r_nil ?_
 refine e_next ?_
 refine c_seq ?_
 refine c_region ?_
 refine r_val .none rfl (p_ld (k := 1) Try.underlying79 rfl rfl rfl (by first | exact of_decide_eq_true rfl | omega) rfl) ?_
 refine r_val .none rfl (p_field Try.underlying137 rfl sz22 rfl) ?_
 refine r_val .none rfl (p_ld (k := 0) Try.underlying22 rfl rfl rfl (by first | exact of_decide_eq_true rfl | omega) rfl) ?_
 obtain ⟨a_1, c_2, rfl⟩ := SlG.len hi
 refine r_bslice (vs := [(0, Value.slice _ _ _)]) (c := #[_]) .none rfl Try.underlying79 el22 rfl rfl rfl (bs22_10s3 _ _ _) (IsRow.lit _) (fun b_2 => ?_)
 refine r_append (k := 3) (k2 := 0) .none rfl Try.underlying79 el22 rfl (by decide) rfl rfl rfl rfl rfl (one_lit rfl rfl) (by simp only [maxLen]; omega) (by omega) (fun v_3 => ?_)
 refine r_row1 (k := 3) rfl (fun o_4 => ?_)
 refine r_st (k := 2) .none sz79 rfl rfl o_4 rfl (by first | exact of_decide_eq_true rfl | omega) ?_
 refine r_nil ?_
 refine e_next ?_
 refine c_seq ?_
 refine c_region ?_
 refine r_val .none rfl (p_assign rfl) ?_
 refine r_nil ?_
 refine e_next ?_
 refine c_ret ?_
 refine e_ret1 Try.results56 (.tmp rfl .nil) (fun w hm => ⟨_, (z ++ [(m.1, (Value.slice a_1 m.1.length c_2))]), (GNew.refl _ _ _), hm.has, ⟨rfl, PaC.snoc hS hi⟩, hm.keptG [box p 1 79 (at_ [v_3]), rowA v_3 22 1 (z ++ [(m.1, (Value.slice a_1 m.1.length c_2))]).length ((z ++ [(m.1, (Value.slice a_1 m.1.length c_2))]).flatMap lC)] (.drop (.drop (.keep (fun _ _ h => box_congr (fun i hi => by match i, hi with | 0, _ => rfl) _ _ h) (.keep (fun _ _ h => rowA_snoc (l := z) (x := (m.1, (Value.slice a_1 m.1.length c_2))) rfl rfl rfl rfl _ _ h) (.nil))))) (outA _ _ p (z ++ [(m.1, (Value.slice a_1 m.1.length c_2))])) (fun F' h => ⟨_, h⟩)⟩)
theorem c_partOk (p : Nat) : YieldOk (fun z : List (List Int × Value) => outA 79 22 p (z)) true PaC 56 [Value.pointer (some ⟨p, 0, none⟩)] := by
 refine ⟨cl56, fun _ _ _ _ h hle => h.mono hle, ?_⟩
 intro m vi vb Ms z G F w hlim hi hb hS hG hA hFG
 exact c_partcl p m vi vb Ms z (hlim rfl) hi hb hS w hG hA hFG
theorem c_partial (vf vl : Value) (fs : List FD) (l : List ST) {G : Ghost} (hlen : fs.length ≤ 2000 ∧ sszL l ≤ 1000) (hok : okSL l) (hlim : (gm fs l ([], [])).length ≤ 5000) (hf : SlL G vf 4 fC f0 fs) (hs : Ss G vl l) (w : World) (hG : Has G w) :
  Calls Try.prog 34 #[vf, vl] w (Ret fun r w' => ∃ G', GNew w nX G G' ∧ Has G' w' ∧ LI G' r ((gm fs l ([], [])).map Prod.fst) ∧ Since nX w w') := by
 refine enter (args := [_, _]) (X := nX) (G := G) (l := [(0, vf), (1, vl)]) Try.func34 rfl Try.ntmps34 hG ⟨rfl, rfl, trivial⟩ (Nat.le_of_ble_eq_true rfl) ?_
 refine c_seq ?_
 refine c_region ?_
 refine r_val .none rfl (p_assign rfl) ?_
 refine r_nil ?_
 refine e_next ?_
 refine c_seq ?_
 refine c_region ?_
 refine r_alloc .none rfl zr79 (IsRow.lit [_]) (fun b_1 => ?_)
 refine r_nil ?_
 refine e_next ?_
 refine c_seq ?_
 refine c_region ?_
 refine r_front (k := 0) rfl ?_
 refine r_nilrow 22 1 ?_
 refine r_packout (rs := ([] : List (List Int × Value))) rfl rfl rfl ?_
 refine r_val .none rfl (p_move rfl) ?_
 refine r_val .none rfl (p_move rfl) ?_
 refine r_val .none rfl (p_build (vs := []) rfl (bl137_ )) ?_
 refine r_val .none rfl (p_mkfunc (vs := [_]) rfl) ?_
 refine r_callox (k := 0) (vs := [_, _, _, _]) .none rfl cl55 rfl rfl (fun w F hw hA hFG => c_growP_n _ _ _ true PaC _ _ (c_partOk _) _ _ _ _ fs l ([], []) [] [] G F w (Nat.le_refl _) ⟨hlen.1, by simp; omega, by simp; omega⟩ hok (fun _ => by simp; omega) hf hs (SlG.nil _ _ _) (SlG.nil _ _ _) ⟨rfl, by simp⟩ hw hA hFG) (fun G_1 v_4 z_6 hn_2 hr_3 => ?_)
 replace hf := hf.mono hn_2.le
 replace hs := hs.mono hn_2.le
 obtain ⟨rfl, u_5s⟩ := hr_3
 refine r_nil ?_
 refine e_next ?_
 refine c_seq ?_
 refine c_region ?_
 refine r_unpackout (fun ov => ?_)
 refine r_row1 (k := 1) rfl (fun o1 => ?_)
 refine r_val .none rfl (p_ld (k := 0) Try.underlying79 rfl rfl rfl (by first | exact of_decide_eq_true rfl | omega) rfl) ?_
 refine r_val .none rfl (p_assign rfl) ?_
 refine r_nil ?_
 refine e_next ?_
 refine c_ret ?_
 refine e_freeze (k := 1) rfl (fun G_7 hn_8 hs_9 => ?_)
 replace hf := hf.mono hn_8.le
 replace hs := hs.mono hn_8.le
 replace u_5s := PaC.mono u_5s hn_8.le
 refine e_ret1 Try.results34 (.tmp rfl .nil) (fun w hm => ⟨_, (hn_2.trans hn_8), hm.has, ?_, hm.since⟩)
 rw [show (gm fs l ([], [])).map Prod.fst = z_6.map Prod.fst from u_5s.1.symm]
 exact Ls.mk _ (SlL.of es14 (fun _ => rfl) rfl hs_9) u_5s.2
theorem c_same14 (v v2 : Value) (a b : List (List Int)) {G : Ghost} (ha : LI G v a) (hb : LI G v2 b) (w : World) (hG : Has G w) :
  Calls Try.prog 37 #[v, v2] w (Ret fun r w' => r = Value.bool (decide (a = b)) ∧ Since nX w w') := by
 refine enter (args := [_, _]) (X := nX) (G := G) (l := [(0, v), (1, v2)]) Try.func37 rfl Try.ntmps37 hG ⟨rfl, rfl, trivial⟩ (Nat.le_of_ble_eq_true rfl) ?_
 obtain ⟨qs, hq, hqp, hql⟩ := ha
 obtain ⟨qs2, hq2, hqp2, hql2⟩ := hb
 have hbd := hq.bound
 have hbd2 := hq2.bound
 refine c_seq ?_
 refine c_region ?_
 refine r_val .none rfl (p_assign rfl) ?_
 refine r_nil ?_
 refine e_next ?_
 refine c_seq ?_
 refine c_seq ?_
 refine c_region ?_
 refine r_val .none rfl (p_move rfl) ?_
 refine r_val .none rfl (p_leng Try.underlying79 rfl hq) ?_
 have bd_1 := (hq).bound
 refine r_val .none rfl (p_move rfl) ?_
 refine r_val .none rfl (p_leng Try.underlying79 rfl hq2) ?_
 have bd_2 := (hq2).bound
 refine r_val .none rfl (p_ne rfl rfl) ?_
 refine r_nil ?_
 refine e_next ?_
 refine c_splitd (d := 11) rfl (fun h_3 => ?_) (fun h_3 => ?_)
 ·
  first
   | (exfalso; omega)
   | (
    refine c_cond_t rfl ?_
    refine c_seq ?_
    refine c_region ?_
    refine r_val .none rfl (p_assign rfl) ?_
    refine r_nil ?_
    refine e_next ?_
    refine c_ret ?_
    refine e_ret_then ?_
    refine e_ret1 Try.results37 (.tmp rfl .nil) (fun w hm => ⟨?_, hm.since⟩)
    first
    | exact congrArg Value.bool (decide_eq_false (same_len hql hql2 (by omega))).symm
    | exact congrArg Value.bool (decide_eq_false (same_ne (k := k) hql hql2 (ne_of_get hE))).symm
    | exact congrArg Value.bool (decide_eq_false (same_ne (k := k) hql hql2 (ne_of_len (by omega)))).symm
    | exact congrArg Value.bool (decide_eq_true (same_end hql hql2 (by omega) hphi1.2.1 hphi1.2.2)).symm
    )
 ·
  first
   | (exfalso; omega)
   | (
    refine c_cond_f rfl ?_
    refine c_skip ?_
    refine e_next ?_
    refine c_seq ?_
    refine c_seq ?_
    refine c_region ?_
    refine r_val .none rfl (p_move rfl) ?_
    refine r_val .none rfl (p_leng Try.underlying79 rfl hq) ?_
    have bd_4 := (hq).bound
    refine r_val .none rfl (p_move rfl) ?_
    refine r_nil ?_
    refine e_next ?_
    refine c_block ?_
    refine c_name (d := 0) rfl (fun u_5 hu_5 => ?_)
    refine c_name (d := 1) rfl (fun u_6 hu_6 => ?_)
    refine c_name (d := 13) rfl (fun u_7 hu_7 => ?_)
    refine c_loop (σ := Nat) (fun k => [(14, Value.int .i64 (k : Nat)), (0, u_5), (1, u_6), (13, u_7)]) (fun k => []) (fun _ => _) (fun k => k ≤ qs.length ∧ qs.length = qs2.length ∧ (qs.map Prod.fst).take k = (qs2.map Prod.fst).take k) (fun k => qs.length - k) (0) ⟨Nat.zero_le _, by omega, rfl⟩ rfl ⟨rfl, rfl, rfl, rfl, trivial⟩ (.nil) (fun k hphi => ?_)
    subst hu_5
    subst hu_6
    subst hu_7
    have hphi1 := hphi
    refine c_seq ?_
    refine c_region ?_
    refine r_val .none rfl (p_lt rfl rfl) ?_
    refine r_nil ?_
    refine e_next ?_
    refine c_seq ?_
    refine c_splitd (d := 15) rfl (fun h_8 => ?_) (fun h_8 => ?_)
    ·
     first
      | (exfalso; omega)
      | (
       refine c_cond_t rfl ?_
       refine c_skip ?_
       refine e_next ?_
       refine c_seq ?_
       refine c_block ?_
       refine c_seq ?_
       refine c_region ?_
       refine r_val .none rfl (p_move rfl) ?_
       refine r_val .none rfl (p_assign rfl) ?_
       refine r_nil ?_
       refine e_next ?_
       refine c_seq ?_
       refine c_seq ?_
       refine c_region_q mixed (by kernel_rfl) ?_
       refine q_val .none rfl (p_move rfl) ?_
       refine q_val .none rfl (p_move rfl) ?_
       refine q_iaddr_g .none rfl Try.underlying79 sz22 rfl hq rfl (by first | exact of_decide_eq_true rfl | omega) (fun p_10 o_11 R_9 => ?_)
       have hq_12 := hqp _ (getD_mem (i := k) (d := es14) (by omega))
       refine q_val .none rfl (p_ldg0 Try.underlying22 rfl rfl R_9 (by first | exact of_decide_eq_true rfl | omega) rfl) ?_
       refine q_val .none rfl (p_leng Try.underlying22 rfl hq_12) ?_
       have bd_13 := (hq_12).bound
       refine q_val .none rfl (p_move rfl) ?_
       refine q_val .none rfl (p_move rfl) ?_
       refine q_iaddr_g .none rfl Try.underlying79 sz22 rfl hq2 rfl (by first | exact of_decide_eq_true rfl | omega) (fun p_15 o_16 R_14 => ?_)
       have hq_17 := hqp2 _ (getD_mem (i := k) (d := es14) (by omega))
       refine q_val .none rfl (p_ldg0 Try.underlying22 rfl rfl R_14 (by first | exact of_decide_eq_true rfl | omega) rfl) ?_
       refine q_val .none rfl (p_leng Try.underlying22 rfl hq_17) ?_
       have bd_18 := (hq_17).bound
       refine q_val .none rfl (p_ne rfl rfl) ?_
       refine q_nil ?_
       refine e_next ?_
       refine c_splitd (d := 27) rfl (fun h_19 => ?_) (fun h_19 => ?_)
       ·
        have hN := h_19
        first
         | (exfalso; omega)
         | (
          refine c_cond_t rfl ?_
          refine c_seq ?_
          refine c_region ?_
          refine r_val .none rfl (p_assign rfl) ?_
          refine r_nil ?_
          refine e_next ?_
          refine c_ret ?_
          refine e_ret_then ?_
          refine e_ret_block ?_
          refine e_ret_then ?_
          refine e_ret_then ?_
          refine e_ret_block ?_
          refine e_ret_then ?_
          refine e_ret1 Try.results37 (.tmp rfl .nil) (fun w hm => ⟨?_, hm.since⟩)
          first
          | exact congrArg Value.bool (decide_eq_false (same_len hql hql2 (by omega))).symm
          | exact congrArg Value.bool (decide_eq_false (same_ne (k := k) hql hql2 (ne_of_get hE))).symm
          | exact congrArg Value.bool (decide_eq_false (same_ne (k := k) hql hql2 (ne_of_len (by omega)))).symm
          | exact congrArg Value.bool (decide_eq_true (same_end hql hql2 (by omega) hphi1.2.1 hphi1.2.2)).symm
          )
       ·
        have hN := h_19
        first
         | (exfalso; omega)
         | (
          refine c_cond_f rfl ?_
          refine c_skip ?_
          refine e_next ?_
          refine c_seq ?_
          refine c_region ?_
          refine r_val .none rfl (p_move rfl) ?_
          refine r_val .none rfl (p_move rfl) ?_
          refine r_iaddr_g .none rfl Try.underlying79 sz22 rfl hq rfl (by first | exact of_decide_eq_true rfl | omega) (fun p_21 o_22 R_20 => ?_)
          have hq_23 := hqp _ (getD_mem (i := k) (d := es14) (by omega))
          refine r_val .none rfl (p_ldg0 Try.underlying22 rfl rfl R_20 (by first | exact of_decide_eq_true rfl | omega) rfl) ?_
          refine r_val .none rfl (p_leng Try.underlying22 rfl hq_23) ?_
          have bd_24 := (hq_23).bound
          refine r_val .none rfl (p_move rfl) ?_
          refine r_nil ?_
          refine e_next ?_
          refine c_block ?_
          refine c_name (d := 0) rfl (fun u_25 hu_25 => ?_)
          refine c_name (d := 1) rfl (fun u_26 hu_26 => ?_)
          refine c_name (d := 5) rfl (fun u_27 hu_27 => ?_)
          refine c_name (d := 13) rfl (fun u_28 hu_28 => ?_)
          refine c_name (d := 14) rfl (fun u_29 hu_29 => ?_)
          refine c_name (d := 15) rfl (fun u_30 hu_30 => ?_)
          refine c_name (d := 16) rfl (fun u_31 hu_31 => ?_)
          refine c_name (d := 17) rfl (fun u_32 hu_32 => ?_)
          refine c_name (d := 18) rfl (fun u_33 hu_33 => ?_)
          refine c_name (d := 19) rfl (fun u_34 hu_34 => ?_)
          refine c_name (d := 20) rfl (fun u_35 hu_35 => ?_)
          refine c_name (d := 21) rfl (fun u_36 hu_36 => ?_)
          refine c_name (d := 22) rfl (fun u_37 hu_37 => ?_)
          refine c_name (d := 23) rfl (fun u_38 hu_38 => ?_)
          refine c_name (d := 24) rfl (fun u_39 hu_39 => ?_)
          refine c_name (d := 25) rfl (fun u_40 hu_40 => ?_)
          refine c_name (d := 26) rfl (fun u_41 hu_41 => ?_)
          refine c_name (d := 27) rfl (fun u_42 hu_42 => ?_)
          refine c_name (d := 28) rfl (fun u_43 hu_43 => ?_)
          refine c_name (d := 29) rfl (fun u_44 hu_44 => ?_)
          refine c_name (d := 30) rfl (fun u_45 hu_45 => ?_)
          refine c_name (d := 31) rfl (fun u_46 hu_46 => ?_)
          refine c_name (d := 32) rfl (fun u_47 hu_47 => ?_)
          refine c_loop (σ := Nat) (fun j => [(33, Value.int .i64 (j : Nat)), (0, u_25), (1, u_26), (5, u_27), (13, u_28), (14, u_29), (15, u_30), (16, u_31), (17, u_32), (18, u_33), (19, u_34), (20, u_35), (21, u_36), (22, u_37), (23, u_38), (24, u_39), (25, u_40), (26, u_41), (27, u_42), (28, u_43), (29, u_44), (30, u_45), (31, u_46), (32, u_47)]) (fun j => []) (fun _ => _) (fun j => j ≤ (qs.getD k es14).1.length ∧ (qs.getD k es14).1.take j = (qs2.getD k es14).1.take j) (fun j => (qs.getD k es14).1.length - j) (0) ⟨Nat.zero_le _, rfl⟩ rfl ⟨rfl, rfl, rfl, rfl, rfl, rfl, rfl, rfl, rfl, rfl, rfl, rfl, rfl, rfl, rfl, rfl, rfl, rfl, rfl, rfl, rfl, rfl, rfl, rfl, trivial⟩ (.nil) (fun j hphi => ?_)
          subst hu_25
          subst hu_26
          subst hu_27
          subst hu_28
          subst hu_29
          subst hu_30
          subst hu_31
          subst hu_32
          subst hu_33
          subst hu_34
          subst hu_35
          subst hu_36
          subst hu_37
          subst hu_38
          subst hu_39
          subst hu_40
          subst hu_41
          subst hu_42
          subst hu_43
          subst hu_44
          subst hu_45
          subst hu_46
          subst hu_47
          refine c_seq ?_
          refine c_region ?_
          refine r_val .none rfl (p_lt rfl rfl) ?_
          refine r_nil ?_
          refine e_next ?_
          refine c_seq ?_
          refine c_splitd (d := 34) rfl (fun h_48 => ?_) (fun h_48 => ?_)
          ·
           first
            | (exfalso; omega)
            | (
             refine c_cond_t rfl ?_
             refine c_skip ?_
             refine e_next ?_
             refine c_seq ?_
             refine c_block ?_
             refine c_seq ?_
             refine c_region ?_
             refine r_val .none rfl (p_move rfl) ?_
             refine r_val .none rfl (p_assign rfl) ?_
             refine r_nil ?_
             refine e_next ?_
             refine c_seq ?_
             refine c_region_q mixed (by kernel_rfl) ?_
             refine q_val .none rfl (p_move rfl) ?_
             refine q_val .none rfl (p_move rfl) ?_
             refine q_iaddr_g .none rfl Try.underlying79 sz22 rfl hq rfl (by first | exact of_decide_eq_true rfl | omega) (fun p_50 o_51 R_49 => ?_)
             have hq_52 := hqp _ (getD_mem (i := k) (d := es14) (by omega))
             refine q_val .none rfl (p_ldg0 Try.underlying22 rfl rfl R_49 (by first | exact of_decide_eq_true rfl | omega) rfl) ?_
             refine q_val .none rfl (p_move rfl) ?_
             refine q_iaddr_g .none rfl Try.underlying22 sz3 rfl hq_52 rfl (by first | exact of_decide_eq_true rfl | omega) (fun p_54 o_55 R_53 => ?_)
             refine q_val .none rfl (p_ldg0 Try.underlying3 rfl rfl R_53 (by first | exact of_decide_eq_true rfl | omega) (rfl : _ = Value.int _ _)) ?_
             refine q_val .none rfl (p_move rfl) ?_
             refine q_val .none rfl (p_move rfl) ?_
             refine q_iaddr_g .none rfl Try.underlying79 sz22 rfl hq2 rfl (by first | exact of_decide_eq_true rfl | omega) (fun p_57 o_58 R_56 => ?_)
             have hq_59 := hqp2 _ (getD_mem (i := k) (d := es14) (by omega))
             refine q_val .none rfl (p_ldg0 Try.underlying22 rfl rfl R_56 (by first | exact of_decide_eq_true rfl | omega) rfl) ?_
             refine q_val .none rfl (p_move rfl) ?_
             refine q_iaddr_g .none rfl Try.underlying22 sz3 rfl hq_59 rfl (by first | exact of_decide_eq_true rfl | omega) (fun p_61 o_62 R_60 => ?_)
             refine q_val .none rfl (p_ldg0 Try.underlying3 rfl rfl R_60 (by first | exact of_decide_eq_true rfl | omega) (rfl : _ = Value.int _ _)) ?_
             refine q_val .none rfl (p_ne rfl rfl) ?_
             refine q_nil ?_
             refine e_next ?_
             refine c_splitd (d := 50) rfl (fun h_63 => ?_) (fun h_63 => ?_)
             ·
              have hE : (qs.getD k es14).1.getD j 0 ≠ (qs2.getD k es14).1.getD j 0 := h_63
              first
               | (exfalso; omega)
               | (
                refine c_cond_t rfl ?_
                refine c_seq ?_
                refine c_region ?_
                refine r_val .none rfl (p_assign rfl) ?_
                refine r_nil ?_
                refine e_next ?_
                refine c_ret ?_
                refine e_ret_block ?_
                refine e_ret_then ?_
                refine e_ret_then ?_
                refine e_ret_block ?_
                refine e_ret_block ?_
                refine e_ret_then ?_
                refine e_ret_then ?_
                refine e_ret_block ?_
                refine e_ret_then ?_
                refine e_ret1 Try.results37 (.tmp rfl .nil) (fun w hm => ⟨?_, hm.since⟩)
                first
                | exact congrArg Value.bool (decide_eq_false (same_len hql hql2 (by omega))).symm
                | exact congrArg Value.bool (decide_eq_false (same_ne (k := k) hql hql2 (ne_of_get hE))).symm
                | exact congrArg Value.bool (decide_eq_false (same_ne (k := k) hql hql2 (ne_of_len (by omega)))).symm
                | exact congrArg Value.bool (decide_eq_true (same_end hql hql2 (by omega) hphi1.2.1 hphi1.2.2)).symm
                )
             ·
              have hE : (qs.getD k es14).1.getD j 0 = (qs2.getD k es14).1.getD j 0 := Decidable.not_not.1 (h_63)
              first
               | (exfalso; omega)
               | (
                refine c_cond_f rfl ?_
                refine c_skip ?_
                refine e_norm_block ?_
                refine e_next ?_
                refine c_region ?_
                refine r_val .none rfl (p_add rfl rfl (by omega)) ?_
                refine r_val .none rfl (p_move rfl) ?_
                refine r_nil ?_
                refine e_round (j + 1) ⟨⟨by omega, take_eq_succ (d := 0) (by omega) (by omega) hphi.2 hE⟩, by omega⟩ rfl ⟨rfl, rfl, rfl, rfl, rfl, rfl, rfl, rfl, rfl, rfl, rfl, rfl, rfl, rfl, rfl, rfl, rfl, rfl, rfl, rfl, rfl, rfl, rfl, rfl, trivial⟩ (.nil)
                )
             )
          ·
           first
            | (exfalso; omega)
            | (
             refine c_cond_f rfl ?_
             refine c_exit ?_
             refine e_exit_then ?_
             refine e_exit_then ?_
             refine e_exit_block ?_
             refine e_norm_block ?_
             refine e_next ?_
             refine c_region ?_
             refine r_val .none rfl (p_add rfl rfl (by omega)) ?_
             refine r_val .none rfl (p_move rfl) ?_
             refine r_nil ?_
             refine e_round (k + 1) ⟨⟨by omega, hphi1.2.1, same_next (by omega) (by omega) hphi1.2.2 (ints_end (by omega) (by omega) hphi.2)⟩, by omega⟩ rfl ⟨rfl, rfl, rfl, rfl, trivial⟩ (.nil)
             )
          )
       )
    ·
     first
      | (exfalso; omega)
      | (
       refine c_cond_f rfl ?_
       refine c_exit ?_
       refine e_exit_then ?_
       refine e_exit_then ?_
       refine e_exit_block ?_
       refine e_next ?_
       refine c_seq ?_
       refine c_region ?_
       refine r_val .none rfl (p_assign rfl) ?_
       refine r_nil ?_
       refine e_next ?_
       refine c_ret ?_
       refine e_ret1 Try.results37 (.tmp rfl .nil) (fun w hm => ⟨?_, hm.since⟩)
       first
       | exact congrArg Value.bool (decide_eq_false (same_len hql hql2 (by omega))).symm
       | exact congrArg Value.bool (decide_eq_false (same_ne (k := k) hql hql2 (ne_of_get hE))).symm
       | exact congrArg Value.bool (decide_eq_false (same_ne (k := k) hql hql2 (ne_of_len (by omega)))).symm
       | exact congrArg Value.bool (decide_eq_true (same_end hql hql2 (by omega) hphi1.2.1 hphi1.2.2)).symm
       )
    )
end Go.Proofs.Ytpadfgomhojjnaa
