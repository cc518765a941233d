/- Plain laws of chains: their sizes, where they stand; no program in sight. -/
import Derived.Test.YtoflaphnlfggkaaPl06b
namespace Go.Gx.T6
open Go.Gx Go.Gx.T3 Go.Gx.T4 Go.Gx.T8

theorem sizeL_append (a b : List CT) : sizeL (a ++ b) = sizeL a + sizeL b := by
  induction a with
  | nil => simp [sizeL]
  | cons c t ih => simp only [List.cons_append, sizeL, ih]; omega
mutual
theorem chain1_size : ∀ (c : CT) (ah : List CT), ∀ x ∈ chain1 ah c, sizeL x ≤ sizeL ah + size c
  | .mk h l, ah, x, hx => by
    rw [chain1] at hx
    rcases List.mem_append.1 hx with hx | hx
    · split at hx
      · have := chains_size l ah x hx
        rw [size]; omega
      · cases hx
    · rw [List.mem_singleton.1 hx, sizeL_append]
      simp [sizeL]
theorem chains_size : ∀ (l : List CT) (ah : List CT), ∀ x ∈ chains ah l, sizeL x ≤ sizeL ah + sizeL l
  | [], _, x, hx => by rw [chains] at hx; cases hx
  | c :: t, ah, x, hx => by
    rw [chains] at hx
    rcases List.mem_append.1 hx with hx | hx
    · have := chain1_size c ah x hx
      rw [sizeL]; omega
    · have := chains_size t (ah ++ [c]) x hx
      rw [sizeL_append] at this
      simp only [sizeL] at this ⊢
      omega
end
mutual
/-- Only Ncc have conditions in them. -/
def flatOk : CT → Bool
  | .mk h l => (decide (h.k = 3) || l.isEmpty) && flatOkL l
def flatOkL : List CT → Bool
  | [] => true
  | c :: t => flatOk c && flatOkL t
end
mutual
theorem flat_of_check : ∀ (c : CT) (d : Int), check c d = 0 → flatOk c = true
  | .mk h l, d, hc => by
    rw [check] at hc
    rw [flatOk]
    split at hc
    · omega
    · split at hc
      · rename_i h3
        split at hc
        · omega
        · split at hc
          · omega
          · rw [flat_of_checkL l _ hc, decide_eq_true h3]; rfl
      · split at hc
        · omega
        · split at hc
          · omega
          · rename_i _ _ h4
            have : l = [] := by
              rcases l with _ | ⟨a, b⟩
              · rfl
              · exact absurd (.inr (by simp)) h4
            subst this
            simp [flatOkL]
theorem flat_of_checkL : ∀ (l : List CT) (d : Int), checkL l d = 0 → flatOkL l = true
  | [], _, _ => by rw [flatOkL]
  | c :: t, d, hc => by
    rw [checkL] at hc
    split at hc
    · rename_i h
      rw [flatOkL, flat_of_check c d h, flat_of_checkL t d hc]; rfl
    · rename_i h; exact absurd hc h
end
theorem flat_all_of {l : List CT} (h : ∀ c ∈ l, check c 1 = 0) : flatOkL l = true := by
  induction l with
  | nil => rw [flatOkL]
  | cons c t ih => rw [flatOkL, flat_of_check c 1 (h c (by simp)), ih (fun x hx => h x (by simp [hx]))]; rfl
mutual
theorem chain1_eq : ∀ (c : CT) (ah : List CT), flatOk c = true → (chain1 ah c).length = size c
  | .mk h l, ah, hc => by
    rw [flatOk, Bool.and_eq_true] at hc
    rw [chain1, size]
    split
    · rw [List.length_append, chains_eq l ah hc.2]; simp; omega
    · rename_i h3
      have : l = [] := by
        have h4 := hc.1
        rw [decide_eq_false h3, Bool.false_or] at h4
        simpa using h4
      subst this
      simp [sizeL]
theorem chains_eq : ∀ (l : List CT) (ah : List CT), flatOkL l = true → (chains ah l).length = sizeL l
  | [], _, _ => by simp [chains, sizeL]
  | c :: t, ah, h => by
    rw [flatOkL, Bool.and_eq_true] at h
    rw [chains, List.length_append, chain1_eq c ah h.1, chains_eq t _ h.2, sizeL]
end
theorem flatOkL_take : ∀ {l : List CT} (k : Nat), flatOkL l = true → flatOkL (l.take k) = true
  | [], k, h => by simpa using h
  | c :: t, 0, _ => by simp [flatOkL]
  | c :: t, k + 1, h => by
    rw [flatOkL, Bool.and_eq_true] at h
    rw [List.take_succ_cons, flatOkL, h.1, flatOkL_take k h.2]; rfl
theorem take_succ {l : List CT} {k : Nat} (hk : k < l.length) : ∃ c, c ∈ l ∧ l.take (k + 1) = l.take k ++ [c] := ⟨l[k], List.getElem_mem hk, List.take_succ_eq_append_getElem hk⟩
/-- The chain that ends at the condition at k. -/
theorem chains_at {l : List CT} {k : Nat} (h : flatOkL l = true) (hk : k < l.length) : (chains [] l).getD (sizeL (l.take (k + 1)) - 1) [] = l.take (k + 1) ∧ sizeL (l.take (k + 1)) - 1 < (chains [] l).length ∧ 1 ≤ sizeL (l.take (k + 1)) := by
  obtain ⟨c, hc, e⟩ := take_succ hk
  have h1 : chains [] l = chains [] (l.take (k + 1)) ++ chains ([] ++ l.take (k + 1)) (l.drop (k + 1)) := by rw [← chains_append, List.take_append_drop]
  have h2 : chains [] (l.take (k + 1)) = chains [] (l.take k) ++ chain1 ([] ++ l.take k) c := by
    rw [e, chains_append]; simp [chains]
  have h3 : ∃ p, chain1 ([] ++ l.take k) c = p ++ [l.take (k + 1)] := by
    cases c with
    | mk hd sb => exact ⟨if hd.k = 3 then chains (l.take k) sb else [], by rw [chain1, e]; simp⟩
  obtain ⟨p, h3⟩ := h3
  have hlen : (chains [] (l.take (k + 1))).length = sizeL (l.take (k + 1)) := chains_eq _ _ (flatOkL_take _ h)
  have hq : chains [] (l.take (k + 1)) = (chains [] (l.take k) ++ p) ++ [l.take (k + 1)] := by rw [h2, h3, List.append_assoc]
  have hl2 : (chains [] (l.take k) ++ p).length = sizeL (l.take (k + 1)) - 1 := by
    have := congrArg List.length hq
    rw [hlen, List.length_append] at this
    simp at this ⊢
    omega
  refine ⟨?_, ?_, ?_⟩
  · rw [h1, hq, ← hl2]
    simp [List.getD]
  · rw [h1, List.length_append, hq, List.length_append, hl2]; simp; omega
  · have := congrArg List.length hq
    rw [hlen, List.length_append] at this
    simp at this
    omega
theorem own_at {l : List CT} {k : Nat} (hk : k < l.length) (h1 : 1 ≤ sizeL (l.take (k + 1))) : (ownC l).getD k 0 = ((sizeL (l.take (k + 1)) - 1 : Nat) : Int) := by
  unfold ownC
  simp [List.getD, hk]
  omega
theorem ownC_len (l : List CT) : (ownC l).length = l.length := by simp [ownC]

/-! ### each but its last condition stands ahead -/
def Ahead (ah : List CT) (cs : List (List CT)) : Prop := ∀ i (hi : i < cs.length), cs[i] ≠ [] ∧ (cs[i].dropLast = ah ∨ ∃ j, ∃ (hj : j < i), cs[j]'(by omega) = cs[i].dropLast)
theorem Ahead.snoc {ah : List CT} {cs : List (List CT)} {c : CT} (h : Ahead ah cs) : Ahead ah (cs ++ [ah ++ [c]]) := by
  intro i hi
  by_cases hlt : i < cs.length
  · have h1 := h i hlt
    rw [List.getElem_append_left hlt]
    refine ⟨h1.1, h1.2.imp id ?_⟩
    rintro ⟨j, hj, e⟩
    exact ⟨j, hj, by rw [List.getElem_append_left (by omega)]; exact e⟩
  · have e : i = cs.length := by simp at hi; omega
    subst e
    simp
theorem Ahead.app {ah : List CT} {cs ds : List (List CT)} {c : CT} (h : Ahead ah (cs ++ [ah ++ [c]])) (h2 : Ahead (ah ++ [c]) ds) : Ahead ah ((cs ++ [ah ++ [c]]) ++ ds) := by
  intro i hi
  by_cases hlt : i < (cs ++ [ah ++ [c]]).length
  · have h1 := h i hlt
    rw [List.getElem_append_left hlt]
    refine ⟨h1.1, h1.2.imp id ?_⟩
    rintro ⟨j, hj, e⟩
    exact ⟨j, hj, by rw [List.getElem_append_left (by omega)]; exact e⟩
  · have hge : (cs ++ [ah ++ [c]]).length ≤ i := by omega
    have h1 := h2 (i - (cs ++ [ah ++ [c]]).length) (by simp at hi hge ⊢; omega)
    rw [List.getElem_append_right hge]
    refine ⟨h1.1, .inr ?_⟩
    rcases h1.2 with e | ⟨j, hj, e⟩
    · refine ⟨cs.length, by simp at hge; omega, ?_⟩
      rw [e]
      rw [List.getElem_append_left (by simp)]
      simp
    · refine ⟨j + (cs ++ [ah ++ [c]]).length, by omega, ?_⟩
      rw [← e, List.getElem_append_right (by omega)]
      congr 1
      omega
mutual
theorem chain1_ahead : ∀ (c : CT) (ah : List CT), ∃ cs, chain1 ah c = cs ++ [ah ++ [c]] ∧ Ahead ah (cs ++ [ah ++ [c]])
  | .mk h l, ah => by
    refine ⟨if h.k = 3 then chains ah l else [], by rw [chain1], Ahead.snoc ?_⟩
    split
    · exact chains_ahead l ah
    · intro i hi; simp at hi
theorem chains_ahead : ∀ (l : List CT) (ah : List CT), Ahead ah (chains ah l)
  | [], _ => by rw [chains]; intro i hi; simp at hi
  | c :: t, ah => by
    obtain ⟨cs, e, h⟩ := chain1_ahead c ah
    rw [chains, e]
    exact Ahead.app h (chains_ahead t (ah ++ [c]))
end
/-- Is a chain the beginning of another? -/
def hadPre (qs : List (List CT)) (x : List CT) (i : Nat) : Bool := decide (x.length = 1) || (qs.take i).any fun y => ceqL y x.dropLast
theorem had_pre {l : List CT} {i : Nat} (hi : i < (chains [] l).length) : (chains [] l).getD i [] ≠ [] ∧ hadPre (chains [] l) ((chains [] l).getD i []) i = true := by
  have h := chains_ahead l [] i hi
  have e : (chains [] l).getD i [] = (chains [] l)[i] := by simp [List.getD, hi]
  rw [e]
  refine ⟨h.1, ?_⟩
  unfold hadPre
  rw [Bool.or_eq_true]
  rcases h.2 with h2 | ⟨j, hj, h2⟩
  · left
    have h3 : (chains [] l)[i].length ≠ 0 := fun hx => h.1 (List.eq_nil_of_length_eq_zero hx)
    have h4 := congrArg List.length h2
    simp at h4
    simp; omega
  · right
    refine List.any_eq_true.2 ⟨(chains [] l)[j], List.mem_iff_getElem.2 ⟨j, by simp; omega, by simp⟩, (ceqL_iff _ _).2 h2⟩
def foundTo (qs : List (List CT)) (x : List CT) (j : Nat) : Bool := decide (x.length = 1) || (qs.take j).any fun y => ceqL y x.dropLast
theorem foundTo_succ {qs : List (List CT)} {x : List CT} {j : Nat} (hj : j < qs.length) : foundTo qs x (j + 1) = (foundTo qs x j || ceqL (qs.getD j []) x.dropLast) := by
  unfold foundTo
  have e : qs.getD j [] = qs[j] := by simp [List.getD, hj]
  rw [List.take_succ_eq_append_getElem hj, e]
  simp only [List.any_append, List.any_cons, List.any_nil, Bool.or_false, Bool.or_assoc]
end Go.Gx.T6
namespace Go.Gx.T6
open Go.Gx Go.Gx.T3 Go.Gx.T4 Go.Gx.T8
abbrev e6 : List CT × Value := ([], .slice none 0 0)
theorem chain_get {cs : List (List CT)} {qs : List (List CT × Value)} {k : Nat} (hl : cs = qs.map Prod.fst) : cs.getD k [] = (qs.getD k e6).1 := by
  rw [hl, mapfst_getD]
theorem chain_small {l : List CT} {qs : List (List CT × Value)} {k : Nat} (hl : chains [] l = qs.map Prod.fst) (hk : k < qs.length) (hsz : sizeL l ≤ 1000) : sizeL (qs.getD k e6).1 ≤ 1000 := by
  have h1 : (qs.getD k e6).1 ∈ chains [] l := by rw [hl]; exact List.mem_map.2 ⟨_, getD_mem hk, rfl⟩
  have := chains_size l [] _ h1
  simp only [sizeL] at this
  omega
theorem chain_same {cs : List (List CT)} {qs ps : List (List CT × Value)} {k : Nat} (h1 : cs = qs.map Prod.fst) (h2 : cs = ps.map Prod.fst) : ceqL (qs.getD k e6).1 (ps.getD k e6).1 = true := by
  rw [← chain_get h1, ← chain_get h2]
  exact (ceqL_iff _ _).2 rfl
theorem sizeL_takeA : ∀ (l : List CT) (k : Nat), sizeL (l.take k) ≤ sizeL l := sizeL_take_le
end Go.Gx.T6
namespace Go.Gx.T6
open Go.Gx Go.Gx.T3 Go.Gx.T4 Go.Gx.T8
theorem own_last {l : List CT} (h : 1 ≤ l.length) : (ownC l).getD (l.length - 1) 0 = (sizeL l : Int) - 1 := by
  unfold ownC
  have h1 : l.length - 1 < l.length := by omega
  simp [List.getD, h1]
  rw [show l.length - 1 + 1 = l.length by omega, List.take_length]
end Go.Gx.T6
