/- Plain laws of names and symbols; no program in sight. -/
import Derived.Test.YtjgdkahblhpinaaGxStr
namespace Go.Gx.T1
open Go.Gx

def okb (n : Nat) : Bool := decide ((97 ≤ n ∧ n ≤ 122) ∨ (65 ≤ n ∧ n ≤ 90) ∨ (48 ≤ n ∧ n ≤ 57) ∨ n = 45 ∨ n = 95)
def okTo (s : ByteArray) (k : Nat) : Prop := ∀ i, i < k → okb (byteAt s i) = true
theorem okTo_zero (s : ByteArray) : okTo s 0 := fun _ h => by omega
theorem okTo_succ {s : ByteArray} {k : Nat} (h : okTo s k) (hk : okb (byteAt s k) = true) : okTo s (k + 1) := fun i hi => by
  by_cases e : i = k
  · subst e; exact hk
  · exact h i (by omega)
instance (s : ByteArray) (k : Nat) : Decidable (okTo s k) := Nat.decidableBallLT k (fun i _ => okb (byteAt s i) = true)
def symRight (s : ByteArray) : Bool := decide ((1 ≤ s.size ∧ s.size ≤ 32) ∧ okTo s s.size)
theorem symRight_yes {s : ByteArray} (h : 1 ≤ s.size ∧ s.size ≤ 32) (h2 : okTo s s.size) : symRight s = true := decide_eq_true ⟨h, h2⟩
theorem symRight_size {s : ByteArray} (h : ¬ (1 ≤ s.size ∧ s.size ≤ 32)) : symRight s = false := decide_eq_false (fun h2 => h h2.1)
theorem symRight_bad {s : ByteArray} {k : Nat} (hk : k < s.size) (h : okb (byteAt s k) = false) : symRight s = false := decide_eq_false (fun h2 => by
  have := h2.2 k hk
  rw [h] at this; cases this)

/-- A rune of the set is its byte. -/
theorem decode_ok {s : ByteArray} {p : Nat} (h : okb (Utf8.decode s p).1 = true) : okb (byteAt s p) = true ∧ (Utf8.decode s p).2 = 1 := by
  have h1 : (Utf8.decode s p).1 < 128 := by simp [okb] at h; omega
  have h2 := (decode_small s p).1.1 h1
  have h3 := (decode_small s p).2 h2
  rw [h3] at h ⊢
  exact ⟨h, rfl⟩
theorem decode_bad {s : ByteArray} {p : Nat} (h : okb (Utf8.decode s p).1 = false) : okb (byteAt s p) = false := by
  by_cases h2 : byteAt s p < 128
  · have h3 := (decode_small s p).2 h2
    rw [h3] at h
    exact h
  · simp [okb]; omega

def sc (s : ByteArray) : List Value := [.string s]

/-- The place of s, from 1 on; 0: it isn't there. -/
def fnd : List ByteArray → ByteArray → Nat → Nat
  | [], _, _ => 0
  | x :: t, s, i => if x = s then i + 1 else fnd t s (i + 1)

def ix : List ByteArray → Nat → List (ByteArray × Int)
  | [], _ => []
  | x :: t, i => (x, ((i + 1 : Nat) : Int)) :: ix t (i + 1)

theorem lkp_ix (s : ByteArray) : ∀ (l : List ByteArray) (i : Nat), (lkp (ix l i) s).getD 0 = ((fnd l s i : Nat) : Int) ∧ (lkp (ix l i) s).isSome = decide (0 < fnd l s i)
  | [], _ => ⟨rfl, rfl⟩
  | x :: t, i => by
    simp only [ix, lkp, fnd]
    by_cases h : x = s
    · simp [h]
    · simp only [h, if_false]; exact lkp_ix s t (i + 1)

theorem ix_snoc (s : ByteArray) : ∀ (l : List ByteArray) (i : Nat), ix (l ++ [s]) i = ix l i ++ [(s, ((i + l.length + 1 : Nat) : Int))]
  | [], i => rfl
  | x :: t, i => by
    simp only [List.cons_append, ix, ix_snoc s t (i + 1), List.length_cons]
    congr 4
    omega

theorem ix_put {l : List ByteArray} {s : ByteArray} (h : fnd l s 0 = 0) : mput (ix l 0) s ((l.length + 1 : Nat) : Int) = ix (l ++ [s]) 0 := by
  have h1 := (lkp_ix s l 0).2
  rw [h] at h1
  have h2 : lkp (ix l 0) s = none := by simpa using h1
  rw [mput_none h2, ix_snoc]
  simp

theorem fnd_le (s : ByteArray) : ∀ (l : List ByteArray) (i : Nat), fnd l s i ≤ i + l.length ∧ (fnd l s i ≠ 0 → i < fnd l s i)
  | [], i => by simp [fnd]
  | x :: t, i => by
    simp only [fnd, List.length_cons]
    split
    · omega
    · have := fnd_le s t (i + 1)
      omega

/-- Find, round by round. -/
theorem fnd_drop {l : List ByteArray} {s e : ByteArray} {k : Nat} (h : k < l.length) : fnd (l.drop k) s k = if l.getD k e = s then k + 1 else fnd (l.drop (k + 1)) s (k + 1) := by
  have h1 : l.drop k = l.getD k e :: l.drop (k + 1) := by
    rw [List.drop_eq_getElem_cons h]; simp [List.getD, h]
  rw [h1, fnd]

/-- Intern: the list behind it, the symbol, the error. -/
def intern (l : List ByteArray) (s : ByteArray) : List ByteArray × Nat × Nat :=
  if symRight s = true then (if 0 < fnd l s 0 then (l, fnd l s 0, 0) else if 4096 ≤ l.length then (l, 0, 15) else (l ++ [s], l.length + 1, 0)) else (l, 0, 1)

theorem intern_1 {l : List ByteArray} {s : ByteArray} (h : symRight s = false) : intern l s = (l, 0, 1) := by unfold intern; rw [if_neg (by rw [h]; simp)]
theorem intern_2 {l : List ByteArray} {s : ByteArray} (h : symRight s = true) (h2 : 0 < fnd l s 0) : intern l s = (l, fnd l s 0, 0) := by unfold intern; rw [if_pos h, if_pos h2]
theorem intern_3 {l : List ByteArray} {s : ByteArray} (h : symRight s = true) (h2 : ¬ 0 < fnd l s 0) (h3 : 4096 ≤ l.length) : intern l s = (l, 0, 15) := by unfold intern; rw [if_pos h, if_neg h2, if_pos h3]
theorem intern_4 {l : List ByteArray} {s : ByteArray} (h : symRight s = true) (h2 : ¬ 0 < fnd l s 0) (h3 : l.length < 4096) : intern l s = (l ++ [s], l.length + 1, 0) := by unfold intern; rw [if_pos h, if_neg h2, if_neg (by omega)]

def nameAt (l : List ByteArray) (n : Int) : ByteArray := if 1 ≤ n ∧ n ≤ (l.length : Int) then l.getD (n - 1).toNat .empty else .empty
theorem nameAt_no {l : List ByteArray} {n : Int} (h : ¬ (1 ≤ n ∧ n ≤ (l.length : Int))) : nameAt l n = .empty := if_neg h
theorem nameAt_yes {l : List ByteArray} {i : Nat} (h : i < l.length) : nameAt l ((i : Int) + 1) = l.getD i .empty := by
  unfold nameAt
  rw [if_pos (by omega)]
  congr 1
  omega

theorem intern_len (l : List ByteArray) (s : ByteArray) : (intern l s).1.length ≤ l.length + 1 := by
  unfold intern; repeat' split
  all_goals simp
theorem nameAt_at {l : List ByteArray} {j : Nat} (h1 : 1 ≤ (j : Int) - 1) (h2 : (j : Int) - 1 ≤ l.length) : nameAt l ((j : Int) - 1) = l.getD (j - 2) .empty := by
  have := nameAt_yes (l := l) (i := j - 2) (by omega)
  rw [← this]
  congr 1
  omega

/-- What was interned and is remembered: symbol and name. -/
structure Had (h : List (Int × ByteArray)) (l : List ByteArray) : Prop where
  nodup : (h.map (·.1)).Nodup
  at_ : ∀ n s, lkp h n = some s ↔ (1 ≤ n ∧ n ≤ (l.length : Int)) ∧ l.getD (n - 1).toNat .empty = s
  len : h.length = l.length
  uniq : ∀ i, i < l.length → fnd l (l.getD i .empty) 0 = i + 1

theorem Had.nil : Had [] [] := ⟨by simp, fun n s => by simp [lkp]; omega, rfl, fun i h => by simp at h⟩

theorem fnd_snoc (s x : ByteArray) : ∀ (l : List ByteArray) (i : Nat), fnd (l ++ [x]) s i = if fnd l s i = 0 then (if x = s then i + l.length + 1 else 0) else fnd l s i
  | [], i => by simp [fnd]
  | y :: t, i => by
    simp only [List.cons_append, fnd]
    by_cases h : y = s
    · simp [h]
    · simp only [h, if_false, fnd_snoc s x t (i + 1), List.length_cons]
      congr 2
      omega

theorem fnd_getD {l : List ByteArray} {s : ByteArray} : ∀ {i : Nat}, fnd l s i ≠ 0 → l.getD (fnd l s i - i - 1) .empty = s := by
  induction l with
  | nil => intro i h; simp [fnd] at h
  | cons x t ih =>
    intro i h
    simp only [fnd] at h ⊢
    by_cases hx : x = s
    · simp [hx]
    · simp only [hx, if_false] at h ⊢
      have h1 := ih h
      have h2 := (fnd_le s t (i + 1)).2 h
      have e : fnd t s (i + 1) - i - 1 = (fnd t s (i + 1) - (i + 1) - 1) + 1 := by omega
      rw [e, List.getD_cons_succ]
      exact h1

/-- One more name. -/
theorem Had.new {h : List (Int × ByteArray)} {l : List ByteArray} {s : ByteArray} (H : Had h l) (hf : ¬ 0 < fnd l s 0) : lkp h ((l.length + 1 : Nat) : Int) = none ∧ Had (mput h ((l.length + 1 : Nat) : Int) s) (l ++ [s]) := by
  have hno : lkp h ((l.length + 1 : Nat) : Int) = none := by
    cases e : lkp h ((l.length + 1 : Nat) : Int) with
    | none => rfl
    | some u => have := (H.at_ _ _).1 e; omega
  refine ⟨hno, mput_nodup H.nodup _ _, fun n u => ?_, by rw [mput_none hno]; simp [H.len], fun i hi => ?_⟩
  · rw [lkp_mput]
    by_cases hn : ((l.length + 1 : Nat) : Int) = n
    · subst hn
      have e1 : (((l.length + 1 : Nat) : Int) - 1).toNat = l.length := by omega
      rw [if_pos rfl, e1]
      simp [List.getD]
      omega
    · rw [if_neg hn, H.at_]
      have key : (1 ≤ n ∧ n ≤ (l.length : Int)) → (l ++ [s]).getD (n - 1).toNat .empty = l.getD (n - 1).toNat .empty := fun h1 => by
        simp only [List.getD]
        rw [List.getElem?_append_left (by omega)]
      constructor
      · rintro ⟨h1, h2⟩
        exact ⟨⟨h1.1, by simp; omega⟩, by rw [key h1]; exact h2⟩
      · rintro ⟨h1, h2⟩
        have h3 : 1 ≤ n ∧ n ≤ (l.length : Int) := ⟨h1.1, by have := h1.2; simp at this; omega⟩
        exact ⟨h3, by rw [← key h3]; exact h2⟩
  · rw [fnd_snoc]
    simp at hi
    by_cases hl : i < l.length
    · have e1 : (l ++ [s]).getD i .empty = l.getD i .empty := by
        simp only [List.getD]; rw [List.getElem?_append_left hl]
      rw [e1, H.uniq i hl, if_neg (by omega)]
    · have e1 : i = l.length := by omega
      subst e1
      have e2 : (l ++ [s]).getD l.length .empty = s := by simp [List.getD]
      rw [e2, if_pos (by omega), if_pos rfl]; omega

/-- A name that is there. -/
theorem Had.old {h : List (Int × ByteArray)} {l : List ByteArray} {s : ByteArray} (H : Had h l) (hf : 0 < fnd l s 0) : lkp h ((fnd l s 0 : Nat) : Int) = some s ∧ mput h ((fnd l s 0 : Nat) : Int) s = h := by
  have h1 := fnd_le s l 0
  have h2 : lkp h ((fnd l s 0 : Nat) : Int) = some s := by
    rw [H.at_]
    refine ⟨⟨by omega, by omega⟩, ?_⟩
    have := fnd_getD (l := l) (s := s) (i := 0) (by omega)
    have e : (((fnd l s 0 : Nat) : Int) - 1).toNat = fnd l s 0 - 0 - 1 := by omega
    rw [e]; exact this
  exact ⟨h2, mput_same h2⟩

/-- What is remembered is found by both ways. -/
theorem Had.says {h : List (Int × ByteArray)} {l : List ByteArray} (H : Had h l) {p : Int × ByteArray} (hp : p ∈ h) : ((fnd l p.2 0 : Nat) : Int) = p.1 ∧ (1 ≤ p.1 ∧ p.1 ≤ (l.length : Int)) ∧ nameAt l p.1 = p.2 := by
  have h1 := (H.at_ p.1 p.2).1 (lkp_mem H.nodup hp)
  obtain ⟨h2, h3⟩ := h1
  have h4 := H.uniq (p.1 - 1).toNat (by omega)
  rw [h3] at h4
  refine ⟨by omega, h2, ?_⟩
  unfold nameAt
  rw [if_pos h2, h3]

theorem intern_err {l : List ByteArray} {s : ByteArray} (h : ¬ (((intern l s).2.2 : Nat) : Int) = 0) : (intern l s).1 = l := by
  unfold intern at h ⊢
  repeat' split
  all_goals first | rfl | (exfalso; simp_all; done)
theorem Had.step {h : List (Int × ByteArray)} {l : List ByteArray} {s : ByteArray} (H : Had h l) (he : (((intern l s).2.2 : Nat) : Int) = 0) :
    Had (mput h (((intern l s).2.1 : Nat) : Int) s) (intern l s).1 ∧ ∀ x, lkp h (((intern l s).2.1 : Nat) : Int) = some x → x = s := by
  by_cases h1 : symRight s = true
  · by_cases h2 : 0 < fnd l s 0
    · rw [intern_2 h1 h2]
      obtain ⟨h3, h4⟩ := H.old h2
      simp only [h4]
      exact ⟨H, fun x hx => by rw [h3] at hx; cases hx; rfl⟩
    · by_cases h3 : 4096 ≤ l.length
      · rw [intern_3 h1 h2 h3] at he; simp at he
      · rw [intern_4 h1 h2 (by omega)]
        obtain ⟨h4, h5⟩ := H.new h2
        exact ⟨h5, fun x hx => by simp only at hx; rw [h4] at hx; cases hx⟩
  · rw [intern_1 (by simpa using h1)] at he; simp at he

end Go.Gx.T1
