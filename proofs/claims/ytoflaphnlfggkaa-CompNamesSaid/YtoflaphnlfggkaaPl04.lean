/- Plain laws of conditions: trees; what is wrong with one; no program in sight. -/
import Derived.Test.YtoflaphnlfggkaaGxTree
import Derived.Test.YtoflaphnlfggkaaPl03
namespace Go.Gx.T4
open Go.Gx Go.Gx.T3

/-- A condition but for what stands below it. -/
structure Hd where
  k : Int
  v0 : Bool
  n0 : Int
  v1 : Bool
  n1 : Int
  v2 : Bool
  n2 : Int
inductive CT where
  | mk (h : Hd) (subs : List CT)
namespace CT
def h : CT → Hd | .mk h _ => h
def subs : CT → List CT | .mk _ l => l
end CT
theorem CT.eta (c : CT) : CT.mk c.h c.subs = c := by cases c; rfl
abbrev h0 : Hd := ⟨0, false, 0, false, 0, false, 0⟩
abbrev d0 : CT × Value := (.mk h0 [], .slice none 0 0)
/-- The cells of a condition: the program's own, and the document's. -/
def cvC (p : CT × Value) : List Value := [.int .i64 p.1.h.k, .bool p.1.h.v0, .int .i64 p.1.h.n0, .bool p.1.h.v1, .int .i64 p.1.h.n1, .bool p.1.h.v2, .int .i64 p.1.h.n2, p.2]
def rvC (p : CT × Value) : List Value := [.int .i64 p.1.h.k, .int .i64 (vi p.1.h.v0), .int .i64 p.1.h.n0, .int .i64 (vi p.1.h.v1), .int .i64 p.1.h.n1, .int .i64 (vi p.1.h.v2), .int .i64 p.1.h.n2, p.2]
abbrev Cs (G : Ghost) (v : Value) (l : List CT) : Prop := Tr CT.subs cvC 8 d0 G v l
abbrev Rs (G : Ghost) (v : Value) (l : List CT) : Prop := Tr CT.subs rvC 8 d0 G v l

theorem size_subs (c : CT) : SizeOf.sizeOf c.subs < SizeOf.sizeOf c := by
  cases c with
  | mk h l => simp [CT.subs]; omega
theorem size_mem {c x : CT} (h : x ∈ c.subs) : SizeOf.sizeOf x < SizeOf.sizeOf c := by
  have := List.sizeOf_lt_of_mem h
  have := size_subs c
  omega
/-- .. of those in a slice. -/
theorem size_at {c : CT} {rs : List (CT × Value)} {i n : Nat} (h : c.subs = rs.map Prod.fst) (hi : i < rs.length) (hn : SizeOf.sizeOf c ≤ n + 1) : SizeOf.sizeOf (rs.getD i d0).1 ≤ n := by
  have h1 : (rs.getD i d0).1 ∈ c.subs := by rw [h]; exact List.mem_map.2 ⟨_, getD_mem hi, rfl⟩
  have := size_mem h1
  omega

/-! ### what is wrong -/
def headOk (h : Hd) : Bool := termRight h.v0 h.n0 && (termRight h.v1 h.n1 && termRight h.v2 h.n2)
def headNone (h : Hd) : Bool := !h.v0 && decide (h.n0 = 0) && (!h.v1 && decide (h.n1 = 0)) && (!h.v2 && decide (h.n2 = 0))
theorem headNone_cs (h : Hd) : csEq [.bool h.v0, .int .i64 h.n0, .bool h.v1, .int .i64 h.n1, .bool h.v2, .int .i64 h.n2] [.bool false, .int .i64 0, .bool false, .int .i64 0, .bool false, .int .i64 0] = headNone h := by
  unfold headNone
  cases h.v0 <;> cases h.v1 <;> cases h.v2 <;> simp [csEq, cEq, Bool.and_assoc]
theorem headNone_no {h : Hd} (e : ¬ (vi h.v0 = 0 ∧ h.n0 = 0 ∧ vi h.v1 = 0 ∧ h.n1 = 0 ∧ vi h.v2 = 0 ∧ h.n2 = 0)) : headNone h = false := by
  unfold headNone
  rw [← Bool.not_eq_true]
  intro hx
  simp only [Bool.and_eq_true, Bool.not_eq_true', decide_eq_true_eq] at hx
  obtain ⟨⟨⟨a0, b0⟩, a1, b1⟩, a2, b2⟩ := hx
  exact e ⟨by simp [vi, a0], b0, by simp [vi, a1], b1, by simp [vi, a2], b2⟩
theorem headNone_yes {h : Hd} (e : vi h.v0 = 0 ∧ h.n0 = 0 ∧ vi h.v1 = 0 ∧ h.n1 = 0 ∧ vi h.v2 = 0 ∧ h.n2 = 0) : ¬ headNone h = false := by
  unfold headNone
  cases h0 : h.v0 <;> cases h1 : h.v1 <;> cases h2 : h.v2 <;> simp_all [vi]
mutual
def check : CT → Int → Int
  | .mk h l, d => if 3 < max d 1 then 5 else if h.k = 3 then (if headNone h = false then 4 else if l.length = 0 then 2 else checkL l (max d 1 + 1)) else if h.k ≠ 1 ∧ h.k ≠ 2 then 3 else if headOk h = false ∨ 0 < l.length then 4 else 0
def checkL : List CT → Int → Int
  | [], _ => 0
  | c :: t, d => if check c d = 0 then checkL t d else check c d
end
theorem check_eq (c : CT) (d : Int) : check c d = if 3 < max d 1 then 5 else if c.h.k = 3 then (if headNone c.h = false then 4 else if c.subs.length = 0 then 2 else checkL c.subs (max d 1 + 1)) else if c.h.k ≠ 1 ∧ c.h.k ≠ 2 then 3 else if headOk c.h = false ∨ 0 < c.subs.length then 4 else 0 := by
  cases c; rw [check]; rfl
theorem check_max (c : CT) (d : Int) : check c (max d 1) = check c d := by
  rw [check_eq c (max d 1), check_eq c d, show max (max d 1) 1 = max d 1 by omega]
theorem checkL_ok {c : CT} {t : List CT} {d : Int} (h : check c d = 0) : checkL (c :: t) d = checkL t d := by rw [checkL, if_pos h]
theorem checkL_no {c : CT} {t : List CT} {d : Int} (h : check c d ≠ 0) : checkL (c :: t) d = check c d := by rw [checkL, if_neg h]

mutual
theorem check_up : ∀ (c : CT) (d : Int), 1 ≤ d → check c (d + 1) = 0 → check c d = 0
  | .mk h l, d, hd, hc => by
    have h1 : max d 1 = d := by omega
    have h2 : max (d + 1) 1 = d + 1 := by omega
    rw [check, h1]
    rw [check, h2] at hc
    by_cases c1 : 3 < d + 1
    · rw [if_pos c1] at hc; omega
    rw [if_neg c1] at hc
    rw [if_neg (by omega)]
    by_cases c2 : h.k = 3
    · rw [if_pos c2] at hc ⊢
      by_cases c3 : headNone h = false
      · rw [if_pos c3] at hc; omega
      rw [if_neg c3] at hc ⊢
      by_cases c4 : l.length = 0
      · rw [if_pos c4] at hc; omega
      rw [if_neg c4] at hc ⊢
      exact checkL_up l (d + 1) (by omega) hc
    · rw [if_neg c2] at hc ⊢; exact hc
theorem checkL_up : ∀ (l : List CT) (d : Int), 1 ≤ d → checkL l (d + 1) = 0 → checkL l d = 0
  | [], _, _, _ => by rw [checkL]
  | c :: t, d, hd, hc => by
    rw [checkL] at hc ⊢
    by_cases c1 : check c (d + 1) = 0
    · rw [if_pos c1] at hc
      rw [if_pos (check_up c d hd c1)]
      exact checkL_up t d hd hc
    · rw [if_neg c1] at hc; exact absurd hc c1
end
theorem check_deep (c : CT) {d : Int} (hd : 3 < d) : check c d ≠ 0 := by
  rw [check_eq, if_pos (by omega)]; decide

/-- Whether it was right at the depth ahead. -/
def rgt (c : CT) (s : Nat) : Bool := decide (s = 1 ∨ check c ((s : Int) - 1) = 0)
theorem rgt_one (c : CT) : rgt c 1 = true := by simp [rgt]
theorem rgt_next (c : CT) {s : Nat} (h : 1 ≤ s) : rgt c (s + 1) = decide (check c (s : Int) = 0) := by
  unfold rgt
  rw [show (((s + 1 : Nat) : Int) - 1) = (s : Int) by omega]
  simp; omega
theorem rgt_yes {c : CT} {s : Nat} (hs : 1 ≤ s) (h : check c (s : Int) = 0) : rgt c s = true := by
  unfold rgt
  by_cases e : s = 1
  · simp [e]
  · have := check_up c ((s : Int) - 1) (by omega) (by rw [show (s : Int) - 1 + 1 = s by omega]; exact h)
    simp [this]

/-! ### how many there are, and how deep -/
mutual
def size : CT → Nat
  | .mk _ l => 1 + sizeL l
def sizeL : List CT → Nat
  | [] => 0
  | c :: t => size c + sizeL t
end
section
variable (m : Int)
mutual
def small : CT → Int → Int → Bool × Int
  | .mk _ l, deep, n => if m < n + 1 ∨ deep < 0 then (false, n + 1) else smallL l (deep - 1) (n + 1)
def smallL : List CT → Int → Int → Bool × Int
  | [], _, n => (true, n)
  | c :: t, deep, n => if (small c deep n).1 = true then smallL t deep (small c deep n).2 else (false, (small c deep n).2)
end
end
theorem small_eq (m : Int) (c : CT) (deep n : Int) : small m c deep n = if m < n + 1 ∨ deep < 0 then (false, n + 1) else smallL m c.subs (deep - 1) (n + 1) := by
  cases c; rw [small]; rfl
theorem smallL_yes {m : Int} {c : CT} {t : List CT} {deep n : Int} (h : (small m c deep n).1 = true) : smallL m (c :: t) deep n = smallL m t deep (small m c deep n).2 := by rw [smallL, if_pos h]
theorem smallL_no {m : Int} {c : CT} {t : List CT} {deep n : Int} (h : (small m c deep n).1 = false) : smallL m (c :: t) deep n = (false, (small m c deep n).2) := by rw [smallL, if_neg (by simp [h])]

mutual
theorem small_lt (m : Int) : ∀ (c : CT) (deep n : Int), 0 ≤ n → n ≤ m → n ≤ (small m c deep n).2 ∧ (small m c deep n).2 ≤ m + 1 ∧ ((small m c deep n).1 = true → (small m c deep n).2 ≤ m)
  | .mk h l, deep, n, h0, h1 => by
    rw [small]
    split
    · exact ⟨by omega, by omega, fun h => by cases h⟩
    · have := smallL_lt m l (deep - 1) (n + 1) (by omega) (by omega)
      exact ⟨by omega, this.2.1, this.2.2⟩
theorem smallL_lt (m : Int) : ∀ (l : List CT) (deep n : Int), 0 ≤ n → n ≤ m → n ≤ (smallL m l deep n).2 ∧ (smallL m l deep n).2 ≤ m + 1 ∧ ((smallL m l deep n).1 = true → (smallL m l deep n).2 ≤ m)
  | [], _, n, h0, h1 => by
    rw [smallL]; exact ⟨Int.le_refl _, by simp; omega, fun _ => h1⟩
  | c :: t, deep, n, h0, h1 => by
    have hc := small_lt m c deep n h0 h1
    rw [smallL]
    split
    · rename_i hy
      have := smallL_lt m t deep (small m c deep n).2 (by omega) (hc.2.2 hy)
      exact ⟨by omega, this.2.1, this.2.2⟩
    · exact ⟨hc.1, hc.2.1, fun h => by cases h⟩
end

theorem size_eq (c : CT) : size c = 1 + sizeL c.subs := by cases c; rw [size]; rfl
theorem size_pos (c : CT) : 1 ≤ size c := by rw [size_eq]; omega
theorem sizeL_len : ∀ l : List CT, l.length ≤ sizeL l
  | [] => Nat.le_refl _
  | c :: t => by have := sizeL_len t; have := size_pos c; rw [sizeL]; simp; omega
theorem sizeL_mem : ∀ {l : List CT} {x : CT}, x ∈ l → size x ≤ sizeL l
  | c :: t, x, h => by
    rw [sizeL]
    rcases List.mem_cons.1 h with rfl | h
    · omega
    · have := sizeL_mem h; omega
theorem size_len {c : CT} {rs : List (CT × Value)} {m : Nat} (hl : c.subs = rs.map Prod.fst) (h : size c ≤ m) : rs.length ≤ m := by
  have h1 := sizeL_len c.subs
  rw [size_eq] at h
  have h2 : c.subs.length = rs.length := by rw [hl]; simp
  omega
theorem size_child {c : CT} {rs : List (CT × Value)} {i m : Nat} (hl : c.subs = rs.map Prod.fst) (hi : i < rs.length) (h : size c ≤ m) : size (rs.getD i d0).1 ≤ m := by
  have h1 : (rs.getD i d0).1 ∈ c.subs := by rw [hl]; exact List.mem_map.2 ⟨_, getD_mem hi, rfl⟩
  have := sizeL_mem h1
  rw [size_eq] at h
  omega
theorem sizeL_take {rs : List (CT × Value)} {k : Nat} (hk : k < rs.length) : sizeL ((rs.map Prod.fst).take (k + 1)) = sizeL ((rs.map Prod.fst).take k) + size (rs.getD k d0).1 := by
  rw [map_take (d := d0) hk]
  generalize (rs.map Prod.fst).take k = a
  induction a with
  | nil => simp [sizeL]
  | cons c t ih => simp only [List.cons_append, sizeL, ih]; omega
theorem sizeL_take_le : ∀ (l : List CT) (k : Nat), sizeL (l.take k) ≤ sizeL l
  | [], k => by simp
  | c :: t, 0 => by simp [sizeL]
  | c :: t, k + 1 => by have := sizeL_take_le t k; simp only [List.take_succ_cons, sizeL]; omega
abbrev cA : CT := .mk ⟨1, false, 1, false, 1, true, 1⟩ []
abbrev cB (c : CT) : CT := .mk ⟨3, false, 0, false, 0, false, 0⟩ [c]
mutual
theorem small_size (m : Int) : ∀ (c : CT) (deep n : Int), (small m c deep n).1 = true → (small m c deep n).2 = n + size c
  | .mk h l, deep, n, hs => by
    rw [small] at hs ⊢
    split at hs
    · cases hs
    · rename_i hc
      rw [if_neg hc, smallL_size m l (deep - 1) (n + 1) hs, size]
      omega
theorem smallL_size (m : Int) : ∀ (l : List CT) (deep n : Int), (smallL m l deep n).1 = true → (smallL m l deep n).2 = n + sizeL l
  | [], _, n, _ => by rw [smallL, sizeL]; simp
  | c :: t, deep, n, hs => by
    rw [smallL] at hs ⊢
    split at hs
    · rename_i hc
      rw [if_pos hc, smallL_size m t deep _ hs, small_size m c deep n hc, sizeL]
      omega
    · cases hs
end
theorem small_le {m : Nat} {c : CT} {deep : Int} (h : (small m c deep 0).1 = true) : size c ≤ m := by
  have h1 := small_size m c deep 0 h
  have h2 := (small_lt m c deep 0 (by omega) (by omega)).2.2 h
  omega

theorem starL_one {A : Asrt} {w : World} {F : Nat → Prop} (h : (starL [A]).holds w F) : A.holds w F := by
  obtain ⟨F1, F2, h1, h2, _, h4⟩ := h
  have e : F = F1 := by
    funext b
    refine propext ((h4 b).trans ⟨fun h => ?_, .inl⟩)
    rcases h with h | h
    · exact h
    · exact (h2.2 b h).elim
  rw [e]; exact h1
/-- A number in a cell. -/
abbrev cntA (T p : Nat) (n : Int) : Asrt := box p 1 T (at_ [.int .i64 n])
end Go.Gx.T4
