/- Texts of this work, laid together: a logic of steps, plain laws, and walks of Go functions, each without a condition but those that its theorems name. -/
import Derived.Test.YtpadfgomhojjnaaKPlainMore1
import Derived.Maps.RangeRun
import Derived.Sort.Row
import Derived.Sort.Grow
import Derived.Shelf.Slices.CompactI
import Derived.Shelf.SlIterI.Nil
import Derived.Shelf.SlSortCmp.WholeK
/-
  Chapter 03, the plain side: terms, bindings as functions on numbers.
-/
namespace Go.Gx.T3

def cl (n : Int) : Nat := (min (max n 0) 32).toNat
theorem cl_lt (n : Int) : cl n < 33 := by unfold cl; omega
theorem cl_cast (n : Int) : ((cl n : Nat) : Int) = min (max n 0) 32 := by unfold cl; omega
def vi (b : Bool) : Int := if b then 1 else 0
def termRight (b : Bool) (n : Int) : Bool := decide (1 ≤ n ∧ n ≤ if b then 32 else 4096)
def tripleRight (a b c : Int) : Bool := decide ((1 ≤ a ∧ a ≤ 4096) ∧ (1 ≤ b ∧ b ≤ 4096) ∧ 1 ≤ c ∧ c ≤ 4096)
def updI (B : Nat → Int) (k : Nat) (t : Int) : Nat → Int := fun i => if i = k then t else B i
theorem upd_int (B : Nat → Int) (k : Nat) (t : Int) (i : Nat) : upd (fun i => Value.int .i64 (B i)) k (.int .i64 t) i = .int .i64 (updI B k t i) := by
  rw [upd_eq]; unfold updI; split <;> rfl
def heldTo (B : Nat → Int) (k : Nat) : Nat → Int := fun i => if i < k then min (max (B i) 0) 4096 else B i
def heldB (B : Nat → Int) : Nat → Int := fun i => if i = 0 then 0 else min (max (B i) 0) 4096
theorem held_next (B : Nat → Int) (k i : Nat) : upd (fun i => Value.int .i64 (heldTo B k i)) k (.int .i64 (min (max (heldTo B k k) 0) 4096)) i = .int .i64 (heldTo B (k + 1) i) := by
  rw [upd_eq]; unfold heldTo
  by_cases h : i = k
  · subst h; simp
  · rw [if_neg h]
    by_cases h2 : i < k
    · rw [if_pos h2, if_pos (by omega)]
    · rw [if_neg h2, if_neg (by omega)]

def fit1 (v : Bool) (n t : Int) (B : Nat → Int) : Option (Nat → Int) :=
  if v = true then (if B (cl n) = 0 then some (updI B (cl n) t) else if B (cl n) = t then some B else none) else if n = t then some B else none

def fitTo (v0 : Bool) (n0 : Int) (v1 : Bool) (n1 : Int) (v2 : Bool) (n2 : Int) (t0 t1 t2 : Int) (B : Nat → Int) : Nat → Option (Nat → Int)
  | 0 => some B
  | 1 => fit1 v0 n0 t0 B
  | 2 => (fit1 v0 n0 t0 B).bind (fit1 v1 n1 t1)
  | _ => ((fit1 v0 n0 t0 B).bind (fit1 v1 n1 t1)).bind (fit1 v2 n2 t2)

def fit (v0 : Bool) (n0 : Int) (v1 : Bool) (n1 : Int) (v2 : Bool) (n2 : Int) (t0 t1 t2 : Int) (B : Nat → Int) : Option (Nat → Int) :=
  ((fit1 v0 n0 t0 B).bind (fit1 v1 n1 t1)).bind (fit1 v2 n2 t2)

section
variable {v0 : Bool} {n0 : Int} {v1 : Bool} {n1 : Int} {v2 : Bool} {n2 t0 t1 t2 : Int} {B Bk : Nat → Int}
theorem fitTo_1 (h : fitTo v0 n0 v1 n1 v2 n2 t0 t1 t2 B 0 = some Bk) : fitTo v0 n0 v1 n1 v2 n2 t0 t1 t2 B 1 = fit1 v0 n0 t0 Bk := by
  simp only [fitTo, Option.some.injEq] at h ⊢; rw [h]
theorem fitTo_2 (h : fitTo v0 n0 v1 n1 v2 n2 t0 t1 t2 B 1 = some Bk) : fitTo v0 n0 v1 n1 v2 n2 t0 t1 t2 B 2 = fit1 v1 n1 t1 Bk := by
  simp only [fitTo] at h ⊢; rw [h]; rfl
theorem fitTo_3 (h : fitTo v0 n0 v1 n1 v2 n2 t0 t1 t2 B 2 = some Bk) : fitTo v0 n0 v1 n1 v2 n2 t0 t1 t2 B 3 = fit1 v2 n2 t2 Bk := by
  simp only [fitTo] at h ⊢; rw [h]; rfl
theorem fitNo_0 (h : fitTo v0 n0 v1 n1 v2 n2 t0 t1 t2 B 0 = some Bk) (h2 : fit1 v0 n0 t0 Bk = none) : fit v0 n0 v1 n1 v2 n2 t0 t1 t2 B = none := by
  simp only [fitTo, Option.some.injEq] at h; unfold fit; rw [h, h2]; rfl
theorem fitNo_1 (h : fitTo v0 n0 v1 n1 v2 n2 t0 t1 t2 B 1 = some Bk) (h2 : fit1 v1 n1 t1 Bk = none) : fit v0 n0 v1 n1 v2 n2 t0 t1 t2 B = none := by
  simp only [fitTo] at h; unfold fit; rw [h, Option.bind_some, h2]; rfl
theorem fitNo_2 (h : fitTo v0 n0 v1 n1 v2 n2 t0 t1 t2 B 2 = some Bk) (h2 : fit1 v2 n2 t2 Bk = none) : fit v0 n0 v1 n1 v2 n2 t0 t1 t2 B = none := by
  simp only [fitTo] at h; unfold fit; rw [h, Option.bind_some, h2]
end

def fine (v0 : Bool) (n0 : Int) (v1 : Bool) (n1 : Int) (v2 : Bool) (n2 : Int) : Bool := termRight v0 n0 && (termRight v1 n1 && termRight v2 n2)

def owns (v : Bool) (n : Int) (k : Nat) : Bool := v && decide (n = (k : Int))
def ownTo (v0 : Bool) (n0 : Int) (v1 : Bool) (n1 : Int) (v2 : Bool) (n2 : Int) (k : Nat) : Nat → Bool
  | 0 => false
  | 1 => owns v0 n0 k
  | 2 => owns v0 n0 k || owns v1 n1 k
  | _ => owns v0 n0 k || owns v1 n1 k || owns v2 n2 k

section
variable (v0 : Bool) (n0 : Int) (v1 : Bool) (n1 : Int) (v2 : Bool) (n2 : Int) (k : Nat)
theorem ownTo_1 : ownTo v0 n0 v1 n1 v2 n2 k 1 = (ownTo v0 n0 v1 n1 v2 n2 k 0 || owns v0 n0 k) := rfl
theorem ownTo_2 : ownTo v0 n0 v1 n1 v2 n2 k 2 = (ownTo v0 n0 v1 n1 v2 n2 k 1 || owns v1 n1 k) := rfl
theorem ownTo_3 : ownTo v0 n0 v1 n1 v2 n2 k 3 = (ownTo v0 n0 v1 n1 v2 n2 k 2 || owns v2 n2 k) := rfl
end

/-- One term: what stood for something stays; only the variable's place is new; the place holds something then. -/
theorem fit1_keeps {v : Bool} {n t : Int} {B C : Nat → Int} (h : fit1 v n t B = some C) (hr : termRight v n = true) (ht : 1 ≤ t) (k : Nat) :
    (B k ≠ 0 → C k = B k) ∧ (C k ≠ B k → owns v n k = true) ∧ (owns v n k = true → C k ≠ 0) := by
  unfold fit1 at h
  unfold termRight at hr
  unfold owns
  cases v with
  | false =>
    simp at h
    simp [← h.2]
  | true =>
    simp only [if_true] at h hr
    simp at hr
    have hcl : ∀ k : Nat, cl n = k ↔ n = (k : Int) := fun k => by unfold cl; omega
    split at h
    · rename_i h0
      simp at h
      subst h
      unfold updI
      by_cases e : k = cl n
      · subst e
        have := (hcl (cl n)).1 rfl
        simp [← this]
        omega
      · simp [e]
        intro e2
        exact absurd ((hcl k).2 e2).symm e
    · rename_i h0
      split at h
      · rename_i h1
        simp at h
        subst h
        simp
        intro e
        rw [← (hcl k).2 e]; exact h0
      · cases h

/-- One term that fitted fits again, and changes nothing. -/
theorem fit1_again {v : Bool} {n t : Int} {B C D : Nat → Int} (h : fit1 v n t B = some C) (ht : 1 ≤ t) (hD : ∀ k, C k ≠ 0 → D k = C k) : fit1 v n t D = some D := by
  unfold fit1 at *
  cases v with
  | false =>
    simp at h ⊢
    exact h.1
  | true =>
    simp only [if_true] at h ⊢
    have key : C (cl n) = t := by
      split at h
      · simp at h; subst h; simp [updI]
      · split at h
        · simp at h; subst h; assumption
        · cases h
    have := hD (cl n) (by omega)
    rw [if_neg (by omega), if_pos (by omega)]

theorem fit_keeps {v0 : Bool} {n0 : Int} {v1 : Bool} {n1 : Int} {v2 : Bool} {n2 t0 t1 t2 : Int} {B C : Nat → Int} (h : fit v0 n0 v1 n1 v2 n2 t0 t1 t2 B = some C) (hf : fine v0 n0 v1 n1 v2 n2 = true) (ht : tripleRight t0 t1 t2 = true) :
    (∀ k, (B k ≠ 0 → C k = B k) ∧ (C k ≠ B k → ownTo v0 n0 v1 n1 v2 n2 k 3 = true) ∧ (ownTo v0 n0 v1 n1 v2 n2 k 3 = true → C k ≠ 0)) ∧ fit v0 n0 v1 n1 v2 n2 t0 t1 t2 C = some C := by
  unfold fit at h
  unfold fine at hf
  unfold tripleRight at ht
  simp at hf ht
  obtain ⟨hf0, hf1, hf2⟩ := hf
  obtain ⟨ht0, ht1, ht2⟩ := ht
  cases e0 : fit1 v0 n0 t0 B with
  | none => simp [e0] at h
  | some B1 =>
    simp only [e0, Option.bind_some] at h
    cases e1 : fit1 v1 n1 t1 B1 with
    | none => simp [e1] at h
    | some B2 =>
      simp only [e1, Option.bind_some] at h
      have k0 := fit1_keeps e0 hf0 (by omega)
      have k1 := fit1_keeps e1 hf1 (by omega)
      have k2 := fit1_keeps h hf2 (by omega)
      refine ⟨fun k => ?_, ?_⟩
      · obtain ⟨a0, b0, c0⟩ := k0 k
        obtain ⟨a1, b1, c1⟩ := k1 k
        obtain ⟨a2, b2, c2⟩ := k2 k
        have e01 : B k ≠ 0 → C k = B k := fun hb => by
          have x0 := a0 hb
          have x1 := a1 (by rw [x0]; exact hb)
          have x2 := a2 (by rw [x1, x0]; exact hb)
          rw [x2, x1, x0]
        refine ⟨e01, fun hne => ?_, fun ho => ?_⟩
        · simp only [ownTo, Bool.or_eq_true]
          by_cases y0 : B1 k = B k
          · by_cases y1 : B2 k = B1 k
            · exact .inr (b2 (by rw [y1, y0]; exact hne))
            · exact .inl (.inr (b1 y1))
          · exact .inl (.inl (b0 y0))
        · simp only [ownTo, Bool.or_eq_true] at ho
          rcases ho with (ho | ho) | ho
          · have z0 := c0 ho
            have z1 := a1 z0
            have z2 := a2 (by rw [z1]; exact z0)
            rw [z2, z1]; exact z0
          · have z1 := c1 ho
            have z2 := a2 z1
            rw [z2]; exact z1
          · exact c2 ho
      · have s2 : ∀ k, B2 k ≠ 0 → C k = B2 k := fun k => (k2 k).1
        have s1 : ∀ k, B1 k ≠ 0 → C k = B1 k := fun k hk => by
          have x1 := (k1 k).1 hk
          rw [s2 k (by rw [x1]; exact hk), x1]
        unfold fit
        rw [fit1_again e0 (by omega) s1, Option.bind_some, fit1_again e1 (by omega) s2, Option.bind_some, fit1_again h (by omega) (fun k _ => rfl)]

theorem keeps_of {v0 : Bool} {n0 : Int} {v1 : Bool} {n1 : Int} {v2 : Bool} {n2 t0 t1 t2 : Int} (hf : fine v0 n0 v1 n1 v2 n2 = true) (ht : tripleRight t0 t1 t2 = true) (B : Nat → Int) (k : Nat) :
    (B k ≠ 0 → (fit v0 n0 v1 n1 v2 n2 t0 t1 t2 B).getD B k = B k) ∧ ((fit v0 n0 v1 n1 v2 n2 t0 t1 t2 B).getD B k ≠ B k → ownTo v0 n0 v1 n1 v2 n2 k 3 = true) ∧
    ((fit v0 n0 v1 n1 v2 n2 t0 t1 t2 B).isSome = true → ownTo v0 n0 v1 n1 v2 n2 k 3 = true → (fit v0 n0 v1 n1 v2 n2 t0 t1 t2 B).getD B k ≠ 0) := by
  cases e : fit v0 n0 v1 n1 v2 n2 t0 t1 t2 B with
  | none => simp
  | some C =>
    have := (fit_keeps e hf ht).1 k
    simpa using this

theorem again_of {v0 : Bool} {n0 : Int} {v1 : Bool} {n1 : Int} {v2 : Bool} {n2 t0 t1 t2 : Int} (hf : fine v0 n0 v1 n1 v2 n2 = true) (ht : tripleRight t0 t1 t2 = true) (B : Nat → Int) (h : (fit v0 n0 v1 n1 v2 n2 t0 t1 t2 B).isSome = true) :
    fit v0 n0 v1 n1 v2 n2 t0 t1 t2 ((fit v0 n0 v1 n1 v2 n2 t0 t1 t2 B).getD B) = some ((fit v0 n0 v1 n1 v2 n2 t0 t1 t2 B).getD B) := by
  cases e : fit v0 n0 v1 n1 v2 n2 t0 t1 t2 B with
  | none => rw [e] at h; cases h
  | some C => simpa using (fit_keeps e hf ht).2

theorem IsRow_ints (k : IntKind) (l : List Int) : IsRow (l.map (Value.int k)).toArray l.length (fun i => .int k (l.getD i 0)) :=
  ⟨by simp, fun i hi => by simp [hi]⟩

end Go.Gx.T3

/- Plain laws of conditions: trees; what is wrong with one; no program in sight. -/
namespace Go.Gx.T4
open Go.Gx Go.Gx.T3

/-- A condition but for what stands below it. -/
structure Hd where
  k : Int
  v0 : Bool
  n0 : Int
  v1 : Bool
  n1 : Int
  v2 : Bool
  n2 : Int
inductive CT where
  | mk (h : Hd) (subs : List CT)
namespace CT
def h : CT → Hd | .mk h _ => h
def subs : CT → List CT | .mk _ l => l
end CT
theorem CT.eta (c : CT) : CT.mk c.h c.subs = c := by cases c; rfl
abbrev h0 : Hd := ⟨0, false, 0, false, 0, false, 0⟩
abbrev d0 : CT × Value := (.mk h0 [], .slice none 0 0)
/-- The cells of a condition: the program's own, and the document's. -/
def cvC (p : CT × Value) : List Value := [.int .i64 p.1.h.k, .bool p.1.h.v0, .int .i64 p.1.h.n0, .bool p.1.h.v1, .int .i64 p.1.h.n1, .bool p.1.h.v2, .int .i64 p.1.h.n2, p.2]
def rvC (p : CT × Value) : List Value := [.int .i64 p.1.h.k, .int .i64 (vi p.1.h.v0), .int .i64 p.1.h.n0, .int .i64 (vi p.1.h.v1), .int .i64 p.1.h.n1, .int .i64 (vi p.1.h.v2), .int .i64 p.1.h.n2, p.2]
abbrev Cs (G : Ghost) (v : Value) (l : List CT) : Prop := Tr CT.subs cvC 8 d0 G v l
abbrev Rs (G : Ghost) (v : Value) (l : List CT) : Prop := Tr CT.subs rvC 8 d0 G v l

theorem size_subs (c : CT) : SizeOf.sizeOf c.subs < SizeOf.sizeOf c := by
  cases c with
  | mk h l => simp [CT.subs]; omega
theorem size_mem {c x : CT} (h : x ∈ c.subs) : SizeOf.sizeOf x < SizeOf.sizeOf c := by
  have := List.sizeOf_lt_of_mem h
  have := size_subs c
  omega
/-- .. of those in a slice. -/
theorem size_at {c : CT} {rs : List (CT × Value)} {i n : Nat} (h : c.subs = rs.map Prod.fst) (hi : i < rs.length) (hn : SizeOf.sizeOf c ≤ n + 1) : SizeOf.sizeOf (rs.getD i d0).1 ≤ n := by
  have h1 : (rs.getD i d0).1 ∈ c.subs := by rw [h]; exact List.mem_map.2 ⟨_, getD_mem hi, rfl⟩
  have := size_mem h1
  omega

/-! ### what is wrong -/
def headOk (h : Hd) : Bool := termRight h.v0 h.n0 && (termRight h.v1 h.n1 && termRight h.v2 h.n2)
def headNone (h : Hd) : Bool := !h.v0 && decide (h.n0 = 0) && (!h.v1 && decide (h.n1 = 0)) && (!h.v2 && decide (h.n2 = 0))
theorem headNone_cs (h : Hd) : csEq [.bool h.v0, .int .i64 h.n0, .bool h.v1, .int .i64 h.n1, .bool h.v2, .int .i64 h.n2] [.bool false, .int .i64 0, .bool false, .int .i64 0, .bool false, .int .i64 0] = headNone h := by
  unfold headNone
  cases h.v0 <;> cases h.v1 <;> cases h.v2 <;> simp [csEq, cEq, Bool.and_assoc]
theorem headNone_no {h : Hd} (e : ¬ (vi h.v0 = 0 ∧ h.n0 = 0 ∧ vi h.v1 = 0 ∧ h.n1 = 0 ∧ vi h.v2 = 0 ∧ h.n2 = 0)) : headNone h = false := by
  unfold headNone
  rw [← Bool.not_eq_true]
  intro hx
  simp only [Bool.and_eq_true, Bool.not_eq_true', decide_eq_true_eq] at hx
  obtain ⟨⟨⟨a0, b0⟩, a1, b1⟩, a2, b2⟩ := hx
  exact e ⟨by simp [vi, a0], b0, by simp [vi, a1], b1, by simp [vi, a2], b2⟩
theorem headNone_yes {h : Hd} (e : vi h.v0 = 0 ∧ h.n0 = 0 ∧ vi h.v1 = 0 ∧ h.n1 = 0 ∧ vi h.v2 = 0 ∧ h.n2 = 0) : ¬ headNone h = false := by
  unfold headNone
  cases h0 : h.v0 <;> cases h1 : h.v1 <;> cases h2 : h.v2 <;> simp_all [vi]
mutual
def check : CT → Int → Int
  | .mk h l, d => if 3 < max d 1 then 5 else if h.k = 3 then (if headNone h = false then 4 else if l.length = 0 then 2 else checkL l (max d 1 + 1)) else if h.k ≠ 1 ∧ h.k ≠ 2 then 3 else if headOk h = false ∨ 0 < l.length then 4 else 0
def checkL : List CT → Int → Int
  | [], _ => 0
  | c :: t, d => if check c d = 0 then checkL t d else check c d
end
theorem check_eq (c : CT) (d : Int) : check c d = if 3 < max d 1 then 5 else if c.h.k = 3 then (if headNone c.h = false then 4 else if c.subs.length = 0 then 2 else checkL c.subs (max d 1 + 1)) else if c.h.k ≠ 1 ∧ c.h.k ≠ 2 then 3 else if headOk c.h = false ∨ 0 < c.subs.length then 4 else 0 := by
  cases c; rw [check]; rfl
theorem check_max (c : CT) (d : Int) : check c (max d 1) = check c d := by
  rw [check_eq c (max d 1), check_eq c d, show max (max d 1) 1 = max d 1 by omega]
theorem checkL_ok {c : CT} {t : List CT} {d : Int} (h : check c d = 0) : checkL (c :: t) d = checkL t d := by rw [checkL, if_pos h]
theorem checkL_no {c : CT} {t : List CT} {d : Int} (h : check c d ≠ 0) : checkL (c :: t) d = check c d := by rw [checkL, if_neg h]

mutual
theorem check_up : ∀ (c : CT) (d : Int), 1 ≤ d → check c (d + 1) = 0 → check c d = 0
  | .mk h l, d, hd, hc => by
    have h1 : max d 1 = d := by omega
    have h2 : max (d + 1) 1 = d + 1 := by omega
    rw [check, h1]
    rw [check, h2] at hc
    by_cases c1 : 3 < d + 1
    · rw [if_pos c1] at hc; omega
    rw [if_neg c1] at hc
    rw [if_neg (by omega)]
    by_cases c2 : h.k = 3
    · rw [if_pos c2] at hc ⊢
      by_cases c3 : headNone h = false
      · rw [if_pos c3] at hc; omega
      rw [if_neg c3] at hc ⊢
      by_cases c4 : l.length = 0
      · rw [if_pos c4] at hc; omega
      rw [if_neg c4] at hc ⊢
      exact checkL_up l (d + 1) (by omega) hc
    · rw [if_neg c2] at hc ⊢; exact hc
theorem checkL_up : ∀ (l : List CT) (d : Int), 1 ≤ d → checkL l (d + 1) = 0 → checkL l d = 0
  | [], _, _, _ => by rw [checkL]
  | c :: t, d, hd, hc => by
    rw [checkL] at hc ⊢
    by_cases c1 : check c (d + 1) = 0
    · rw [if_pos c1] at hc
      rw [if_pos (check_up c d hd c1)]
      exact checkL_up t d hd hc
    · rw [if_neg c1] at hc; exact absurd hc c1
end
theorem check_deep (c : CT) {d : Int} (hd : 3 < d) : check c d ≠ 0 := by
  rw [check_eq, if_pos (by omega)]; decide

/-- Whether it was right at the depth ahead. -/
def rgt (c : CT) (s : Nat) : Bool := decide (s = 1 ∨ check c ((s : Int) - 1) = 0)
theorem rgt_one (c : CT) : rgt c 1 = true := by simp [rgt]
theorem rgt_next (c : CT) {s : Nat} (h : 1 ≤ s) : rgt c (s + 1) = decide (check c (s : Int) = 0) := by
  unfold rgt
  rw [show (((s + 1 : Nat) : Int) - 1) = (s : Int) by omega]
  simp; omega
theorem rgt_yes {c : CT} {s : Nat} (hs : 1 ≤ s) (h : check c (s : Int) = 0) : rgt c s = true := by
  unfold rgt
  by_cases e : s = 1
  · simp [e]
  · have := check_up c ((s : Int) - 1) (by omega) (by rw [show (s : Int) - 1 + 1 = s by omega]; exact h)
    simp [this]

/-! ### how many there are, and how deep -/
mutual
def size : CT → Nat
  | .mk _ l => 1 + sizeL l
def sizeL : List CT → Nat
  | [] => 0
  | c :: t => size c + sizeL t
end
section
variable (m : Int)
mutual
def small : CT → Int → Int → Bool × Int
  | .mk _ l, deep, n => if m < n + 1 ∨ deep < 0 then (false, n + 1) else smallL l (deep - 1) (n + 1)
def smallL : List CT → Int → Int → Bool × Int
  | [], _, n => (true, n)
  | c :: t, deep, n => if (small c deep n).1 = true then smallL t deep (small c deep n).2 else (false, (small c deep n).2)
end
end
theorem small_eq (m : Int) (c : CT) (deep n : Int) : small m c deep n = if m < n + 1 ∨ deep < 0 then (false, n + 1) else smallL m c.subs (deep - 1) (n + 1) := by
  cases c; rw [small]; rfl
theorem smallL_yes {m : Int} {c : CT} {t : List CT} {deep n : Int} (h : (small m c deep n).1 = true) : smallL m (c :: t) deep n = smallL m t deep (small m c deep n).2 := by rw [smallL, if_pos h]
theorem smallL_no {m : Int} {c : CT} {t : List CT} {deep n : Int} (h : (small m c deep n).1 = false) : smallL m (c :: t) deep n = (false, (small m c deep n).2) := by rw [smallL, if_neg (by simp [h])]

mutual
theorem small_lt (m : Int) : ∀ (c : CT) (deep n : Int), 0 ≤ n → n ≤ m → n ≤ (small m c deep n).2 ∧ (small m c deep n).2 ≤ m + 1 ∧ ((small m c deep n).1 = true → (small m c deep n).2 ≤ m)
  | .mk h l, deep, n, h0, h1 => by
    rw [small]
    split
    · exact ⟨by omega, by omega, fun h => by cases h⟩
    · have := smallL_lt m l (deep - 1) (n + 1) (by omega) (by omega)
      exact ⟨by omega, this.2.1, this.2.2⟩
theorem smallL_lt (m : Int) : ∀ (l : List CT) (deep n : Int), 0 ≤ n → n ≤ m → n ≤ (smallL m l deep n).2 ∧ (smallL m l deep n).2 ≤ m + 1 ∧ ((smallL m l deep n).1 = true → (smallL m l deep n).2 ≤ m)
  | [], _, n, h0, h1 => by
    rw [smallL]; exact ⟨Int.le_refl _, by simp; omega, fun _ => h1⟩
  | c :: t, deep, n, h0, h1 => by
    have hc := small_lt m c deep n h0 h1
    rw [smallL]
    split
    · rename_i hy
      have := smallL_lt m t deep (small m c deep n).2 (by omega) (hc.2.2 hy)
      exact ⟨by omega, this.2.1, this.2.2⟩
    · exact ⟨hc.1, hc.2.1, fun h => by cases h⟩
end

theorem size_eq (c : CT) : size c = 1 + sizeL c.subs := by cases c; rw [size]; rfl
theorem size_pos (c : CT) : 1 ≤ size c := by rw [size_eq]; omega
theorem sizeL_len : ∀ l : List CT, l.length ≤ sizeL l
  | [] => Nat.le_refl _
  | c :: t => by have := sizeL_len t; have := size_pos c; rw [sizeL]; simp; omega
theorem sizeL_mem : ∀ {l : List CT} {x : CT}, x ∈ l → size x ≤ sizeL l
  | c :: t, x, h => by
    rw [sizeL]
    rcases List.mem_cons.1 h with rfl | h
    · omega
    · have := sizeL_mem h; omega
theorem size_len {c : CT} {rs : List (CT × Value)} {m : Nat} (hl : c.subs = rs.map Prod.fst) (h : size c ≤ m) : rs.length ≤ m := by
  have h1 := sizeL_len c.subs
  rw [size_eq] at h
  have h2 : c.subs.length = rs.length := by rw [hl]; simp
  omega
theorem size_child {c : CT} {rs : List (CT × Value)} {i m : Nat} (hl : c.subs = rs.map Prod.fst) (hi : i < rs.length) (h : size c ≤ m) : size (rs.getD i d0).1 ≤ m := by
  have h1 : (rs.getD i d0).1 ∈ c.subs := by rw [hl]; exact List.mem_map.2 ⟨_, getD_mem hi, rfl⟩
  have := sizeL_mem h1
  rw [size_eq] at h
  omega
theorem sizeL_take {rs : List (CT × Value)} {k : Nat} (hk : k < rs.length) : sizeL ((rs.map Prod.fst).take (k + 1)) = sizeL ((rs.map Prod.fst).take k) + size (rs.getD k d0).1 := by
  rw [map_take (d := d0) hk]
  generalize (rs.map Prod.fst).take k = a
  induction a with
  | nil => simp [sizeL]
  | cons c t ih => simp only [List.cons_append, sizeL, ih]; omega
theorem sizeL_take_le : ∀ (l : List CT) (k : Nat), sizeL (l.take k) ≤ sizeL l
  | [], k => by simp
  | c :: t, 0 => by simp [sizeL]
  | c :: t, k + 1 => by have := sizeL_take_le t k; simp only [List.take_succ_cons, sizeL]; omega
abbrev cA : CT := .mk ⟨1, false, 1, false, 1, true, 1⟩ []
abbrev cB (c : CT) : CT := .mk ⟨3, false, 0, false, 0, false, 0⟩ [c]
mutual
theorem small_size (m : Int) : ∀ (c : CT) (deep n : Int), (small m c deep n).1 = true → (small m c deep n).2 = n + size c
  | .mk h l, deep, n, hs => by
    rw [small] at hs ⊢
    split at hs
    · cases hs
    · rename_i hc
      rw [if_neg hc, smallL_size m l (deep - 1) (n + 1) hs, size]
      omega
theorem smallL_size (m : Int) : ∀ (l : List CT) (deep n : Int), (smallL m l deep n).1 = true → (smallL m l deep n).2 = n + sizeL l
  | [], _, n, _ => by rw [smallL, sizeL]; simp
  | c :: t, deep, n, hs => by
    rw [smallL] at hs ⊢
    split at hs
    · rename_i hc
      rw [if_pos hc, smallL_size m t deep _ hs, small_size m c deep n hc, sizeL]
      omega
    · cases hs
end
theorem small_le {m : Nat} {c : CT} {deep : Int} (h : (small m c deep 0).1 = true) : size c ≤ m := by
  have h1 := small_size m c deep 0 h
  have h2 := (small_lt m c deep 0 (by omega) (by omega)).2.2 h
  omega

theorem starL_one {A : Asrt} {w : World} {F : Nat → Prop} (h : (starL [A]).holds w F) : A.holds w F := by
  obtain ⟨F1, F2, h1, h2, _, h4⟩ := h
  have e : F = F1 := by
    funext b
    refine propext ((h4 b).trans ⟨fun h => ?_, .inl⟩)
    rcases h with h | h
    · exact h
    · exact (h2.2 b h).elim
  rw [e]; exact h1
/-- A number in a cell. -/
abbrev cntA (T p : Nat) (n : Int) : Asrt := box p 1 T (at_ [.int .i64 n])
end Go.Gx.T4

/-
  GX: a block of the call's own stays as it is from now on, and is a slice. Generic in the program.
-/
namespace Go.Gx
open Go.RowKit

section
variable {P : Program} {ops : Array Oper} {Q : Exit → Act → World → Prop} {N : Nat} {X : Nat → Prop} {w0 : World} {G : Ghost} {l : List (Nat × Value)} {L : List Asrt}
variable {rest : List Oper}

theorem Mem.freezeB {w : World} {k n m sz b : Nat} {E : TypeId} {f : Nat → Value} (h : Mem X w0 G w L) (hL : L[k]? = some (box b n E f)) (hn : n = m * sz) (hm : m ≤ 1000) :
    ∃ G', GNew w0 X G G' ∧ SlG G' (.slice (some ⟨b, 0, none⟩) m m) m sz (fun i j => f (i * sz + j)) ∧ Mem X w0 G' w (L.eraseIdx k) := by
  obtain ⟨F, ⟨⟨c, hc, hr⟩, hF⟩, hU, hsep⟩ := h.sep.erase hL
  have hgF : F b := (hF b).2 rfl
  have hgU := hU b hgF
  refine ⟨fun b' => if b' = b then some (.cells c E (0, 0)) else G b', ⟨fun b' o e => ?_, fun b' e e' => ?_⟩, ?_, h.since, fun b' o e => ?_, hsep.mono (fun b' _ hb => ⟨hb.1.1, ?_⟩)⟩
  · have : b' ≠ b := fun e2 => by subst e2; rw [hgU.2] at e; cases e
    simp only [if_neg this]; exact e
  · by_cases e2 : b' = b
    · subst e2; exact hgU.1
    · simp only [if_neg e2] at e'; exact absurd e e'
  · refine ⟨some ⟨b, 0, none⟩, m, rfl, ⟨Nat.le_refl _, by simp only [maxLen]; omega⟩, fun _ => ⟨b, 0, rfl, fun i hi => ⟨c, E, (0, 0), by simp, fun j hj => ?_⟩⟩⟩
    have hlt : i * sz + j < n := by
      have := Nat.mul_le_mul_right sz (show i + 1 ≤ m from hi)
      rw [Nat.add_mul, Nat.one_mul] at this; omega
    rw [Nat.zero_add]
    exact hr.get _ hlt
  · by_cases e2 : b' = b
    · subst e2; simp only [if_true, Option.some.injEq] at e; subst e; exact hc
    · simp only [if_neg e2] at e; exact h.has b' o e
  · have : b' ≠ b := fun e2 => hb.2 (by rw [e2]; exact hgF)
    simp only [if_neg this]; exact hb.1.2

theorem r_freezeB {k n b E : Nat} {f : Nat → Value} (m sz : Nat) (hL : L[k]? = some (box b n E f)) (hn : n = m * sz) (hm : m ≤ 1000)
    (h : ∀ G', GNew w0 X G G' → SlG G' (.slice (some ⟨b, 0, none⟩) m m) m sz (fun i j => f (i * sz + j)) → Runs P ops Q N X w0 G' rest l (L.eraseIdx k)) : Runs P ops Q N X w0 G rest l L := by
  intro a w hS
  obtain ⟨G', h1, h2, h3⟩ := hS.mem.freezeB hL hn hm
  exact h G' h1 h2 a w ⟨hS.fr, h3⟩

/-- A call that hands back a row of its own. -/
theorem r_callrow {d : Nat} {ty : TypeId} {pos : String} {after : Array Edge} {gd : Option (Nat × Bool)} {f : FuncId} {xs : List Operand} {vs : List Value} {ats : Array TypeId} {E : TypeId} {sz n : Nat} {ys : List Value} (hw : Wt ops l gd) (hd : Nat.blt d N = true) (hf : Callable P f) (hv : evs l xs = some vs)
    (hc : ∀ w, Has G w → Calls P f vs.toArray w (Ret fun r w' => Since nX w w' ∧ ∃ F', (rowA r E sz n ys).holds w' F' ∧ ∀ b, F' b → w.heap.size ≤ b))
    (h : ∀ v, Runs P ops Q N X w0 G rest ((d, v) :: l) (rowA v E sz n ys :: L)) : Runs P ops Q N X w0 G (⟨some d, .call ⟨.value (.func f), xs.toArray, ats⟩, ty, pos, after, gd⟩ :: rest) l L := by
  refine Runs.step hw (fun a w hS => ?_)
  show Oper.upon P _ a _ Q _
  rw [run_call hS.fr hv hf, Oper.upon_enter]
  refine (hc w hS.mem.has).mono (fun e w' hR => ?_)
  cases e with
  | returned r =>
    obtain ⟨hs, F', hB, hF'⟩ := hR
    have h1 := hS.mem.call hs
    refine h r _ _ ⟨hS.fr.put (by simpa using hd) _, h1.since, h1.has, F', hB, fun b hb => ⟨.inl (Nat.le_trans hS.mem.since.size (hF' b hb)), hS.mem.has.fresh (hF' b hb)⟩, ?_⟩
    refine Sep.keep (hS.mem.sep.mono (fun b hb hu => ⟨hu, fun hf => ?_⟩)) (fun b hb _ => hs.block b hb id)
    have := hF' b hf
    omega
  | panicked c => exact hR.elim
  | outgrown => exact hR.elim
end

section
variable {P : Program} {ops : Array Oper} {brk : Nat → Bool} {G0 : Ghost} {L0 : List Asrt} {Q : Exit → Act → World → Prop} {N : Nat} {X : Nat → Prop} {w0 : World} {G : Ghost} {l : List (Nat × Value)} {L : List Asrt}
variable {d n : Nat} {listed : Array Bool} {ty : TypeId} {pos : String} {after : Array Edge} {gd : Option (Nat × Bool)} {v : Value} {T E : TypeId} {m sz : Nat} {q : IntKind} {f : Nat → Nat → Value} {x o : Operand}
/-- A part of a slice, from its beginning on, in a drawn region. -/
theorem d_slice0 (i b : Nat) (hi : ops[i]? = some ⟨some d, .slice T x none (some o) none, ty, pos, after, gd⟩) (hb : brk i = false) (hf : firstB ops brk listed i = true) (hbig : ∀ j, ops.size ≤ j → brk j = false) (hw : Wt ops l gd) (hd : Nat.blt d N = true)
    (hT : P.underlying T = some (.slice E)) (hE : SzIs P E sz) (hx : ev l x = some v) (hs : SlG G0 v m sz f) (hhi : ev l o = some (.int q (b : Nat))) (hbn : b ≤ m)
    (h : ∀ v', SlG G0 v' b sz f → DR P ops brk G0 L0 Q N X w0 G true n (listed.setIfInBounds i true) ((d, v') :: l) L) : DR P ops brk G0 L0 Q N X w0 G true (n + 1) listed l L := by
  obtain ⟨v', h1, h2⟩ := p_slice (P := P) (N := N) (X := aX) (w0 := w0) (l := l) (L := L0) (d := d) (ty := ty) (pos := pos) (after := after) (gd := gd) (q := .i64) (q' := q) (a := 0) (b := b) hT hE hx hs none (some o) rfl hhi (Nat.zero_le _) hbn
  exact d_val1 i hi hb hf hbig hw hd h2 (h v' h1.from0)
end

/-- One element in a block of its own. -/
theorem SlG.single {α : Type} {G : Ghost} {v : Value} {sz : Nat} {f : Nat → Nat → Value} {cells : α → List Value} {e : α} (a : α) (h : SlG G v 1 sz f) (hc : ∀ j, j < sz → f 0 j = at_ (cells a) j) : SlL G v sz cells e [a] := by
  refine SlG.congr h (fun i hi j hj => ?_)
  have hi' : i < 1 := hi
  obtain rfl : i = 0 := by omega
  exact hc j hj
end Go.Gx
namespace Go.Gx
open Go.RowKit
section
variable {P : Program} {ops : Array Oper} {brk : Nat → Bool} {G0 : Ghost} {L0 : List Asrt} {Q : Exit → Act → World → Prop} {N : Nat} {X : Nat → Prop} {w0 : World} {G : Ghost} {l : List (Nat × Value)} {L : List Asrt}
variable {d n : Nat} {listed : Array Bool} {ty : TypeId} {pos : String} {after : Array Edge} {gd : Option (Nat × Bool)} {v : Value} {T E : TypeId} {m sz : Nat} {q : IntKind} {f : Nat → Nat → Value} {x y : Operand}
/-- The address of an element of a slice, in a drawn region. -/
theorem d_iaddr_g (i : Nat) {k : Nat} (hi : ops[i]? = some ⟨some d, .indexAddr T x y, ty, pos, after, gd⟩) (hb : brk i = false) (hf : firstB ops brk listed i = true) (hbig : ∀ j, ops.size ≤ j → brk j = false) (hw : Wt ops l gd) (hd : Nat.blt d N = true)
    (hT : P.underlying T = some (.slice E)) (hE : SzIs P E sz) (hx : ev l x = some v) (hs : SlG G0 v m sz f) (hy : ev l y = some (.int q (k : Nat))) (hk : k < m)
    (h : ∀ b o, RowAt G0 b o sz (f k) → DR P ops brk G0 L0 Q N X w0 G true n (listed.setIfInBounds i true) ((d, .pointer (some ⟨b, o, none⟩)) :: l) L) : DR P ops brk G0 L0 Q N X w0 G true (n + 1) listed l L := by
  obtain ⟨b, o, h1, h2⟩ := iaddr_g (P := P) (N := N) (X := aX) (w0 := w0) (l := l) (L := L0) (d := d) (ty := ty) (pos := pos) (after := after) (gd := gd) hT hE hx hs hy hk
  exact d_val1 i hi hb hf hbig hw hd h2 (h b o h1)
/-- A field of a value: several cells. -/
theorem p_fieldv {S : TypeId} {fs : Array Field} {fld : Field} {e : TypeDesc} {j M o k : Nat} {c : Array Value} {g : Nat → Value} {u : Value} (hS' : P.underlying S = some (.struct fs)) (hf : fs[j]? = some fld) (hT : P.underlying fld.type = some e) (ha : e.aggB = true) (hm : SzIs P fld.type k)
    (hx : ev l x = some (.agg c)) (hc : IsRow c M g) (ho : fld.offset = o) (hM : o + k ≤ M) (hv : aggF k (fun i => g (o + i)) = u) : PV P N X w0 G l L ⟨some d, .field S x j, ty, pos, after, gd⟩ u := by
  intro a w hS
  subst ho
  simp only [execOp, hS.fr.eval hx]
  simp [Instr.field, asAgg, run_underlying hS', hf, hm.run, part, run_isAgg hT, ha, extract_row hc hM, ← hv, aggF]
end
end Go.Gx

/- Plain laws of steps: trees with tests; what conditions are compiled to; no program in sight. -/
namespace Go.Gx.T8
open Go.Gx Go.Gx.T3 Go.Gx.T4

abbrev TD := Int × Int × Int
def tC (t : TD) : List Value := [.int .i64 t.1, .int .i64 t.2.1, .int .i64 t.2.2]
abbrev t0 : TD := (0, 0, 0)
/-- A step but for what stands below it. -/
structure SH where
  k : Int
  k0 : Int
  k1 : Int
  k2 : Int
  ts : List TD
inductive ST where
  | mk (h : SH) (subs : List ST)
def ST.h : ST → SH | .mk h _ => h
def ST.subs : ST → List ST | .mk _ l => l
abbrev SVal := ST × Value × Value
abbrev s0 : SVal := (.mk ⟨0, 0, 0, 0, []⟩ [], .slice none 0 0, .slice none 0 0)
def sC (p : SVal) : List Value := [.int .i64 p.1.h.k, .int .i64 p.1.h.k0, .int .i64 p.1.h.k1, .int .i64 p.1.h.k2, p.2.1, p.2.2]
/-- The value v is a slice of steps. -/
inductive Ss (G : Ghost) : Value → List ST → Prop
  | mk {v : Value} (rs : List SVal) (h : SlL G v 6 sC s0 rs) (ht : ∀ p ∈ rs, SlL G p.2.1 3 tC t0 p.1.h.ts) (hs : ∀ p ∈ rs, Ss G p.2.2 p.1.subs) : Ss G v (rs.map Prod.fst)
theorem Ss.inv {G : Ghost} {v : Value} {l : List ST} (h : Ss G v l) : ∃ rs : List SVal, SlL G v 6 sC s0 rs ∧ (∀ p ∈ rs, SlL G p.2.1 3 tC t0 p.1.h.ts) ∧ (∀ p ∈ rs, Ss G p.2.2 p.1.subs) ∧ l = rs.map Prod.fst := by
  cases h with
  | mk rs h ht hs => exact ⟨rs, h, ht, hs, rfl⟩
theorem Ss.mono {G G' : Ghost} {v : Value} {l : List ST} (h : Ss G v l) (hle : GLe G G') : Ss G' v l := by
  induction h with
  | mk rs h ht _ ih => exact .mk rs (h.mono hle) (fun p hp => (ht p hp).mono hle) ih
theorem Ss.one {G : Ghost} {v : Value} {l : List ST} (h : Ss G v l) : v.oneCell' = true := by
  cases h with
  | mk rs h _ _ => exact h.one
theorem Ss.nil {G : Ghost} : Ss G (.slice none 0 0) [] := Ss.mk [] (SlG.nil _ _ _) (by simp) (by simp)

/-- A part of a slice of trees, from its beginning on. -/
theorem Tr.take {α : Type} {subs : α → List α} {cf : α × Value → List Value} {sz k : Nat} {d : α × Value} {G : Ghost} {v : Value} {rs : List (α × Value)} (hk : k ≤ rs.length) (h : SlG G v k sz (fun i => at_ (cf (rs.getD i d)))) (hs : ∀ p ∈ rs, Tr subs cf sz d G p.2 (subs p.1)) : SlL G v sz cf d (rs.take k) ∧ Tr subs cf sz d G v ((rs.take k).map Prod.fst) := by
  have h1 : SlL G v sz cf d (rs.take k) := by
    unfold SlL
    rw [List.length_take, Nat.min_eq_left hk]
    refine h.congr fun i hi j _ => ?_
    simp [List.getD, List.getElem?_take, hi]
  exact ⟨h1, Tr.mk _ h1 fun p hp => hs p (List.mem_of_mem_take hp)⟩

theorem rv_ones {G : Ghost} {rs : List (CT × Value)} (hp : ∀ p ∈ rs, Rs G p.2 p.1.subs) : ∀ i, i < rs.length → ∀ j, j < 8 → (at_ (rvC (rs.getD i d0)) j).oneCell' = true := by
  intro i hi j hj
  have h := (hp _ (getD_mem (d := d0) hi)).one
  match j, hj with
  | 0, _ => rfl
  | 1, _ => rfl
  | 2, _ => rfl
  | 3, _ => rfl
  | 4, _ => rfl
  | 5, _ => rfl
  | 6, _ => rfl
  | 7, _ => exact h

/-! ### where a variable is bound -/
def firstF (h : Hd) (v : Int) : Option Int :=
  if h.v0 = true ∧ h.n0 = v then some 0 else if h.v1 = true ∧ h.n1 = v then some 1 else if h.v2 = true ∧ h.n2 = v then some 2 else none
def bound (v : Int) : List CT → Int → Option (Int × Int)
  | [], _ => none
  | c :: t, b => if c.h.k = 1 then (match firstF c.h v with | some f => some (b, f) | none => bound v t (b + 1)) else bound v t b
theorem bound_skip {v b : Int} {c : CT} {t : List CT} (h : c.h.k ≠ 1) : bound v (c :: t) b = bound v t b := by rw [bound, if_neg h]
theorem bound_next {v b : Int} {c : CT} {t : List CT} (h : c.h.k = 1) (hf : firstF c.h v = none) : bound v (c :: t) b = bound v t (b + 1) := by rw [bound, if_pos h, hf]
theorem bound_here {v b f : Int} {c : CT} {t : List CT} (h : c.h.k = 1) (hf : firstF c.h v = some f) : bound v (c :: t) b = some (b, f) := by rw [bound, if_pos h, hf]
theorem firstF_at {h : Hd} {v : Int} (f : Int) (e : (f = 0 ∧ vi h.v0 = 1 ∧ h.n0 = v) ∨ (f = 1 ∧ ¬ (vi h.v0 = 1 ∧ h.n0 = v) ∧ vi h.v1 = 1 ∧ h.n1 = v) ∨ (f = 2 ∧ ¬ (vi h.v0 = 1 ∧ h.n0 = v) ∧ ¬ (vi h.v1 = 1 ∧ h.n1 = v) ∧ vi h.v2 = 1 ∧ h.n2 = v)) : firstF h v = some f := by
  have b0 : vi h.v0 = 1 ↔ h.v0 = true := by cases h.v0 <;> simp [vi]
  have b1 : vi h.v1 = 1 ↔ h.v1 = true := by cases h.v1 <;> simp [vi]
  have b2 : vi h.v2 = 1 ↔ h.v2 = true := by cases h.v2 <;> simp [vi]
  rw [b0, b1, b2] at e
  unfold firstF
  rcases e with ⟨rfl, e⟩ | ⟨rfl, e1, e⟩ | ⟨rfl, e1, e2, e⟩
  · rw [if_pos e]
  · rw [if_neg e1, if_pos e]
  · rw [if_neg e1, if_neg e2, if_pos e]
theorem firstF_no {h : Hd} {v : Int} (e : ¬ (vi h.v0 = 1 ∧ h.n0 = v) ∧ ¬ (vi h.v1 = 1 ∧ h.n1 = v) ∧ ¬ (vi h.v2 = 1 ∧ h.n2 = v)) : firstF h v = none := by
  have b0 : vi h.v0 = 1 ↔ h.v0 = true := by cases h.v0 <;> simp [vi]
  have b1 : vi h.v1 = 1 ↔ h.v1 = true := by cases h.v1 <;> simp [vi]
  have b2 : vi h.v2 = 1 ↔ h.v2 = true := by cases h.v2 <;> simp [vi]
  rw [b0, b1, b2] at e
  unfold firstF
  rw [if_neg e.1, if_neg e.2.1, if_neg e.2.2]
theorem firstF_lt {h : Hd} {v f : Int} (e : firstF h v = some f) : 0 ≤ f ∧ f ≤ 2 := by
  unfold firstF at e
  repeat' split at e
  all_goals simp at e
  all_goals omega
theorem bound_lt {v : Int} : ∀ {l : List CT} {b : Int} {x : Int × Int}, bound v l b = some x → (b ≤ x.1 ∧ x.1 < b + l.length) ∧ 0 ≤ x.2 ∧ x.2 ≤ 2
  | [], _, _, h => by simp [bound] at h
  | c :: t, b, x, h => by
    rw [bound] at h
    split at h
    · split at h
      · rename_i f hf
        simp at h; subst h
        have := firstF_lt hf
        simp; omega
      · have := bound_lt h; simp; omega
    · have := bound_lt h; simp; omega

/-! ### steps -/
def vF (h : Hd) : Nat → Bool | 0 => h.v0 | 1 => h.v1 | _ => h.v2
def nF (h : Hd) : Nat → Int | 0 => h.n0 | 1 => h.n1 | _ => h.n2
/-- Is term g what term f is? -/
def sameF (h : Hd) (g f : Nat) : Bool := decide (vF h g = vF h f) && decide (nF h g = nF h f)
/-- The first term ahead of term f, from g on, that is alike. -/
def dupF (h : Hd) (f : Nat) : Option Int := if f ≥ 1 ∧ sameF h 0 f = true then some 0 else if f ≥ 2 ∧ sameF h 1 f = true then some 1 else none
/-- The test of field f. -/
def testF (ch : List CT) (h : Hd) (f : Nat) : List TD :=
  if vF h f = true then (match bound (nF h f) ch 0 with
    | some x => [((f : Int), x.1, x.2)]
    | none => match dupF h f with | some g => [((f : Int), -1, g)] | none => []) else []
def testsTo (ch : List CT) (h : Hd) : Nat → List TD
  | 0 => []
  | f + 1 => testsTo ch h f ++ testF ch h f
theorem testsTo_succ (ch : List CT) (h : Hd) (f : Nat) : testsTo ch h (f + 1) = testsTo ch h f ++ testF ch h f := rfl
def keyTo (h : Hd) (f i : Nat) : Int := if i < f ∧ vF h i = false then nF h i else 0
mutual
def stepOf : List CT → CT → ST
  | ch, .mk h l => if h.k = 3 then .mk ⟨h.k, 0, 0, 0, []⟩ (stepsOf ch l) else .mk ⟨h.k, keyTo h 3 0, keyTo h 3 1, keyTo h 3 2, testsTo ch h 3⟩ []
def stepsOf : List CT → List CT → List ST
  | _, [] => []
  | ch, c :: t => stepOf ch c :: stepsOf (ch ++ [c]) t
end
theorem stepOf_ncc {ch : List CT} {c : CT} (h : c.h.k = 3) : stepOf ch c = .mk ⟨c.h.k, 0, 0, 0, []⟩ (stepsOf ch c.subs) := by
  cases c with | mk hd l => have h' : hd.k = 3 := h; rw [stepOf, if_pos h']; rfl
theorem stepOf_other {ch : List CT} {c : CT} (h : c.h.k ≠ 3) : stepOf ch c = .mk ⟨c.h.k, keyTo c.h 3 0, keyTo c.h 3 1, keyTo c.h 3 2, testsTo ch c.h 3⟩ [] := by
  cases c with | mk hd l => have h' : hd.k ≠ 3 := h; rw [stepOf, if_neg h']; rfl
theorem stepsOf_append (a b : List CT) : ∀ ch, stepsOf ch (a ++ b) = stepsOf ch a ++ stepsOf (ch ++ a) b := by
  induction a with
  | nil => intro ch; simp [stepsOf]
  | cons c t ih => intro ch; simp [stepsOf, ih]
theorem stepsOf_len : ∀ (l ch : List CT), (stepsOf ch l).length = l.length
  | [], _ => by simp [stepsOf]
  | c :: t, ch => by simp [stepsOf, stepsOf_len t]
theorem stepsOf_take {rs : List (CT × Value)} {k : Nat} {ch : List CT} (hk : k < rs.length) : stepsOf ch ((rs.map Prod.fst).take (k + 1)) = stepsOf ch ((rs.map Prod.fst).take k) ++ [stepOf (ch ++ (rs.map Prod.fst).take k) (rs.getD k d0).1] := by
  rw [map_take (d := d0) hk, stepsOf_append]; simp [stepsOf]
theorem testsTo_len (ch : List CT) (h : Hd) : ∀ f, (testsTo ch h f).length ≤ f
  | 0 => Nat.le_refl _
  | f + 1 => by
    have := testsTo_len ch h f
    have h2 : (testF ch h f).length ≤ 1 := by
      unfold testF; repeat' split
      all_goals simp
    rw [testsTo, List.length_append]; omega
theorem same_cs (h : Hd) (g f : Nat) : csEq [.int .i64 (vi (vF h g)), .int .i64 (nF h g)] [.int .i64 (vi (vF h f)), .int .i64 (nF h f)] = sameF h g f := by
  unfold sameF
  cases vF h g <;> cases vF h f <;> simp [csEq, cEq, vi]
theorem vF_no {h : Hd} {f : Nat} (e : vi (vF h f) = 0) : vF h f = false := by cases x : vF h f <;> simp_all [vi]
theorem vF_yes {h : Hd} {f : Nat} (e : ¬ vi (vF h f) = 0) : vF h f = true := by cases x : vF h f <;> simp_all [vi]
theorem T1 {ch : List CT} {h : Hd} {f : Nat} (hv : vF h f = false) : testF ch h f = [] := by unfold testF; rw [if_neg (by rw [hv]; decide)]
theorem T2 {ch : List CT} {h : Hd} {f : Nat} (hv : vF h f = true) (hb : (bound (nF h f) ch 0).isSome = true) : testF ch h f = [((f : Int), ((bound (nF h f) ch 0).getD (0, 0)).1, ((bound (nF h f) ch 0).getD (0, 0)).2)] := by
  unfold testF
  obtain ⟨x, hx⟩ := Option.isSome_iff_exists.1 hb
  rw [if_pos hv, hx]; rfl
theorem T3 {ch : List CT} {h : Hd} {f : Nat} {g : Int} (hv : vF h f = true) (hb : (bound (nF h f) ch 0).isSome = false) (hd : dupF h f = some g) : testF ch h f = [((f : Int), -1, g)] := by
  unfold testF
  have hn : bound (nF h f) ch 0 = none := by
    cases e : bound (nF h f) ch 0 with
    | none => rfl
    | some x => rw [e] at hb; cases hb
  rw [if_pos hv, hn, hd]
theorem T4 {ch : List CT} {h : Hd} {f : Nat} (hv : vF h f = true) (hb : (bound (nF h f) ch 0).isSome = false) (hd : dupF h f = none) : testF ch h f = [] := by
  unfold testF
  have hn : bound (nF h f) ch 0 = none := by
    cases e : bound (nF h f) ch 0 with
    | none => rfl
    | some x => rw [e] at hb; cases hb
  rw [if_pos hv, hn, hd]
theorem dup0 (h : Hd) : dupF h 0 = none := by simp [dupF]
theorem dup1_yes {h : Hd} (s : sameF h 0 1 = true) : dupF h 1 = some 0 := by simp [dupF, s]
theorem dup1_no {h : Hd} (s : sameF h 0 1 = false) : dupF h 1 = none := by simp [dupF, s]
theorem dup2_0 {h : Hd} (s : sameF h 0 2 = true) : dupF h 2 = some 0 := by simp [dupF, s]
theorem dup2_1 {h : Hd} (s : sameF h 0 2 = false) (s' : sameF h 1 2 = true) : dupF h 2 = some 1 := by simp [dupF, s, s']
theorem dup2_no {h : Hd} (s : sameF h 0 2 = false) (s' : sameF h 1 2 = false) : dupF h 2 = none := by simp [dupF, s, s']
theorem key_set {h : Hd} {f : Nat} (hv : vF h f = false) : keyTo h (f + 1) f = nF h f := by unfold keyTo; rw [if_pos ⟨by omega, hv⟩]
theorem key_not {h : Hd} {f : Nat} (hv : vF h f = true) : keyTo h (f + 1) f = 0 := by unfold keyTo; rw [if_neg (by simp [hv])]
theorem key_else {h : Hd} {f i : Nat} (hi : i ≠ f) : keyTo h (f + 1) i = keyTo h f i := by
  unfold keyTo
  by_cases e : i < f
  · have e2 : i < f + 1 := by omega
    simp [e, e2]
  · have e2 : ¬ i < f + 1 := by omega
    simp [e, e2]

/-! ### right conditions, and few -/
def fineL (l : List CT) : Bool := (small 18 (.mk h0 l) 5 0).1 && ((l.all fun c => decide (check c 1 = 0)) && decide (sizeL l ≤ 16))
theorem fineL_small {l : List CT} (h : (small 18 (.mk h0 l) 5 0).1 = false) : fineL l = false := by rw [fineL, h]; rfl
theorem fineL_bad {l : List CT} {c : CT} (hc : c ∈ l) (h : check c 1 ≠ 0) : fineL l = false := by
  rw [← Bool.not_eq_true]
  intro e
  simp only [fineL, Bool.and_eq_true, List.all_eq_true, decide_eq_true_eq] at e
  exact h (e.2.1 c hc)
theorem fineL_end {l : List CT} (h : (small 18 (.mk h0 l) 5 0).1 = true) (ha : ∀ c ∈ l, check c 1 = 0) : fineL l = decide (sizeL l ≤ 16) := by
  rw [fineL, h, List.all_eq_true.2 (fun c hc => decide_eq_true (ha c hc))]; rfl
theorem fineL_yes {l : List CT} (h : fineL l = true) : (∀ c ∈ l, check c 1 = 0) ∧ sizeL l ≤ 16 := by
  simp only [fineL, Bool.and_eq_true, List.all_eq_true, decide_eq_true_eq] at h
  exact ⟨h.2.1, h.2.2⟩
theorem fine_size {l : List CT} (h : (small 18 (.mk h0 l) 5 0).1 = true) : sizeL l ≤ 1000 := by
  have := small_le (m := 18) h
  rw [size_eq] at this
  have e : (CT.mk h0 l).subs = l := rfl
  rw [e] at this; omega
end Go.Gx.T8
namespace Go.Gx.T8
open Go.Gx Go.Gx.T3 Go.Gx.T4
theorem Tr.take2 {α : Type} {subs : α → List α} {cf : α × Value → List Value} {sz k : Nat} {d : α × Value} {G : Ghost} {v : Value} {rs : List (α × Value)} (hk : k ≤ rs.length) (h : SlG G v k sz (fun i => at_ (cf (rs.getD i d)))) (hs : ∀ p ∈ rs, Tr subs cf sz d G p.2 (subs p.1)) : Tr subs cf sz d G v ((rs.map Prod.fst).take k) := by
  rw [← List.map_take]; exact (Tr.take hk h hs).2
theorem Ss.len {G : Ghost} {v : Value} {l : List ST} (h : Ss G v l) : ∃ a cap, v = .slice a l.length cap := by
  cases h with
  | mk rs h _ _ => obtain ⟨a, c, e⟩ := SlG.len h; exact ⟨a, c, by simpa using e⟩
mutual
/-- How many steps and tests there are. -/
def ssz : ST → Nat
  | .mk h l => 1 + h.ts.length + sszL l
def sszL : List ST → Nat
  | [] => 0
  | s :: t => ssz s + sszL t
end
theorem ssz_eq (s : ST) : ssz s = 1 + s.h.ts.length + sszL s.subs := by cases s; rw [ssz]; rfl
theorem sszL_len : ∀ l : List ST, l.length ≤ sszL l
  | [] => Nat.le_refl _
  | s :: t => by have := sszL_len t; have := ssz_eq s; rw [sszL]; simp; omega
theorem sszL_mem : ∀ {l : List ST} {x : ST}, x ∈ l → ssz x ≤ sszL l
  | c :: t, x, h => by
    rw [sszL]
    rcases List.mem_cons.1 h with rfl | h
    · omega
    · have := sszL_mem h; omega
theorem sv_mem {rs : List SVal} {k : Nat} (hk : k < rs.length) : (rs.getD k s0).1 ∈ rs.map Prod.fst := List.mem_map.2 ⟨_, getD_mem hk, rfl⟩
theorem sv_take {rs : List SVal} {k : Nat} (hk : k < rs.length) : (rs.map Prod.fst).take (k + 1) = (rs.map Prod.fst).take k ++ [(rs.getD k s0).1] := by
  rw [List.take_succ_eq_append_getElem (by simpa using hk)]
  simp [List.getD, List.getElem?_eq_getElem hk]
theorem sv_at {l : List ST} {rs : List SVal} {k n : Nat} (hl : l = rs.map Prod.fst) (hk : k < rs.length) (hz : SizeOf.sizeOf l ≤ n + 1) : SizeOf.sizeOf (rs.getD k s0).1.subs ≤ n := by
  have h1 : (rs.getD k s0).1 ∈ l := by rw [hl]; exact sv_mem hk
  have h2 := List.sizeOf_lt_of_mem h1
  have h3 : SizeOf.sizeOf (rs.getD k s0).1.subs < SizeOf.sizeOf (rs.getD k s0).1 := by
    cases (rs.getD k s0).1 with
    | mk h l => simp [ST.subs]; omega
  omega
theorem ts_next {ts : List TD} {j : Nat} (hj : j < ts.length) : ts.take (j + 1) = ts.take j ++ [ts.getD j t0] := by
  rw [List.take_succ_eq_append_getElem hj]; simp [List.getD, List.getElem?_eq_getElem hj]
mutual
theorem ssz_of : ∀ (c : CT) (ch : List CT), ssz (stepOf ch c) ≤ 4 * size c
  | .mk h l, ch => by
    rw [stepOf, size]
    split
    · have := sszL_of l ch
      rw [ssz]; simp; omega
    · have := testsTo_len ch h 3
      rw [ssz, sszL]; simp; omega
theorem sszL_of : ∀ (l : List CT) (ch : List CT), sszL (stepsOf ch l) ≤ 4 * sizeL l
  | [], _ => by simp [stepsOf, sszL]
  | c :: t, ch => by
    have h1 := ssz_of c ch
    have h2 := sszL_of t (ch ++ [c])
    rw [stepsOf, sszL, sizeL]; omega
end
end Go.Gx.T8

/- Plain laws of tests: whether a fact meets a step; no program in sight. -/
namespace Go.Gx.T13
open Go.Gx Go.Gx.T3 Go.Gx.T4 Go.Gx.T8

abbrev z3 : Tri := (0, 0, 0)
def hasK (t k : Tri) : Bool := decide ((k.1 = 0 ∨ k.1 = t.1) ∧ (k.2.1 = 0 ∨ k.2.1 = t.2.1) ∧ (k.2.2 = 0 ∨ k.2.2 = t.2.2))
def fld (t : Tri) (i : Int) : Int := if i = 0 then t.1 else if i = 1 then t.2.1 else t.2.2
def holdsT (x : TD) (bs : List Tri) (t : Tri) : Bool :=
  if (bs.length : Int) ≤ x.2.1 then false else decide (fld t x.1 = fld (if 0 ≤ x.2.1 then bs.getD x.2.1.toNat z3 else t) x.2.2)
theorem holds_out {f b o : Int} {bs : List Tri} {t : Tri} (h : (bs.length : Int) ≤ b) : holdsT (f, b, o) bs t = false := by rw [holdsT, if_pos h]
theorem holds_back {f o : Int} {b : Nat} {bs : List Tri} {t : Tri} (h : ¬ (bs.length : Int) ≤ (b : Int)) : holdsT (f, (b : Int), o) bs t = decide (fld t f = fld (bs.getD b z3) o) := by
  rw [holdsT, if_neg h, if_pos (by show (0 : Int) ≤ (b : Int); omega)]; rfl
theorem holds_own {f b o : Int} {bs : List Tri} {t : Tri} (h : b < 0) : holdsT (f, b, o) bs t = decide (fld t f = fld t o) := by
  rw [holdsT, if_neg (by show ¬ (bs.length : Int) ≤ b; omega), if_neg (by show ¬ (0 : Int) ≤ b; omega)]
/-- A test whose fields are fields. -/
structure OkT (x : TD) : Prop where
  f : x.1 = 0 ∨ x.1 = 1 ∨ x.1 = 2
  b : -1 ≤ x.2.1 ∧ x.2.1 ≤ 5000
  o : x.2.2 = 0 ∨ x.2.2 = 1 ∨ x.2.2 = 2
def meets (k : Int) (key : Tri) (ts : List TD) (bs : List Tri) (t : Tri) : Bool :=
  if k = 3 ∨ hasK t key = false then false else ts.all fun x => holdsT x bs t
theorem all_drop {ts : List TD} {p : TD → Bool} {k : Nat} (hk : k < ts.length) : (ts.drop k).all p = (p (ts.getD k t0) && (ts.drop (k + 1)).all p) := by
  rw [List.drop_eq_getElem_cons hk, List.all_cons]
  simp [List.getD, List.getElem?_eq_getElem hk]
theorem tri_drop {ts : List Tri} {p : Tri → Bool} {k : Nat} (hk : k < ts.length) : (ts.drop k).all p = (p (ts.getD k z3) && (ts.drop (k + 1)).all p) := by
  rw [List.drop_eq_getElem_cons hk, List.all_cons]
  simp [List.getD, List.getElem?_eq_getElem hk]
theorem SlL.part {α : Type} {G : Ghost} {v : Value} {sz k : Nat} {cells : α → List Value} {e : α} {l : List α} (hk : k ≤ l.length) (h : SlG G v k sz (fun i => at_ (cells (l.getD i e)))) : SlL G v sz cells e (l.take k) := by
  unfold SlL
  rw [List.length_take, Nat.min_eq_left hk]
  refine h.congr fun i hi j _ => ?_
  simp [List.getD, List.getElem?_take, hi]

/-! ### the tests of compiled conditions -/
theorem ok_testF {ch : List CT} {h : Hd} {f : Nat} (hf : f ≤ 2) (hc : ch.length ≤ 5000) {x : TD} (hx : x ∈ testF ch h f) : OkT x := by
  unfold testF at hx
  split at hx
  · split at hx
    · rename_i y hy
      have hb := bound_lt hy
      rw [List.mem_singleton.1 hx]
      exact ⟨by dsimp only; omega, by dsimp only; omega, by dsimp only; omega⟩
    · split at hx
      · rename_i g hg
        rw [List.mem_singleton.1 hx]
        have : g = 0 ∨ g = 1 := by
          unfold dupF at hg
          split at hg
          · simp at hg; omega
          · split at hg
            · simp at hg; omega
            · simp at hg
        exact ⟨by dsimp only; omega, by dsimp only; omega, by dsimp only; omega⟩
      · cases hx
  · cases hx
theorem ok_testsTo {ch : List CT} {h : Hd} (hc : ch.length ≤ 5000) : ∀ f, f ≤ 3 → ∀ x ∈ testsTo ch h f, OkT x
  | 0, _, x, hx => by cases hx
  | f + 1, hf, x, hx => by
    rw [testsTo_succ] at hx
    rcases List.mem_append.1 hx with hx | hx
    · exact ok_testsTo hc f (by omega) x hx
    · exact ok_testF (by omega) hc hx
theorem ok_stepOf {ch : List CT} {c : CT} (hc : ch.length ≤ 5000) : ∀ x ∈ (stepOf ch c).h.ts, OkT x := by
  intro x hx
  by_cases h : c.h.k = 3
  · rw [stepOf_ncc h] at hx; cases hx
  · rw [stepOf_other h] at hx; exact ok_testsTo hc 3 (by omega) x hx
theorem ok_stepsOf : ∀ (l ch : List CT), ch.length + l.length ≤ 5000 → ∀ s ∈ stepsOf ch l, ∀ x ∈ s.h.ts, OkT x
  | [], ch, _, s, hs => by simp [stepsOf] at hs
  | c :: t, ch, hc, s, hs => by
    rw [stepsOf] at hs
    simp only [List.length_cons] at hc
    rcases List.mem_cons.1 hs with rfl | hs
    · exact ok_stepOf (by omega)
    · exact ok_stepsOf t (ch ++ [c]) (by simp; omega) s hs

/-! ### what a step needs -/
structure Need (ts : List TD) (n : Nat) : Prop where
  up : ∀ x ∈ ts, x.2.1 + 1 ≤ n
  at_ : n = 0 ∨ ∃ x ∈ ts, x.2.1 + 1 = n
theorem Need.nil : Need [] 0 := ⟨by simp, .inl rfl⟩
theorem Need.next {ts : List TD} {k n : Nat} (h : Need (ts.take k) n) (hk : k < ts.length) : Need (ts.take (k + 1)) (max n ((ts.getD k t0).2.1 + 1).toNat) := by
  rw [ts_next hk]
  refine ⟨fun x hx => ?_, ?_⟩
  · rcases List.mem_append.1 hx with hx | hx
    · have := h.up x hx; omega
    · rw [List.mem_singleton.1 hx]; omega
  · rcases Nat.le_total ((ts.getD k t0).2.1 + 1).toNat n with c | c
    · rw [Nat.max_eq_left c]
      rcases h.at_ with e | ⟨x, hx, e⟩
      · exact .inl e
      · exact .inr ⟨x, List.mem_append.2 (.inl hx), e⟩
    · rw [Nat.max_eq_right c]
      by_cases z : ((ts.getD k t0).2.1 + 1).toNat = 0
      · exact .inl z
      · exact .inr ⟨_, List.mem_append.2 (.inr (List.mem_singleton.2 rfl)), by omega⟩
/-- Behind fewer than it needs nothing meets it. -/
theorem need_none {k : Int} {key : Tri} {ts : List TD} {t : Tri} {n m : Nat} (h : Need ts n) (hn : m < n) : meets k key ts [] t = false := by
  unfold meets
  split
  · rfl
  · rcases h.at_ with e | ⟨x, hx, e⟩
    · omega
    · rw [← Bool.not_eq_true]
      intro ha
      have h1 := List.all_eq_true.1 ha x hx
      obtain ⟨f, b, o⟩ := x
      rw [holds_out (by simp only [List.length_nil] at *; omega)] at h1
      cases h1
/-- More than it needs changes nothing. -/
theorem need_enough {k : Int} {key : Tri} {ts : List TD} {bs : List Tri} {t : Tri} {n : Nat} (h : Need ts n) (hn : n ≤ bs.length) : meets k key ts (bs.take n) t = meets k key ts bs t := by
  unfold meets
  split
  · rfl
  · rw [Bool.eq_iff_iff, List.all_eq_true, List.all_eq_true]
    have key2 : ∀ x ∈ ts, holdsT x (bs.take n) t = holdsT x bs t := by
      intro x hx
      have h1 := h.up x hx
      obtain ⟨f, b, o⟩ := x
      dsimp only at h1
      by_cases hb : b < 0
      · rw [holds_own hb, holds_own hb]
      · obtain ⟨m, rfl⟩ : ∃ m : Nat, b = (m : Int) := ⟨b.toNat, by omega⟩
        rw [holds_back (by rw [List.length_take]; omega), holds_back (by omega)]
        have : (bs.take n).getD m z3 = bs.getD m z3 := by simp [List.getD, List.getElem?_take, show m < n by omega]
        rw [this]
    exact ⟨fun ha x hx => by rw [← key2 x hx]; exact ha x hx, fun ha x hx => by rw [key2 x hx]; exact ha x hx⟩
end Go.Gx.T13
namespace Go.Gx.T13
open Go.Gx Go.Gx.T3 Go.Gx.T4 Go.Gx.T8
abbrev FD := Int × Tri
def fC (f : FD) : List Value := [.int .i64 f.1, .int .i64 f.2.1, .int .i64 f.2.2.1, .int .i64 f.2.2.2]
abbrev f0 : FD := (0, z3)
/-- The facts that meet a step. -/
def which (k : Int) (key : Tri) (ts : List TD) (bs : List Tri) (fs : List FD) : List Int := (fs.filter fun f => meets k key ts bs f.2).map Prod.fst
theorem which_yes {k : Int} {key : Tri} {ts : List TD} {bs : List Tri} {fs : List FD} {j : Nat} (hj : j < fs.length) (h : meets k key ts bs (fs.getD j f0).2 = true) : which k key ts bs (fs.take (j + 1)) = which k key ts bs (fs.take j) ++ [(fs.getD j f0).1] := by
  have e : fs.getD j f0 = fs[j] := by simp [List.getD, List.getElem?_eq_getElem hj]
  rw [e] at h ⊢
  unfold which
  rw [List.take_succ_eq_append_getElem hj, List.filter_append, List.map_append]
  congr 1
  rw [List.filter_cons, if_pos h]; rfl
theorem which_no {k : Int} {key : Tri} {ts : List TD} {bs : List Tri} {fs : List FD} {j : Nat} (hj : j < fs.length) (h : meets k key ts bs (fs.getD j f0).2 = false) : which k key ts bs (fs.take (j + 1)) = which k key ts bs (fs.take j) := by
  have e : fs.getD j f0 = fs[j] := by simp [List.getD, List.getElem?_eq_getElem hj]
  rw [e] at h
  unfold which
  rw [List.take_succ_eq_append_getElem hj, List.filter_append, List.map_append, List.filter_cons, if_neg (by rw [h]; decide)]
  simp
theorem which_len (k : Int) (key : Tri) (ts : List TD) (bs : List Tri) (fs : List FD) : (which k key ts bs fs).length ≤ fs.length := by
  unfold which; rw [List.length_map]; exact List.length_filter_le _ _
theorem meets_ncc {key : Tri} {ts : List TD} {bs : List Tri} {t : Tri} : meets 3 key ts bs t = false := by unfold meets; rw [if_pos (.inl rfl)]
theorem which_ncc {key : Tri} {ts : List TD} {bs : List Tri} {fs : List FD} : which 3 key ts bs fs = [] := by
  unfold which
  rw [show fs.filter (fun f => meets 3 key ts bs f.2) = [] from List.filter_eq_nil_iff.2 (fun f _ => by rw [meets_ncc]; decide)]; rfl
theorem meets_kinds {key : Tri} {ts : List TD} {bs : List Tri} {t : Tri} : meets 1 key ts bs t = meets 2 key ts bs t := by unfold meets; simp
end Go.Gx.T13

/-
  GX: a range over a map of the call's own that stays as it is meanwhile. Generic in the program.
-/
namespace Go.Gx
open Go.RowKit Go.MapKept

section
variable {κ ν : Type} {ke : κ → Value} {ve : ν → Value}

def ranA (m r : Nat) (ke : κ → Value) (ve : ν → Value) (l lft : List (κ × ν)) : Asrt where
  holds w F := (∃ es clock since c0 seen, MapIs w m ke ve l es clock ∧ w.heap[r]? = some (.mapIter (some m) since seen c0) ∧ (∀ x ∈ es.toList, x.born < since) ∧ since ≤ c0 ∧ since ≤ clock ∧
    (es.toList.filter fun e => !seen.contains e.born).map kv = lft.map (enc ke ve)) ∧ ∀ b, F b ↔ b = m ∨ b = r
  frame := by
    rintro w w' F ⟨⟨es, c, s, c0, se, h1, h2, h3⟩, hF⟩ hk
    exact ⟨⟨es, c, s, c0, se, ⟨by rw [hk m ((hF m).2 (.inl rfl))]; exact h1.heap, h1.st, h1.eq⟩, by rw [hk r ((hF r).2 (.inr rfl))]; exact h2, h3⟩, hF⟩
  dom := by
    rintro w F b ⟨⟨es, c, s, c0, se, h1, h2, _⟩, hF⟩ hb
    rcases (hF b).1 hb with rfl | rfl
    · exact lt_of_heap h1.heap
    · exact lt_of_heap h2

/-- The same, just behind a step that yielded p. -/
def ranE (m r : Nat) (ke : κ → Value) (ve : ν → Value) (l lft : List (κ × ν)) (p : κ × ν) : Asrt where
  holds w F := (∃ es clock since seen, MapIs w m ke ve l es clock ∧ w.heap[r]? = some (.mapIter (some m) since seen clock) ∧ (∀ x ∈ es.toList, x.born < since) ∧ since ≤ clock ∧
    (es.toList.filter fun e => !seen.contains e.born).map kv = lft.map (enc ke ve) ∧ ∃ e ∈ es.toList, ∃ s0 : Array Nat, seen = s0.push e.born ∧ kv e = enc ke ve p) ∧ ∀ b, F b ↔ b = m ∨ b = r
  frame := by
    rintro w w' F ⟨⟨es, c, s, se, h1, h2, h3⟩, hF⟩ hk
    exact ⟨⟨es, c, s, se, ⟨by rw [hk m ((hF m).2 (.inl rfl))]; exact h1.heap, h1.st, h1.eq⟩, by rw [hk r ((hF r).2 (.inr rfl))]; exact h2, h3⟩, hF⟩
  dom := by
    rintro w F b ⟨⟨es, c, s, se, h1, h2, _⟩, hF⟩ hb
    rcases (hF b).1 hb with rfl | rfl
    · exact lt_of_heap h1.heap
    · exact lt_of_heap h2

theorem ranE_A {m r : Nat} {l lft : List (κ × ν)} {p : κ × ν} {w : World} {F : Nat → Prop} (h : (ranE m r ke ve l lft p).holds w F) : (ranA m r ke ve l lft).holds w F := by
  obtain ⟨⟨es, c, s, se, h1, h2, h3, h4, h5, _⟩, hF⟩ := h
  exact ⟨⟨es, c, s, c, se, h1, h2, h3, h4, h4, h5⟩, hF⟩

variable {P : Program} {ops : Array Oper} {Q : Exit → Act → World → Prop} {N : Nat} {X : Nat → Prop} {w0 : World} {G : Ghost} {l : List (Nat × Value)} {L : List Asrt}
variable {rest : List Oper} {d i m r : Nat} {ty : TypeId} {pos : String} {after : Array Edge} {gd : Option (Nat × Bool)} {x : Operand} {T K E : TypeId} {mv lft : List (κ × ν)}

theorem r_range_map (hw : Wt ops l gd) (hd : Nat.blt d N = true) (hT : P.underlying T = some (.map K E)) (hx : ev l x = some (.map (some m))) (hL : L[i]? = some (mapA m ke ve mv))
    (h : ∀ r, Runs P ops Q N X w0 G rest ((d, .pointer (some ⟨r, 0, none⟩)) :: l) (L.set i (ranA m r ke ve mv mv))) : Runs P ops Q N X w0 G (⟨some d, .range T x, ty, pos, after, gd⟩ :: rest) l L := by
  refine Runs.step hw (fun a w hS => ?_)
  show Oper.upon P _ a _ Q _
  obtain ⟨F, ⟨⟨es, c, hm⟩, hF⟩, _, hput⟩ := hS.mem.take hL
  have hr : (execOp a.eval ⟨some d, .range T x, ty, pos, after, gd⟩).run P w = .ok (.value (.pointer (some ⟨w.heap.size, 0, none⟩))) (w.alloc (.mapIter (some m) c #[] c)) := by
    simp only [execOp, hS.fr.eval hx]
    simp [Instr.range, run_underlying hT, run_getObj_map' hm.heap]
  rw [hr, Oper.upon_value]
  have hlt := lt_of_heap hm.heap
  refine h _ _ _ ⟨hS.fr.put (by simpa using hd) _, hput _ _ (fun b => b = m ∨ b = w.heap.size) ?_ ⟨⟨es, c, c, c, #[], ⟨((heap_alloc w _).2 m hlt).trans hm.heap, hm.st, hm.eq⟩, (heap_alloc w _).1, hm.st.1, Nat.le_refl _, Nat.le_refl _, ?_⟩, fun b => Iff.rfl⟩ (fun b hb => ?_)⟩
  · exact ⟨rfl, rfl, rfl, by simp, fun k hk _ => (heap_alloc w _).2 k hk⟩
  · rw [← hm.eq]
    congr 1
    exact List.filter_eq_self.2 (fun e _ => by simp)
  · rcases hb with rfl | rfl
    · exact .inl ((hF _).2 rfl)
    · exact .inr (Nat.le_refl _)

theorem split_at {α β γ : Type} {f : α → γ} {g : β → γ} : ∀ {A : List α} {B : List β} {e : α}, A.map f = B.map g → e ∈ A → ∃ a1 a2 b1 p b2, A = a1 ++ e :: a2 ∧ B = b1 ++ p :: b2 ∧ a1.map f = b1.map g ∧ f e = g p ∧ a2.map f = b2.map g
  | [], _, _, _, h => by simp at h
  | x :: A, [], _, h, _ => by simp at h
  | x :: A, y :: B, e, h, he => by
    simp only [List.map_cons, List.cons.injEq] at h
    rcases List.mem_cons.1 he with rfl | he
    · exact ⟨[], A, [], y, B, rfl, rfl, rfl, h.1, h.2⟩
    · obtain ⟨a1, a2, b1, p, b2, h1, h2, h3, h4, h5⟩ := split_at h.2 he
      exact ⟨x :: a1, a2, y :: b1, p, b2, by rw [h1]; rfl, by rw [h2]; rfl, by simp [h.1, h3], h4, h5⟩

theorem r_next_map {ity : TypeId} (hw : Wt ops l gd) (hd : Nat.blt d N = true) (hx : ev l x = some (.pointer (some ⟨r, 0, none⟩))) (hL : L[i]? = some (ranA m r ke ve mv lft))
    (h1 : ∀ a p b, lft = a ++ p :: b → Runs P ops Q N X w0 G rest ((d, .tuple #[.bool true, ke p.1, ve p.2]) :: l) (L.set i (ranE m r ke ve mv (a ++ b) p)))
    (h0 : lft = [] → Runs P ops Q N X w0 G rest ((d, .tuple #[.bool false]) :: l) L) : Runs P ops Q N X w0 G (⟨some d, .next x false, ity, pos, after, gd⟩ :: rest) l L := by
  refine Runs.step hw (fun a w hS => ?_)
  show Oper.upon P _ a _ Q _
  obtain ⟨F, ⟨⟨es, c, since, c0, seen, hm, hr, hold, hsc, hsk, hl⟩, hF⟩, _, hput⟩ := hS.mem.take hL
  have hne : r ≠ m := fun e => by rw [e, hm.heap] at hr; cases hr
  rcases Go.run_next_at (P := P) w ity r m since c0 seen es c hr hm.heap hold hsc with ⟨hz, hrun⟩ | ⟨e, he, w1, hw1, hrun⟩
  · have hr' : (execOp a.eval ⟨some d, .next x false, ity, pos, after, gd⟩).run P w = .ok (.value (.tuple #[.bool false])) w := by
      simp only [execOp, hS.fr.eval hx]
      simp [hrun]
    rw [hr', Oper.upon_value]
    have hnil : lft = [] := by
      have : (es.toList.filter fun e => !seen.contains e.born).length = 0 := by
        rw [← Array.toList_filter, Array.length_toList]; exact hz
      have h2 := congrArg List.length hl
      rw [List.length_map, List.length_map, this] at h2
      exact List.eq_nil_of_length_eq_zero h2.symm
    exact h0 hnil _ _ ⟨hS.fr.put (by simpa using hd) _, hS.mem⟩
  · have hr' : (execOp a.eval ⟨some d, .next x false, ity, pos, after, gd⟩).run P w = .ok (.value (.tuple #[.bool true, e.key, e.val])) (ChangeMaps.setBlock w1 r (.mapIter (some m) since (seen.push e.born) c)) := by
      simp only [execOp, hS.fr.eval hx]
      simp [hrun]
    rw [hr', Oper.upon_value]
    have he' : e ∈ es.toList.filter fun e => !seen.contains e.born := by rw [← Array.toList_filter]; exact he
    obtain ⟨a1, a2, b1, p, b2, e1, e2, e3, e4, e5⟩ := split_at hl he'
    have hkv : ke p.1 = e.key ∧ ve p.2 = e.val := ⟨(congrArg Prod.fst e4).symm, (congrArg Prod.snd e4).symm⟩
    rw [← hkv.1, ← hkv.2]
    have hheap : w1.heap = w.heap := by rcases hw1 with rfl | rfl <;> rfl
    have hnd : ((es.toList.filter fun e => !seen.contains e.born).map (·.born)).Nodup := (List.filter_sublist.map _).nodup hm.st.2.1
    refine h1 b1 p b2 e2 _ _ ⟨hS.fr.put (by simpa using hd) _, hput _ _ (fun b => b = m ∨ b = r) ?_ ⟨⟨es, c, since, seen.push e.born, ⟨?_, hm.st, hm.eq⟩, ?_, hold, hsk, ?_, e, (List.mem_filter.1 he').1, seen, rfl, e4⟩, fun b => Iff.rfl⟩ (fun b hb => .inl ((hF b).2 hb))⟩
    · refine ⟨?_, ?_, ?_, ?_, fun k _ hk => ?_⟩
      · rcases hw1 with rfl | rfl <;> rfl
      · rcases hw1 with rfl | rfl <;> rfl
      · rcases hw1 with rfl | rfl <;> rfl
      · simp [ChangeMaps.setBlock, hheap]
      · have : r ≠ k := fun e => hk ((hF k).2 (.inr e.symm))
        simp [ChangeMaps.setBlock, hheap, this]
    · simp [ChangeMaps.setBlock, hheap, hne, hm.heap]
    · have := lt_of_heap hr
      simp [ChangeMaps.setBlock, hheap, this]
    · have e6 : (es.toList.filter fun x => !(seen.push e.born).contains x.born) = a1 ++ a2 := by
        have e7 : (es.toList.filter fun x => !(seen.push e.born).contains x.born) = (es.toList.filter fun x => !seen.contains x.born).filter (fun x => !(x.born == e.born)) := by
          rw [List.filter_filter]
          refine congrArg (fun f => es.toList.filter f) ?_
          funext x
          rw [show (seen.push e.born).contains x.born = (seen.contains x.born || x.born == e.born) from by rw [Array.contains_push] <;> simp [Bool.or_comm]]
          cases seen.contains x.born <;> cases (x.born == e.born) <;> rfl
        rw [e7, e1] at *
        rw [e1, List.map_append, List.map_cons] at hnd
        rw [List.filter_append, List.filter_cons]
        simp only [beq_self_eq_true, Bool.not_true, Bool.false_eq_true, if_false]
        have h2 := List.nodup_append.1 hnd
        have h3 := List.nodup_cons.1 h2.2.1
        congr 1
        · refine List.filter_eq_self.2 (fun x hx => ?_)
          have : x.born ≠ e.born := h2.2.2 _ (List.mem_map.2 ⟨x, hx, rfl⟩) _ (by simp)
          simpa using this
        · refine List.filter_eq_self.2 (fun x hx => ?_)
          have : x.born ≠ e.born := fun e8 => h3.1 (by rw [← e8]; exact List.mem_map.2 ⟨x, hx, rfl⟩)
          simpa using this
      rw [e6, List.map_append, List.map_append, e3, e5]

theorem p_entry {p : κ × ν} (hx : ev l x = some (.pointer (some ⟨r, 0, none⟩))) (hL : L[i]? = some (ranE m r ke ve mv lft p)) :
    PV P N X w0 G l L ⟨some d, .entry x, ty, pos, after, gd⟩ (.tuple #[ke p.1, ve p.2]) := by
  intro ac w hS
  obtain ⟨F, ⟨⟨es, c, s, se, h1, h2, h3, h4, h5, e, he, s0, rfl, hkv⟩, hF⟩, _⟩ := hS.mem.take hL
  have hrun := Go.run_entry_at (P := P) w r m s s0 es c e h2 h1.heap he h1.st.2.1
  have hk : e.key = ke p.1 ∧ e.val = ve p.2 := ⟨congrArg Prod.fst hkv, congrArg Prod.snd hkv⟩
  simp only [execOp, hS.fr.eval hx]
  simp [hrun, hk]

theorem Mem.unrange {w : World} (hM : Mem X w0 G w L) (hL : L[i]? = some (ranA m r ke ve mv lft)) : Mem X w0 G w (L.set i (mapA m ke ve mv)) := by
  obtain ⟨F, ⟨⟨es, c, _, _, _, hm, _⟩, hF⟩, _, hput⟩ := hM.take hL
  exact hput w _ (fun b => b = m) ⟨rfl, rfl, rfl, Nat.le_refl _, fun _ _ _ => rfl⟩ ⟨⟨es, c, hm⟩, fun b => Iff.rfl⟩ (fun b hb => .inl (hb ▸ (hF m).2 (.inl rfl)))

/-- The range is over: the map is what it was. -/
theorem c_unrange {c : Code} (hL : L[i]? = some (ranA m r ke ve mv lft)) (h : CRuns P c Q N X w0 G l (L.set i (mapA m ke ve mv))) : CRuns P c Q N X w0 G l L := fun a w hS => h a w ⟨hS.fr, hS.mem.unrange hL⟩
theorem r_unrangeE {p : κ × ν} (hL : L[i]? = some (ranE m r ke ve mv lft p)) (h : Runs P ops Q N X w0 G rest l (L.set i (ranA m r ke ve mv lft))) : Runs P ops Q N X w0 G rest l L := fun a w hS => by
  obtain ⟨F, hE, _, hput⟩ := hS.mem.take hL
  exact h a w ⟨hS.fr, hput w _ F ⟨rfl, rfl, rfl, Nat.le_refl _, fun _ _ _ => rfl⟩ (ranE_A hE) (fun b hb => .inl hb)⟩
theorem r_unrange (hL : L[i]? = some (ranA m r ke ve mv lft)) (h : Runs P ops Q N X w0 G rest l (L.set i (mapA m ke ve mv))) : Runs P ops Q N X w0 G rest l L := fun a w hS => h a w ⟨hS.fr, hS.mem.unrange hL⟩
theorem e_unrange {e : Exit} (hL : L[i]? = some (ranA m r ke ve mv lft)) (h : ERuns Q e N X w0 G l (L.set i (mapA m ke ve mv))) : ERuns Q e N X w0 G l L := fun a w hS => h a w ⟨hS.fr, hS.mem.unrange hL⟩
end
end Go.Gx

/-
  GX: a string made of the call's own bytes. Generic in the program.
-/
namespace Go.Gx
open Go.RowKit

def bytesF (n : Nat) (f : Nat → Nat) : ByteArray := ⟨((List.range n).map fun i => UInt8.ofNat (f i)).toArray⟩

section
variable {P : Program} {N : Nat} {X : Nat → Prop} {w0 : World} {G : Ghost} {l : List (Nat × Value)} {L : List Asrt}
variable {d : Nat} {ty : TypeId} {pos : String} {after : Array Edge} {gd : Option (Nat × Bool)} {x : Operand} {T U E E' : TypeId} {b k : Nat} {f : Nat → Value}

/-- string([]byte of three). -/
theorem p_conv_bytes3 {a0 a1 a2 : Int} (hT : P.underlying T = some (.slice E)) (hE : P.underlying E = some (.int .u8)) (hU : P.underlying U = some .string) (hx : ev l x = some (.slice (some ⟨b, 0, none⟩) 3 3)) (hL : L[k]? = some (box b 3 E' f))
    (h0 : f 0 = .int .u8 a0) (h1 : f 1 = .int .u8 a1) (h2 : f 2 = .int .u8 a2) :
    PV P N X w0 G l L ⟨some d, .convert T U x, ty, pos, after, gd⟩ (.string ⟨#[UInt8.ofNat a0.toNat, UInt8.ofNat a1.toNat, UInt8.ofNat a2.toNat]⟩) := by
  intro ac w hS
  obtain ⟨F, ⟨hB, _⟩, _⟩ := hS.mem.take hL
  have c0 := hB.cell (i := 0) (by omega)
  have c1 := hB.cell (i := 1) (by omega)
  have c2 := hB.cell (i := 2) (by omega)
  rw [h0] at c0; rw [h1] at c1; rw [h2] at c2
  simp only [execOp, hS.fr.eval hx]
  simp [convert, run_underlying hT, run_underlying hU, run_underlying hE, Conv.bytesToString]
  have hl := run_loadCells_list (P := P) w ⟨b, 0, none⟩ [.int .u8 a0, .int .u8 a1, .int .u8 a2] (fun j v hj => by
    rw [addr_add, Nat.zero_add]
    match j, hj with
    | 0, hj => simp at hj; subst hj; exact c0
    | 1, hj => simp at hj; subst hj; exact c1
    | 2, hj => simp at hj; subst hj; exact c2
    | j + 3, hj => simp at hj)
  simp only [List.length_cons, List.length_nil] at hl
  rw [hl]
  simp
  rfl
end
end Go.Gx

/-
  GX: a row of the call's own is sorted, or its runs are made one, by the library (whose contracts come in as premises). Generic in the program.
-/
namespace Go.Gx
open Go.RowKit Go.Sort

section
variable {α : Type} [Inhabited α]

theorem putRow_heap {enc : α → Value} {w : World} {g n : Nat} {d : Array α} {cur : Array Value} {E : TypeId} {fr : Nat × Nat} (hg : w.heap[g]? = some (.cells cur E fr)) : (putRow enc w g 0 d).heap[g]? = some (.cells (putCells enc 0 d cur) E fr) := by
  show (w.heap.modify g (onCells (putCells enc 0 d)))[g]? = _
  rw [Array.getElem?_modify, if_pos rfl, hg]
  rfl
theorem putRow_other {enc : α → Value} {w : World} {g k : Nat} {d : Array α} (h : k ≠ g) : (putRow enc w g 0 d).heap[k]? = w.heap[k]? := by
  simp [putRow, mapBlock, Array.getElem?_modify, Ne.symm h]

theorem putCells_take {enc : α → Value} {d : Array α} {cur : Array Value} {m : Nat} (hm : m ≤ d.size) (hc : d.size ≤ cur.size) : (putCells enc 0 d cur).toList.take m = ((d.toList.take m).map enc) := by
  apply List.ext_getElem?
  intro i
  by_cases hi : i < m
  · have h1 : i < cur.size := by omega
    have h2 : i < d.size := by omega
    simp [List.getElem?_take, hi, putCells, h1, h2]
  · simp [List.getElem?_take, hi]
end

theorem compact_le (zs : List Int) : (Lib.compact zs).length ≤ zs.length := by
  unfold Lib.compact Lib.compactUpTo
  rw [List.length_map]
  exact Nat.le_trans (List.length_filter_le _ _) (by simp)
abbrev sortI (zs : List Int) : List Int := zs.mergeSort fun x y => decide (x ≤ y)
abbrev cI (z : Int) : List Value := [.int .i64 z]

/-- The library's contract of slices.Sort at []int. -/
def SortC (P : Program) (f : FuncId) : Prop := ∀ (blk off cap : Nat) (zs : List Int) (w : World), Holds (Value.int .i64) w blk off zs.toArray → blk < w.heap.size → zs.length < 4611686018427387904 →
  Calls P f #[.slice (some ⟨blk, off, none⟩) zs.length cap] w fun e w' => e = .returned (.tuple #[]) ∧ ∃ n os, w' = grow (putRow (Value.int .i64) (Sort.ahead w n) blk off (sortI zs).toArray) os
def SortN (P : Program) (f : FuncId) : Prop := ∀ (p : Option Addr) (cap : Nat) (w : World), Calls P f #[.slice p 0 cap] w fun e w' => e = .returned (.tuple #[]) ∧ w' = w
/-- .. and of slices.Compact. -/
def CompC (P : Program) (f : FuncId) : Prop := ∀ (blk off cap : Nat) (zs : List Int) (w : World), Holds (Value.int .i64) w blk off zs.toArray → zs.length ≤ 9223372036854775807 → zs.length ≤ cap →
  Calls P f #[.slice (some ⟨blk, off, none⟩) zs.length cap] w fun e w' => e = .returned (.slice (some ⟨blk, off, none⟩) (Lib.compact zs).length cap) ∧ ∃ q, w' = putRow (Value.int .i64) (Sort.ahead w q) blk off (Lib.compact zs ++ List.replicate (zs.length - (Lib.compact zs).length) 0).toArray
def CompN (P : Program) (f : FuncId) : Prop := ∀ (a : Option Addr) (cap : Nat) (w : World), Calls P f #[.slice a 0 cap] w fun e w' => e = .returned (.slice a 0 cap) ∧ w' = w

theorem cells_ints (zs : List Int) : zs.flatMap cI = zs.map (Value.int .i64) := by
  induction zs with
  | nil => rfl
  | cons z t ih => simp [List.flatMap_cons, ih]

section
variable {P : Program} {ops : Array Oper} {Q : Exit → Act → World → Prop} {N : Nat} {X : Nat → Prop} {w0 : World} {G : Ghost} {l : List (Nat × Value)} {L : List Asrt}
variable {rest : List Oper} {d k n : Nat} {ty : TypeId} {pos : String} {after : Array Edge} {gd : Option (Nat × Bool)} {v : Value} {E : TypeId} {zs : List Int} {f : FuncId} {xs : List Operand} {ats : Array TypeId}

theorem own_holds {w : World} {g cap : Nat} {cur : Array Value} (hg : w.heap[g]? = some (.cells cur E (0, 0))) (hc : cur.size = cap) (hn : zs.length ≤ cap) (ht : cur.toList.take zs.length = zs.map (Value.int .i64)) : Holds (Value.int .i64) w g 0 zs.toArray := by
  intro j hj
  have hj' : j < zs.length := by simpa using hj
  constructor
  · rw [cell_of_row w g (0 + j) cur E (0, 0) hg, Nat.zero_add]
    have h1 := congrArg (fun l => l[j]?) ht
    simp [List.getElem?_take, hj'] at h1
    simp [h1, hj']
  · simp [World.frozen?, hg]

theorem own_after {w : World} {g cap q : Nat} {cur : Array Value} {os : Array Obj} {zs' : List Int} {m : Nat} (hg : w.heap[g]? = some (.cells cur E (0, 0))) (hc : cur.size = cap) (hcm : cap ≤ maxLen) (hz : zs'.length ≤ cap) (hm : m ≤ zs'.length) (hmm : m ≤ maxLen) :
    (rowA (.slice (some ⟨g, 0, none⟩) m cap) E 1 m ((zs'.take m).flatMap cI)).holds (grow (putRow (Value.int .i64) (Sort.ahead w q) g 0 zs'.toArray) os) (fun b => b = g) := by
  have hg' : (Sort.ahead w q).heap[g]? = some (.cells cur E (0, 0)) := hg
  have h1 := putRow_heap (enc := Value.int .i64) (n := 0) (d := zs'.toArray) hg'
  have hlt : g < (putRow (Value.int .i64) (Sort.ahead w q) g 0 zs'.toArray).heap.size := lt_of_heap h1
  refine ⟨⟨?_, .inr ⟨g, cap, putCells (Value.int .i64) 0 zs'.toArray cur, rfl, Nat.zero_le _, ?_, by omega, hcm, ?_, ?_⟩⟩, fun b => ⟨fun h => by subst h; rfl, fun h => by simp [Value.ownBlock] at h; exact h.symm⟩, hmm⟩
  · rw [cells_ints]; simp; omega
  · show ((putRow (Value.int .i64) (Sort.ahead w q) g 0 zs'.toArray).heap ++ os)[g]? = _
    rw [Array.getElem?_append_left hlt]; exact h1
  · simp [putCells, hc]
  · rw [Nat.mul_one, putCells_take (by simpa using hm) (by simp; omega), cells_ints]

theorem since_sort {w : World} {g q : Nat} {os : Array Obj} {zs' : List Int} {F : Nat → Prop} (hF : F g) : Since F w (grow (putRow (Value.int .i64) (Sort.ahead w q) g 0 zs'.toArray) os) := by
  refine ⟨rfl, rfl, rfl, ?_, fun b hb hx => ?_⟩
  · show w.heap.size ≤ (((putRow (Value.int .i64) (Sort.ahead w q) g 0 zs'.toArray).heap ++ os)).size
    have : (putRow (Value.int .i64) (Sort.ahead w q) g 0 zs'.toArray).heap.size = w.heap.size := by
      show (w.heap.modify g _).size = _
      simp
    rw [Array.size_append]; omega
  · have hne : b ≠ g := fun e => hx (e ▸ hF)
    show ((putRow (Value.int .i64) (Sort.ahead w q) g 0 zs'.toArray).heap ++ os)[b]? = _
    have hsz : (putRow (Value.int .i64) (Sort.ahead w q) g 0 zs'.toArray).heap.size = w.heap.size := by
      show (w.heap.modify g _).size = _
      simp
    rw [Array.getElem?_append_left (by omega), putRow_other hne]
    rfl

theorem r_sort (hw : Wt ops l gd) (hd : Nat.blt d N = true) (hf : Callable P f) (hv : evs l xs = some [v]) (hL : L[k]? = some (rowA v E 1 zs.length (zs.flatMap cI))) (hs : SortC P f) (hn : SortN P f) (hlen : zs.length < 4611686018427387904)
    (h : Runs P ops Q N X w0 G rest ((d, .tuple #[]) :: l) (L.set k (rowA v E 1 (sortI zs).length ((sortI zs).flatMap cI)))) : Runs P ops Q N X w0 G (⟨some d, .call ⟨.value (.func f), xs.toArray, ats⟩, ty, pos, after, gd⟩ :: rest) l L := by
  refine Runs.step hw (fun a w hS => ?_)
  show Oper.upon P _ a _ Q _
  rw [run_call hS.fr hv hf, Oper.upon_enter]
  obtain ⟨F, ⟨⟨hlen1, hown⟩, hF, hmax⟩, _, hput⟩ := hS.mem.take hL
  have hsl : (sortI zs).length = zs.length := List.length_mergeSort zs
  by_cases hz : zs.length = 0
  · have hz' : zs = [] := List.eq_nil_of_length_eq_zero hz
    subst hz'
    have e1 : (rowA v E 1 (sortI []).length ((sortI []).flatMap cI)) = rowA v E 1 ([] : List Int).length (([] : List Int).flatMap cI) := by simp [sortI]
    rw [e1, set_same hL] at h
    have hv2 : ∃ p c, v = .slice p 0 c := by
      rcases hown with ⟨rfl, _⟩ | ⟨g, cap, cur, rfl, _⟩
      · exact ⟨_, _, rfl⟩
      · exact ⟨_, _, rfl⟩
    obtain ⟨p, c, rfl⟩ := hv2
    refine (hn p c w).mono (fun e w' hR => ?_)
    obtain ⟨rfl, rfl⟩ := hR
    exact h _ _ ⟨hS.fr.put (by simpa using hd) _, hS.mem⟩
  · rcases hown with ⟨_, h0⟩ | ⟨g, cap, cur, rfl, _, hg, hnc, hcm, hcs, htk⟩
    · exact absurd h0 hz
    · have hcs' : cur.size = cap := by simpa using hcs
      have htk' : cur.toList.take zs.length = zs.map (Value.int .i64) := by rw [← cells_ints]; simpa using htk
      refine (hs g 0 cap zs w (own_holds hg hcs' hnc htk') (lt_of_heap hg) hlen).mono (fun e w' hR => ?_)
      obtain ⟨rfl, q, os, rfl⟩ := hR
      have hFg : F g := (hF g).2 rfl
      refine h _ _ ⟨hS.fr.put (by simpa using hd) _, hput _ _ (fun b => b = g) (since_sort hFg) ?_ (fun b hb => .inl (hb ▸ hFg))⟩
      have h2 := own_after (q := q) (os := os) (zs' := sortI zs) (m := zs.length) hg hcs' hcm (by omega) (by omega) (by omega)
      rw [List.take_of_length_le (by omega)] at h2
      rw [hsl]
      exact h2

theorem r_compact (hw : Wt ops l gd) (hd : Nat.blt d N = true) (hf : Callable P f) (hv : evs l xs = some [v]) (hL : L[k]? = some (rowA v E 1 zs.length (zs.flatMap cI))) (hs : CompC P f) (hn : CompN P f) (hle : (Lib.compact zs).length ≤ zs.length)
    (h : ∀ v', Runs P ops Q N X w0 G rest ((d, v') :: l) (L.set k (rowA v' E 1 (Lib.compact zs).length ((Lib.compact zs).flatMap cI)))) : Runs P ops Q N X w0 G (⟨some d, .call ⟨.value (.func f), xs.toArray, ats⟩, ty, pos, after, gd⟩ :: rest) l L := by
  refine Runs.step hw (fun a w hS => ?_)
  show Oper.upon P _ a _ Q _
  rw [run_call hS.fr hv hf, Oper.upon_enter]
  obtain ⟨F, ⟨⟨hlen1, hown⟩, hF, hmax⟩, _, hput⟩ := hS.mem.take hL
  by_cases hz : zs.length = 0
  · have hz' : zs = [] := List.eq_nil_of_length_eq_zero hz
    subst hz'
    have hc0 : Lib.compact ([] : List Int) = [] := List.eq_nil_of_length_eq_zero (by simpa using hle)
    have h' := h v
    rw [hc0, set_same hL] at h'
    have hv2 : ∃ p c, v = .slice p 0 c := by
      rcases hown with ⟨rfl, _⟩ | ⟨g, cap, cur, rfl, _⟩
      · exact ⟨_, _, rfl⟩
      · exact ⟨_, _, rfl⟩
    obtain ⟨p, c, rfl⟩ := hv2
    refine (hn p c w).mono (fun e w' hR => ?_)
    obtain ⟨rfl, rfl⟩ := hR
    exact h' _ _ ⟨hS.fr.put (by simpa using hd) _, hS.mem⟩
  · rcases hown with ⟨_, h0⟩ | ⟨g, cap, cur, rfl, _, hg, hnc, hcm, hcs, htk⟩
    · exact absurd h0 hz
    · have hcs' : cur.size = cap := by simpa using hcs
      have htk' : cur.toList.take zs.length = zs.map (Value.int .i64) := by rw [← cells_ints]; simpa using htk
      refine (hs g 0 cap zs w (own_holds hg hcs' hnc htk') (by simpa only [maxLen] using hmax) hnc).mono (fun e w' hR => ?_)
      obtain ⟨rfl, q, rfl⟩ := hR
      have hFg : F g := (hF g).2 rfl
      have e0 : ∀ W : World, W = grow W #[] := fun W => (grow_empty W).symm
      rw [e0 (putRow _ _ _ _ _)]
      refine h _ _ _ ⟨hS.fr.put (by simpa using hd) _, hput _ _ (fun b => b = g) (since_sort hFg) ?_ (fun b hb => .inl (hb ▸ hFg))⟩
      have h2 := own_after (q := q) (os := #[]) (zs' := Lib.compact zs ++ List.replicate (zs.length - (Lib.compact zs).length) 0) (m := (Lib.compact zs).length) hg hcs' hcm (by simp; omega) (by simp) (by simp only [maxLen] at *; omega)
      rw [List.take_left' rfl] at h2
      exact h2
end
end Go.Gx

/-
  GX: the keys of a map of the call's own, sorted by the library (its contracts come in as premises). Generic in the program.
-/
namespace Go.Gx
open Go.RowKit Go.Sort Go.Maps
open Go.WideElems (Fit rd rg)

theorem sortI_perm {l l' : List Int} (h : l.Perm l') : sortI l = sortI l' := by
  unfold sortI
  refine List.Perm.eq_of_pairwise (le := fun a b : Int => decide (a ≤ b) = true) (fun a b _ _ h1 h2 => ?_) (List.pairwise_mergeSort (by intro a b c; simp; omega) (by intro a b; simp; omega) l) (List.pairwise_mergeSort (by intro a b c; simp; omega) (by intro a b; simp; omega) l') (((List.mergeSort_perm l _).trans h).trans (List.mergeSort_perm l' _).symm)
  simp at h1 h2; omega

/-- How an element reads, where nothing is asked of it. -/
def R0 : Value → Option (DataW Unit × List MemPlace) := fun _ => some (.nil, [])

section
variable {ν : Type} {P : Program} {K : TypeId}
theorem ownsMap_of {w : World} {m : Nat} {ve : ν → Value} {l : List (Int × ν)} {es : Array MapEntry} {clock : Nat} (hM : MapIs w m kI ve l es clock) (hK : P.underlying K = some (.int .i64)) (hwf : ∀ p ∈ l, (Lit.int .i64 p.1).wf = true) (hsz : l.length ≤ maxLen) :
    ∃ D0 : DataW Unit, w.ownsMap P K R0 m l.length D0 ∧ (intKeys D0).Perm (l.map Prod.fst) ∧ Maps.size D0 = l.length := by
  have hlen : es.size = l.length := by have := congrArg List.length hM.eq; simpa using this
  have hmem : ∀ x ∈ es.toList, ∃ p ∈ l, x.key = .int .i64 p.1 := by
    intro x hx
    have h1 : kv x ∈ es.toList.map kv := List.mem_map.2 ⟨x, hx, rfl⟩
    rw [hM.eq] at h1
    obtain ⟨p, hp, e⟩ := List.mem_map.1 h1
    exact ⟨p, hp, by have := congrArg Prod.fst e; exact this.symm⟩
  have hrd : ∀ x ∈ es.toList, ∃ n : Int, x.key = .int .i64 n ∧ WideElems.rd (H := Unit) P K R0 x = some (.int .i64 n, .nil) := by
    intro x hx
    obtain ⟨p, hp, e⟩ := hmem x hx
    refine ⟨p.1, e, ?_⟩
    unfold WideElems.rd
    rw [e, keyOf_int_mk hK (hwf p hp)]
    rfl
  refine ⟨_, ⟨es, clock, hM.heap, ⟨by rw [hlen]; exact hsz, hM.st, fun x hx => by obtain ⟨n, _, h⟩ := hrd x hx; exact ⟨_, h⟩⟩, by omega, rfl⟩, ?_, ?_⟩
  · show (List.map (fun p : Lit × DataW Unit => intOf p.1) _).Perm _
    refine ((Go.WideShapes.sorted_perm _).map _).trans ?_
    rw [List.map_map]
    have e1 : es.toList.map ((fun p : Lit × DataW Unit => intOf p.1) ∘ rg P K R0) = (es.toList.map kv).map (fun q : Value × Value => match q.1 with | .int _ n => n | _ => 0) := by
      rw [List.map_map]
      refine List.map_congr_left fun x hx => ?_
      obtain ⟨n, h1, h2⟩ := hrd x hx
      simp only [Function.comp, rg, h2, Option.getD_some, kv, h1]
      rfl
    rw [e1, hM.eq, List.map_map]
    exact List.Perm.refl _
  · show (List.foldr DataW.insert [] _).length = _
    rw [(Go.WideShapes.sorted_perm _).length_eq]
    simpa using hlen
end

/-- slices.Sorted(maps.Keys(m)): the second call, of what the first one made. -/
def KeysC (P : Program) (f g : FuncId) (K : TypeId) : Prop := ∀ (Bm b nn : Nat) (D0 : DataW Unit) (w : World), w.cell? ⟨Bm, 0, none⟩ = some (.map (some b)) → Bm < w.heap.size → w.ownsMap P K R0 b nn D0 → Maps.size D0 ≤ maxLen → Maps.size D0 * 8 ≤ 140737488355328 →
  Calls P f #[.func (.func g) #[] #[.pointer (some ⟨Bm, 0, none⟩)]] w fun e w' => ∃ (v : Value) (ss : List Int), e = .returned v ∧ ss.Perm (intKeys D0) ∧ w'.ownsRow w.heap.size K 1 v ss.length ((ss.mergeSort fun x y => decide (x ≤ y)).map (Value.int .i64)) ∧ Below w.heap.size w w'

section
variable {P : Program} {ops : Array Oper} {Q : Exit → Act → World → Prop} {N : Nat} {X : Nat → Prop} {w0 : World} {G : Ghost} {l : List (Nat × Value)} {L : List Asrt} {ν : Type}
variable {rest : List Oper} {d i j m Bm : Nat} {ty : TypeId} {pos : String} {after : Array Edge} {gd : Option (Nat × Bool)} {K T : TypeId} {f g : FuncId} {x : Operand} {ats : Array TypeId} {ve : ν → Value} {mv : List (Int × ν)}

theorem Mem.add {w w' : World} {A : Asrt} {F' : Nat → Prop} (h : Mem X w0 G w L) (hs : Since nX w w') (hA : A.holds w' F') (hF : ∀ b, F' b → w.heap.size ≤ b) : Mem X w0 G w' (A :: L) := by
  have h1 := h.call hs
  refine ⟨h1.since, h1.has, F', hA, fun b hb => ⟨.inl (Nat.le_trans h.since.size (hF b hb)), h.has.fresh (hF b hb)⟩, ?_⟩
  refine Sep.keep (h.sep.mono (fun b hb hu => ⟨hu, fun hf => ?_⟩)) (fun b hb _ => hs.block b hb id)
  have := hF b hf
  omega

theorem r_sorted (hw : Wt ops l gd) (hd : Nat.blt d N = true) (hf : Callable P f) (hv : evs l [x] = some [.func (.func g) #[] #[.pointer (some ⟨Bm, 0, none⟩)]]) (hL1 : L[i]? = some (mapA m kI ve mv)) (hL2 : L[j]? = some (box Bm 1 T (at_ [.map (some m)])))
    (hc : KeysC P f g K) (hK : P.underlying K = some (.int .i64)) (hwf : ∀ p ∈ mv, (Lit.int .i64 p.1).wf = true) (hlen : mv.length * 8 ≤ 140737488355328)
    (h : ∀ v, Runs P ops Q N X w0 G rest ((d, v) :: l) (rowA v K 1 (sortI (mv.map Prod.fst)).length ((sortI (mv.map Prod.fst)).flatMap cI) :: L)) : Runs P ops Q N X w0 G (⟨some d, .call ⟨.value (.func f), #[x], ats⟩, ty, pos, after, gd⟩ :: rest) l L := by
  refine Runs.step hw (fun a w hS => ?_)
  show Oper.upon P _ a _ Q _
  have hm : mv.length ≤ maxLen := by simp only [maxLen]; omega
  rw [show (#[x] : Array Operand) = [x].toArray from rfl, run_call hS.fr hv hf, Oper.upon_enter]
  obtain ⟨F1, ⟨⟨es, clock, hM⟩, _⟩, _, _⟩ := hS.mem.take hL1
  obtain ⟨F2, ⟨⟨c, hc1, hc2⟩, _⟩, _, _⟩ := hS.mem.take hL2
  obtain ⟨D0, hown, hperm, hsize⟩ := ownsMap_of (P := P) (K := K) hM hK hwf hm
  have hcell : w.cell? ⟨Bm, 0, none⟩ = some (.map (some m)) := by
    rw [cell_of_row w Bm 0 c T (0, 0) hc1]; exact hc2.get 0 (by decide)
  refine (hc Bm m _ D0 w hcell (lt_of_heap hc1) hown (by omega) (by omega)).mono (fun e w' hR => ?_)
  obtain ⟨v, ss, rfl, hss, hrow, hb⟩ := hR
  have hs : Since nX w w' := ⟨hb.os, hb.tape, hb.output, hb.size, fun k hk _ => hb.block k hk⟩
  have e1 : (ss.mergeSort fun x y => decide (x ≤ y)) = sortI (mv.map Prod.fst) := sortI_perm (hss.trans hperm)
  have e2 : ss.length = (sortI (mv.map Prod.fst)).length := by rw [← e1]; exact (List.length_mergeSort ss).symm
  rw [e1, e2, ← cells_ints] at hrow
  have hl1 : (sortI (mv.map Prod.fst)).length ≤ maxLen := by
    have : (sortI (mv.map Prod.fst)).length = mv.length := by unfold sortI; rw [List.length_mergeSort]; simp
    omega
  obtain ⟨h1, h2⟩ := hrow
  refine h v _ _ ⟨hS.fr.put (by simpa using hd) _, hS.mem.add (F' := fun b => v.ownBlock = some b) hs ⟨⟨h1, ?_⟩, fun _ => Iff.rfl, hl1⟩ ?_⟩
  · rcases h2 with h2 | ⟨g', cap, cur, e, hb', r⟩
    · exact .inl h2
    · exact .inr ⟨g', cap, cur, e, Nat.zero_le _, r⟩
  · intro b hb'
    rcases h2 with ⟨rfl, _⟩ | ⟨g', cap, cur, rfl, hb2, _⟩
    · cases hb'
    · simp [Value.ownBlock] at hb'; omega
end
end Go.Gx

/-
  GX: a method that keeps (or changes) its object and hands back memory that stays. Generic in the program.
-/
namespace Go.Gx
open Go.RowKit

theorem Sep.takeU {w : World} : ∀ {L : List Asrt} {U : Nat → Prop} {k : Nat} {A : Asrt}, Sep w L U → L[k]? = some A →
    ∃ F, A.holds w F ∧ (∀ b, F b → U b) ∧
      ∀ (U' : Nat → Prop) (w' : World) (A' : Asrt) (F' : Nat → Prop), (∀ b, b < w.heap.size → U b → ¬ F b → U' b) → A'.holds w' F' → (∀ b, F' b → U' b ∧ (F b ∨ w.heap.size ≤ b)) →
        (∀ b, b < w.heap.size → U b → ¬ F b → w'.heap[b]? = w.heap[b]?) → Sep w' (L.set k A') U'
  | [], _, _, _, _, h => by simp at h
  | A :: L, U, 0, A', ⟨F, h, hs, hL⟩, e => by
    simp at e; subst e
    refine ⟨F, h, hs, fun U' w' A'' F' hu h' hF' hk => ⟨F', h', fun b hb => (hF' b hb).1, ?_⟩⟩
    have hL1 : Sep w L (fun b => (U b ∧ ¬ F b) ∧ (U' b ∧ ¬ F' b)) := Sep.mono hL (fun b hb hub => ⟨hub, hu b hb hub.1 hub.2, fun hf => by
      rcases (hF' b hf).2 with h1 | h1
      · exact hub.2 h1
      · omega⟩)
    have hL3 := Sep.keep (w' := w') hL1 (fun b hb hu => hk b hb hu.1.1 hu.1.2)
    exact Sep.mono hL3 (fun b _ hu => hu.2)
  | A :: L, U, k + 1, A', ⟨F, h, hs, hL⟩, e => by
    simp at e
    obtain ⟨G, hg, hgs, hput⟩ := Sep.takeU hL e
    refine ⟨G, hg, fun b hb => (hgs b hb).1, fun U' w' A'' F' hu h' hF' hk => ?_⟩
    refine ⟨F, A.frame h (fun b hb => hk b (A.dom h hb) (hs b hb) (fun hg' => (hgs b hg').2 hb)), fun b hb => hu b (A.dom h hb) (hs b hb) (fun hg' => (hgs b hg').2 hb), ?_⟩
    exact hput (fun b => U' b ∧ ¬ F b) w' A'' F' (fun b hb hub hng => ⟨hu b hb hub.1 hng, hub.2⟩) h' (fun b hb => by
      obtain ⟨h0, h1⟩ := hF' b hb
      refine ⟨⟨h0, fun hf => ?_⟩, h1⟩
      rcases h1 with h1 | h1
      · exact (hgs b h1).2 hf
      · have := A.dom h hf; omega) (fun b hb hu hg' => hk b hb hu.1 hg')

def KeptG (A : Asrt) (F : Nat → Prop) (G' : Ghost) (w w' : World) : Prop := Since F w w' ∧ ∃ F', A.holds w' F' ∧ (∀ b, F' b → F b ∨ w.heap.size ≤ b) ∧ ∀ b, F' b → G' b = none

section
variable {P : Program} {ops : Array Oper} {Q : Exit → Act → World → Prop} {N : Nat} {X : Nat → Prop} {w0 : World} {G : Ghost} {l : List (Nat × Value)} {L : List Asrt}
variable {rest : List Oper} {d k : Nat} {ty : TypeId} {pos : String} {after : Array Edge} {gd : Option (Nat × Bool)}

theorem Mem.keptG {w : World} {F : Nat → Prop} {Ls : List Asrt} (h : Mem F w0 G w Ls) (Ls' : List Asrt) (hI : Imp Ls Ls') (B : Asrt) (hB : ∀ F', (starL Ls').holds w F' → B.holds w F') : KeptG B F G w0 w := by
  refine ⟨h.since, ?_⟩
  have h1 := (h.imp hI).sep
  rw [show Ls' = Ls' ++ [] by simp] at h1
  obtain ⟨F', h2, h3, _⟩ := Sep.packL Ls' h1
  exact ⟨F', hB F' h2, fun b hb => (h3 b hb).1.symm, fun b hb => (h3 b hb).2⟩

/-- A call that changes one object and hands back memory that stays. -/
theorem r_callom {f : FuncId} {xs : List Operand} {vs : List Value} {ats : Array TypeId} {A B : Asrt} {S : Ghost → Value → Prop} (hw : Wt ops l gd) (hd : Nat.blt d N = true) (hf : Callable P f) (hv : evs l xs = some vs) (hL : L[k]? = some A)
    (hc : ∀ w F, Has G w → A.holds w F → (∀ b, F b → G b = none) → Calls P f vs.toArray w (Ret fun r w' => ∃ G', GNew w F G G' ∧ Has G' w' ∧ S G' r ∧ KeptG B F G' w w'))
    (h : ∀ G' r, GNew w0 X G G' → S G' r → Runs P ops Q N X w0 G' rest ((d, r) :: l) (L.set k B)) : Runs P ops Q N X w0 G (⟨some d, .call ⟨.value (.func f), xs.toArray, ats⟩, ty, pos, after, gd⟩ :: rest) l L := by
  refine Runs.step hw (fun a w hS => ?_)
  show Oper.upon P _ a _ Q _
  rw [run_call hS.fr hv hf, Oper.upon_enter]
  obtain ⟨F, hA, hsub, hput⟩ := hS.mem.sep.takeU hL
  refine (hc w F hS.mem.has hA (fun b hb => (hsub b hb).2)).mono (fun e w' hR => ?_)
  cases e with
  | returned r =>
    obtain ⟨G', hn, hh, hr, hs, F', hB, hF', hFG'⟩ := hR
    have hn' : GNew w0 X G G' := ⟨hn.le, fun b h1 h2 => by
      rcases hn.new b h1 h2 with h3 | h3
      · exact .inl (Nat.le_trans hS.mem.since.size h3)
      · exact (hsub b h3).1⟩
    refine h G' r hn' hr _ _ ⟨hS.fr.put (by simpa using hd) _, ?_, hh, ?_⟩
    · refine ⟨hs.os.trans hS.mem.since.os, hs.tape.trans hS.mem.since.tape, hs.output.trans hS.mem.since.output, Nat.le_trans hS.mem.since.size hs.size, fun i hi hx => ?_⟩
      rw [hs.block i (Nat.lt_of_lt_of_le hi hS.mem.since.size) (fun hf => Or.elim (hsub i hf).1 (fun h1 => by omega) (fun h1 => hx h1))]
      exact hS.mem.since.block i hi hx
    · refine hput (fun b => (w0.heap.size ≤ b ∨ X b) ∧ G' b = none) w' B F' (fun b hb hu hf => ⟨hu.1, ?_⟩) hB (fun b hb => ⟨⟨?_, hFG' b hb⟩, hF' b hb⟩) (fun b hb _ hf => hs.block b hb hf)
      · cases e : G' b with
        | none => rfl
        | some o => rcases hn.new b hu.2 (by rw [e]; simp) with h3 | h3
                    · omega
                    · exact (hf h3).elim
      · rcases hF' b hb with h1 | h1
        · exact (hsub b h1).1
        · exact .inl (Nat.le_trans hS.mem.since.size h1)
  | panicked c => exact hR.elim
  | outgrown => exact hR.elim
end
end Go.Gx

/-
  GX: function values: they are made, and called. Generic in the program.
-/
namespace Go.Gx
open Go.RowKit

section
variable {P : Program} {ops : Array Oper} {Q : Exit → Act → World → Prop} {N : Nat} {X : Nat → Prop} {w0 : World} {G : Ghost} {l : List (Nat × Value)} {L : List Asrt}
variable {rest : List Oper} {ty : TypeId} {pos : String} {after : Array Edge} {gd : Option (Nat × Bool)}

theorem p_mkfunc {f : FuncId} {d : Nat} {xs : List Operand} {vs : List Value} (hv : evs l xs = some vs) : PV P N X w0 G l L ⟨some d, .makeFunc (.func f) #[] xs.toArray, ty, pos, after, gd⟩ (.func (.func f) #[] vs.toArray) := by
  intro a w hS
  have e := evs_eq hS.fr hv
  have h1 : xs.toArray.map a.eval = vs.toArray := by rw [← e]; simp
  simp only [execOp]
  rw [h1]
  simp [Go.Instr.makeFunc]

theorem fun_same {f : FuncId} {dst : Option Nat} {y : Operand} {xs : List Operand} {cs : List Value} {ats : Array TypeId} {a : Act} (hF : Fr N a l) (hy : ev l y = some (.func (.func f) #[] cs.toArray)) :
    execOp a.eval ⟨dst, .call ⟨.value y, xs.toArray, ats⟩, ty, pos, after, gd⟩ = execOp a.eval ⟨dst, .call ⟨.value (.func f), (xs ++ cs.map Operand.const).toArray, ats⟩, ty, pos, after, gd⟩ := by
  have h2 : execOp a.eval ⟨dst, .call ⟨.value (.func f), (xs ++ cs.map Operand.const).toArray, ats⟩, ty, pos, after, gd⟩ = callFunc f (#[] ++ (xs ++ cs.map Operand.const).toArray.map a.eval ++ #[]) := rfl
  have h3 : (Deferred.ofValue (.func (.func f) #[] cs.toArray) (xs.toArray.map a.eval) >>= fun t => invoke t.target t.args) = callFunc f ((#[] ++ xs.toArray.map a.eval) ++ cs.toArray) := rfl
  have h4 : execOp a.eval ⟨dst, .call ⟨.value y, xs.toArray, ats⟩, ty, pos, after, gd⟩ = (Deferred.ofValue (a.eval y) (xs.toArray.map a.eval) >>= fun t => invoke t.target t.args) := rfl
  rw [h2, h4, hF.eval hy, h3]
  have h5 : (List.map a.eval (cs.map Operand.const)) = cs := by
    rw [List.map_map]
    exact (List.map_congr_left (fun x _ => rfl)).trans (List.map_id cs)
  congr 1
  apply Array.toList_inj.1
  simp only [Array.toList_append, List.append_toArray, Array.toList_map, List.map_append, h5]
  simp

/-- A call of a function value is a call of its function with what it has caught behind the arguments. -/
theorem r_fun {f : FuncId} {dst : Option Nat} {y : Operand} {xs : List Operand} {cs : List Value} {ats : Array TypeId} (hw : Wt ops l gd) (hy : ev l y = some (.func (.func f) #[] cs.toArray))
    (h : Runs P ops Q N X w0 G (⟨dst, .call ⟨.value (.func f), (xs ++ cs.map Operand.const).toArray, ats⟩, ty, pos, after, gd⟩ :: rest) l L) :
    Runs P ops Q N X w0 G (⟨dst, .call ⟨.value y, xs.toArray, ats⟩, ty, pos, after, gd⟩ :: rest) l L := by
  intro a w hS
  have h1 := h a w hS
  unfold wpList at h1 ⊢
  rw [if_pos (hw.wanted hS.fr)] at h1 ⊢
  have e := fun_same (ty := ty) (pos := pos) (after := after) (gd := gd) (dst := dst) (xs := xs) (ats := ats) hS.fr hy
  rcases h1 with h1 | ⟨h1, h2⟩
  · left
    show Oper.upon P _ a _ Q _
    rw [e]
    exact h1
  · right
    refine ⟨?_, h2⟩
    simp only [Oper.asks] at h1 ⊢
    rw [e]
    exact h1
end
end Go.Gx

/-
  GX: what closures want: a block that they have caught; a slice held against nil; a row without elements; an object that grows by what is found. Generic in the program.
-/
namespace Go.Gx
open Go.RowKit

section
variable {P : Program} {ops : Array Oper} {Q : Exit → Act → World → Prop} {N : Nat} {X : Nat → Prop} {w0 : World} {G : Ghost} {l : List (Nat × Value)} {L : List Asrt}
variable {rest : List Oper} {d : Nat} {ty : TypeId} {pos : String} {after : Array Edge} {gd : Option (Nat × Bool)} {x y : Operand} {v : Value}

/-- A block of the call's own stays as it is from now on. -/
theorem r_freezeX {k n b E : Nat} {f : Nat → Value} (hL : L[k]? = some (box b n E f))
    (h : ∀ G', GNew w0 X G G' → RowAt G' b 0 n f → Runs P ops Q N X w0 G' rest l (L.eraseIdx k)) : Runs P ops Q N X w0 G rest l L := by
  intro a w hS
  obtain ⟨G', h1, h2, h3⟩ := hS.mem.freezeB (m := 1) (sz := n) hL (by omega) (by omega)
  obtain ⟨_, _, e, _, h4⟩ := h2
  obtain ⟨b', o, e2, h5⟩ := h4 (by omega)
  simp only [Value.slice.injEq] at e
  obtain ⟨rfl, _⟩ := e
  simp only [Option.some.injEq, Addr.mk.injEq] at e2
  obtain ⟨rfl, rfl, _⟩ := e2
  have h6 := h5 0 (by omega)
  simp only [Nat.zero_mul, Nat.add_zero, Nat.zero_add] at h6
  exact h G' h1 h6 a w ⟨hS.fr, h3⟩

theorem eqnil_run {T E : TypeId} {a : Option Addr} {n c n' c' : Nat} (hT : P.underlying T = some (.slice E)) (d : Nat) (w : World) : (Op.equalIn (d + 1) T (.slice a n c) (.slice none n' c')).run P w = .ok a.isNone w := by
  cases a <;> simp [Op.equalIn, run_underlying hT]

/-- '==' between a slice and nil. -/
theorem p_eqnil {T U E : TypeId} {a : Option Addr} {n c n' c' : Nat} (hT : P.underlying T = some (.slice E)) (hx : ev l x = some (.slice a n c)) (hy : ev l y = some (.slice none n' c')) :
    PV P N X w0 G l L ⟨some d, .binOp .eql T x y U, ty, pos, after, gd⟩ (.bool a.isNone) := by
  intro ac w hS
  have e : (Op.equal T (.slice a n c) (.slice none n' c')).run P w = .ok a.isNone w := by
    exact eqnil_run hT 9999 w
  have e2 : (binOp .eql T (.slice a n c) (.slice none n' c')).run P w = .ok (.bool a.isNone) w := by
    have h1 : binOp .eql T (.slice a n c) (.slice none n' c') = (do pure (.bool (← Op.equal T (.slice a n c) (.slice none n' c')))) := rfl
    rw [h1]; simp [e]
  have e3 : (eqGuard .eql T x y (.slice a n c) (.slice none n' c')).run P w = .ok () w := by simp [eqGuard]
  simp only [execOp, hS.fr.eval hx, hS.fr.eval hy]
  simp [e3, e2]

/-- A row without elements. -/
theorem r_bslice0 {T E : TypeId} {sz bytes : Nat} {zv : Value} (hw : Wt ops l gd) (hd : Nat.blt d N = true) (hT : P.underlying T = some (.slice E)) (hE : ElemIs P E sz bytes zv)
    (h : ∀ v, Runs P ops Q N X w0 G rest ((d, v) :: l) (rowA v E sz 0 [] :: L)) :
    Runs P ops Q N X w0 G (⟨some d, .buildSlice T 0 #[], ty, pos, after, gd⟩ :: rest) l L := by
  refine Runs.step hw (fun a w hS => ?_)
  show Oper.upon P _ a _ Q _
  obtain ⟨i, hi, hz, hs, _⟩ := hE.info
  have hr : (execOp a.eval ⟨some d, .buildSlice T 0 #[], ty, pos, after, gd⟩).run P w = .ok (.value (.slice (some ⟨w.heap.size, 0, none⟩) 0 0)) (w.alloc (.cells #[] E)) := by
    have h3 : (sizeOf E).run P w = .ok sz w := by simp [sizeOf, typeInfo, hi, hs]
    simp only [execOp]
    simp [Instr.buildSlice, run_underlying hT, h3, Instr.fill, newRow]
    have h5 : ∀ g : Nat → Value, Array.map g (Array.range 0) = #[] := fun g => Array.ext (by simp) (fun i h1 _ => by simp at h1)
    rw [h5]
  rw [hr, Oper.upon_value]
  refine h _ _ _ ⟨hS.fr.put (by simpa using hd) _, hS.mem.alloc _ _ ⟨⟨by simp, .inr ⟨w.heap.size, 0, #[], rfl, Nat.zero_le _, heap_alloc_new w _, Nat.le_refl _, Nat.zero_le _, by simp, by simp⟩⟩, fun b => ⟨fun h => ?_, fun h => ?_⟩, Nat.zero_le _⟩⟩
  · have : b = w.heap.size := h
    subst this; rfl
  · simp [Value.ownBlock] at h; exact h.symm

/-- A call that changes one object, which is told by what comes of it, and hands back memory that stays. -/
theorem r_callox {τ : Type} {k : Nat} {f : FuncId} {xs : List Operand} {vs : List Value} {ats : Array TypeId} {A : Asrt} {B : τ → Asrt} {S : Ghost → Value → τ → Prop} (hw : Wt ops l gd) (hd : Nat.blt d N = true) (hf : Callable P f) (hv : evs l xs = some vs) (hL : L[k]? = some A)
    (hc : ∀ w F, Has G w → A.holds w F → (∀ b, F b → G b = none) → Calls P f vs.toArray w (Ret fun r w' => ∃ G' z, GNew w F G G' ∧ Has G' w' ∧ S G' r z ∧ KeptG (B z) F G' w w'))
    (h : ∀ G' r z, GNew w0 X G G' → S G' r z → Runs P ops Q N X w0 G' rest ((d, r) :: l) (L.set k (B z))) : Runs P ops Q N X w0 G (⟨some d, .call ⟨.value (.func f), xs.toArray, ats⟩, ty, pos, after, gd⟩ :: rest) l L := by
  refine Runs.step hw (fun a w hS => ?_)
  show Oper.upon P _ a _ Q _
  rw [run_call hS.fr hv hf, Oper.upon_enter]
  obtain ⟨F, hA, hsub, hput⟩ := hS.mem.sep.takeU hL
  refine (hc w F hS.mem.has hA (fun b hb => (hsub b hb).2)).mono (fun e w' hR => ?_)
  cases e with
  | returned r =>
    obtain ⟨G', z, hn, hh, hr, hs, F', hB, hF', hFG'⟩ := hR
    have hn' : GNew w0 X G G' := ⟨hn.le, fun b h1 h2 => by
      rcases hn.new b h1 h2 with h3 | h3
      · exact .inl (Nat.le_trans hS.mem.since.size h3)
      · exact (hsub b h3).1⟩
    refine h G' r z hn' hr _ _ ⟨hS.fr.put (by simpa using hd) _, ?_, hh, ?_⟩
    · refine ⟨hs.os.trans hS.mem.since.os, hs.tape.trans hS.mem.since.tape, hs.output.trans hS.mem.since.output, Nat.le_trans hS.mem.since.size hs.size, fun i hi hx => ?_⟩
      rw [hs.block i (Nat.lt_of_lt_of_le hi hS.mem.since.size) (fun hf => Or.elim (hsub i hf).1 (fun h1 => by omega) (fun h1 => hx h1))]
      exact hS.mem.since.block i hi hx
    · refine hput (fun b => (w0.heap.size ≤ b ∨ X b) ∧ G' b = none) w' (B z) F' (fun b hb hu hf => ⟨hu.1, ?_⟩) hB (fun b hb => ⟨⟨?_, hFG' b hb⟩, hF' b hb⟩) (fun b hb _ hf => hs.block b hb hf)
      · cases e : G' b with
        | none => rfl
        | some o => rcases hn.new b hu.2 (by rw [e]; simp) with h3 | h3
                    · omega
                    · exact (hf h3).elim
      · rcases hF' b hb with h1 | h1
        · exact (hsub b h1).1
        · exact .inl (Nat.le_trans hS.mem.since.size h1)
  | panicked c => exact hR.elim
  | outgrown => exact hR.elim
end

section
variable {P : Program} {ops : Array Oper} {Q : Exit → Act → World → Prop} {N : Nat} {X : Nat → Prop} {w0 : World} {G : Ghost} {l : List (Nat × Value)} {L : List Asrt}
variable {rest : List Oper} {d : Nat} {ty : TypeId} {pos : String} {after : Array Edge} {gd : Option (Nat × Bool)} {x y : Operand} {v u : Value}
/-- An assertion is told in other words. -/
theorem r_conv {k : Nat} {A B : Asrt} (hL : L[k]? = some A) (hI : ∀ w F, A.holds w F → B.holds w F) (h : Runs P ops Q N X w0 G rest l (L.set k B)) : Runs P ops Q N X w0 G rest l L := by
  intro a w hS
  obtain ⟨F, hA, _, hput⟩ := hS.mem.take hL
  exact h a w ⟨hS.fr, hput w B F (Since.refl _ _) (hI w F hA) (fun b hb => .inl hb)⟩

/-- append(out, xs...): xs is a row of the call's own, too. -/
theorem r_append_o {T E : TypeId} {sz n m bytes k k2 : Nat} {zv : Value} {xs ys : List Value} (hw : Wt ops l gd) (hd : Nat.blt d N = true) (hT : P.underlying T = some (.slice E)) (hE : ElemIs P E sz bytes zv) (hz : zv.cells.size = sz) (hsz : 0 < sz)
    (hx : ev l x = some v) (hL : L[k]? = some (rowA v E sz n xs)) (hy : ev l y = some u) (hL2 : L[k2]? = some (rowA u E sz m ys)) (h1 : ∀ z ∈ ys, z.oneCell' = true) (h63 : n + m ≤ maxLen) (hbytes : (n + m) * bytes ≤ 140737488355328)
    (h : ∀ v', Runs P ops Q N X w0 G rest ((d, v') :: l) (L.set k (rowA v' E sz (n + m) (xs ++ ys)))) : Runs P ops Q N X w0 G (⟨some d, .call ⟨.builtin .append, #[x, y], #[T, T]⟩, ty, pos, after, gd⟩ :: rest) l L := by
  obtain ⟨i0, hi0, _, hs0, _⟩ := hE.info
  refine Runs.step hw (fun ac w hS => ?_)
  show Oper.upon P _ ac _ Q _
  obtain ⟨F2, hB, _⟩ := hS.mem.take hL2
  have hB' := hB
  obtain ⟨⟨hlen, hown⟩, _, _⟩ := hB
  rcases hown with ⟨rfl, rfl⟩ | ⟨g, cap, cur, rfl, _, hg, hn, hm, hcs, htk⟩
  · have hys : ys = [] := List.eq_nil_of_length_eq_zero (by simpa using hlen)
    subst hys
    have hsz' : SzIs P E sz := by simp [SzIs, hi0, hs0]
    have h' := h v
    simp only [Nat.add_zero, List.append_nil, set_self hL] at h'
    have hr := p_append_nil (P := P) (N := N) (X := X) (w0 := w0) (G := G) (ty := ty) (pos := pos) (after := after) (gd := gd) (d := d) (c := 0) hT hsz' hx hL hy ac w hS
    rw [hr, Oper.upon_value]
    exact h' _ _ ⟨hS.fr.put (by simpa using hd) v, hS.mem⟩
  · obtain ⟨v', w', hr, hS'⟩ := append_end (ty := ty) (pos := pos) (after := after) (gd := gd) (d := d) (news := ys) hT hE hz hsz hS hL hx hy hlen
      (fun j z hj => by
        have hj2 : j < m * sz := by
          have h5 : j < ys.length := by
            rcases Nat.lt_or_ge j ys.length with h6 | h6
            · exact h6
            · rw [List.getElem?_eq_none h6] at hj; cases hj
          omega
        have h7 := rowA_cell hB' rfl hj2
        rw [addr_add, Nat.zero_add, h7]
        simp [List.getD, hj])
      h1 h63 hbytes hd
    rw [hr, Oper.upon_value]
    exact h v' _ _ hS'
end

/-- A row of a call's own goes out and stays as it is. -/
theorem row_mem {w w' : World} {G : Ghost} {r : Value} {E sz n : Nat} {xs : List Value} (hG : Has G w) (h : Since nX w w' ∧ ∃ F', (rowA r E sz n xs).holds w' F' ∧ ∀ b, F' b → w.heap.size ≤ b) :
    ∃ G', GNew w nX G G' ∧ Has G' w' ∧ SlG G' r n sz (fun i j => xs.getD (i * sz + j) undef) ∧ Since nX w w' := by
  obtain ⟨hs, F', hB, hF⟩ := h
  have h1 : Mem nX w G w [] := ⟨Since.refl _ _, hG, trivial⟩
  have h2 := h1.call hs
  have hm : Mem nX w G w' [rowA r E sz n xs] := ⟨h2.since, h2.has, F', hB, fun b hb => ⟨.inl (hF b hb), hG.fresh (hF b hb)⟩, trivial⟩
  obtain ⟨G', h3, h4, h5⟩ := hm.freeze (k := 0) rfl
  exact ⟨G', h3, h5.has, h4, hs⟩

theorem Mem.pack {X : Nat → Prop} {w0 w : World} {G : Ghost} {Ls L : List Asrt} (h : Mem X w0 G w (Ls ++ L)) : Mem X w0 G w (starL Ls :: L) := by
  obtain ⟨F, h1, h2, h3⟩ := Sep.packL Ls h.sep
  exact ⟨h.since, h.has, F, h1, h2, h3⟩

/-! ### slices of slices -/
section
variable {α : Type}
/-- The cells of an element that is a slice. -/
def lC (p : α × Value) : List Value := [p.2]
/-- The value v is a slice of slices, of which each is what T says. -/
def Ls (T : Ghost → Value → α → Prop) (e : α) (G : Ghost) (v : Value) (l : List α) : Prop := ∃ rs : List (α × Value), SlL G v 1 lC (e, .slice none 0 0) rs ∧ (∀ p ∈ rs, T G p.2 p.1) ∧ l = rs.map Prod.fst
theorem Ls.mk {T : Ghost → Value → α → Prop} {e : α} {G : Ghost} {v : Value} (rs : List (α × Value)) (h : SlL G v 1 lC (e, .slice none 0 0) rs) (hp : ∀ p ∈ rs, T G p.2 p.1) : Ls T e G v (rs.map Prod.fst) := ⟨rs, h, hp, rfl⟩

/-- A variable that holds a row of slices. -/
def outA (T E : TypeId) (p : Nat) (rs : List (α × Value)) : Asrt := exA fun v : Value => starL [box p 1 T (at_ [v]), rowA v E 1 rs.length (rs.flatMap lC)]

section
variable {P : Program} {ops : Array Oper} {Q : Exit → Act → World → Prop} {N : Nat} {X : Nat → Prop} {w0 : World} {G : Ghost} {l : List (Nat × Value)} {L : List Asrt}
variable {rest : List Oper} {T E p : Nat} {rs : List (α × Value)}
theorem r_packout {v : Value} {f : Nat → Value} {n : Nat} {xs : List Value} (hf : f 0 = v) (hn : n = rs.length) (hx : xs = rs.flatMap lC) (h : Runs P ops Q N X w0 G rest l (outA T E p rs :: L)) : Runs P ops Q N X w0 G rest l (rowA v E 1 n xs :: box p 1 T f :: L) := by
  intro a w hS
  subst hn; subst hx
  have h1 : Mem X w0 G w (box p 1 T f :: rowA v E 1 rs.length (rs.flatMap lC) :: L) := by
    obtain ⟨hs, hh, F1, h1, hU1, F2, h2, hU2, hL⟩ := hS.mem
    exact ⟨hs, hh, F2, h2, fun b hb => (hU2 b hb).1, F1, h1, fun b hb => ⟨hU1 b hb, fun h3 => (hU2 b h3).2 hb⟩, hL.mono (fun b _ hb => ⟨⟨hb.1.1, hb.2⟩, hb.1.2⟩)⟩
  have h2 : Mem X w0 G w (box p 1 T (at_ [v]) :: rowA v E 1 rs.length (rs.flatMap lC) :: L) := by
    obtain ⟨hs, hh, F1, h1, hr⟩ := h1
    exact ⟨hs, hh, F1, box_congr (fun i hi => by match i, hi with | 0, _ => exact hf) _ _ h1, hr⟩
  obtain ⟨hs, hh, F, h3, hr⟩ := Mem.pack (Ls := [box p 1 T (at_ [v]), rowA v E 1 rs.length (rs.flatMap lC)]) (L := L) h2
  exact h a w ⟨hS.fr, hs, hh, F, ⟨v, h3⟩, hr⟩
theorem r_unpackout (h : ∀ v : Value, Runs P ops Q N X w0 G rest l (box p 1 T (at_ [v]) :: rowA v E 1 rs.length (rs.flatMap lC) :: L)) : Runs P ops Q N X w0 G rest l (outA T E p rs :: L) := by
  intro a w hS
  obtain ⟨hs, hh, F, ⟨v, h3⟩, hr⟩ := hS.mem
  exact h v a w ⟨hS.fr, Mem.unpack (Ls := [box p 1 T (at_ [v]), rowA v E 1 rs.length (rs.flatMap lC)]) ⟨hs, hh, F, h3, hr⟩⟩
end
end
end Go.Gx

/- Plain laws of chains of conditions; no program in sight. -/
namespace Go.Gx
theorem RowAt.congr {G : Ghost} {b o n : Nat} {f g : Nat → Value} (h : RowAt G b o n f) (e : ∀ i, i < n → f i = g i) : RowAt G b o n g := by
  obtain ⟨c, T, fr, h1, h2⟩ := h
  exact ⟨c, T, fr, h1, fun j hj => by rw [h2 j hj, e j hj]⟩
end Go.Gx
namespace Go.Gx.T6
open Go.Gx Go.Gx.T3 Go.Gx.T4 Go.Gx.T8

theorem cv_ones {G : Ghost} {rs : List (CT × Value)} (hp : ∀ p ∈ rs, Cs G p.2 p.1.subs) : ∀ i, i < rs.length → ∀ j, j < 8 → (at_ (cvC (rs.getD i d0)) j).oneCell' = true := by
  intro i hi j hj
  have h := (hp _ (getD_mem (d := d0) hi)).one
  match j, hj with
  | 0, _ => rfl
  | 1, _ => rfl
  | 2, _ => rfl
  | 3, _ => rfl
  | 4, _ => rfl
  | 5, _ => rfl
  | 6, _ => rfl
  | 7, _ => exact h
theorem nil_rs {α : Type} {G : Ghost} {n c : Nat} {sz : Nat} {cells : α → List Value} {e : α} {rs : List α} (h : SlL G (.slice none n c) sz cells e rs) : rs = [] := by
  obtain ⟨a, cap, e1, _, h2⟩ := h
  simp only [Value.slice.injEq] at e1
  obtain ⟨rfl, _⟩ := e1
  rcases rs with _ | ⟨x, t⟩
  · rfl
  · obtain ⟨_, _, e3, _⟩ := h2 (by simp)
    cases e3

theorem Tr.slg {α : Type} {subs : α → List α} {cf : α × Value → List Value} {sz : Nat} {d : α × Value} {G : Ghost} {v : Value} {l : List α} (h : Tr subs cf sz d G v l) : ∃ f, SlG G v l.length sz f := by
  obtain ⟨rs, hr, _, rfl⟩ := h.inv
  exact ⟨_, by rw [List.length_map]; exact hr⟩

mutual
/-- The chains of what stands in a condition, and its own. -/
def chain1 : List CT → CT → List (List CT)
  | ah, .mk h l => (if h.k = 3 then chains ah l else []) ++ [ah ++ [.mk h l]]
/-- The chains of conditions behind a beginning. -/
def chains : List CT → List CT → List (List CT)
  | _, [] => []
  | ah, c :: t => chain1 ah c ++ chains (ah ++ [c]) t
end
theorem chain1_ncc {ah : List CT} {c : CT} (h : c.h.k = 3) : chain1 ah c = chains ah c.subs ++ [ah ++ [c]] := by
  cases c with | mk hd l => have h' : hd.k = 3 := h; rw [chain1, if_pos h']; rfl
theorem chain1_other {ah : List CT} {c : CT} (h : c.h.k ≠ 3) : chain1 ah c = [ah ++ [c]] := by
  cases c with | mk hd l => have h' : hd.k ≠ 3 := h; rw [chain1, if_neg h']; rfl
theorem chains_append (a b : List CT) : ∀ ah, chains ah (a ++ b) = chains ah a ++ chains (ah ++ a) b := by
  induction a with
  | nil => intro ah; simp [chains]
  | cons c t ih => intro ah; simp [chains, ih]
theorem chains_take {rs : List (CT × Value)} {k : Nat} {ah : List CT} (hk : k < rs.length) : chains ah ((rs.map Prod.fst).take (k + 1)) = chains ah ((rs.map Prod.fst).take k) ++ chain1 (ah ++ (rs.map Prod.fst).take k) (rs.getD k d0).1 := by
  rw [map_take (d := d0) hk, chains_append]; simp [chains]
mutual
theorem chain1_len : ∀ (c : CT) (ah : List CT), (chain1 ah c).length ≤ size c
  | .mk h l, ah => by
    have := chains_len l ah
    rw [chain1, size]
    split <;> simp <;> omega
theorem chains_len : ∀ (l : List CT) (ah : List CT), (chains ah l).length ≤ sizeL l
  | [], _ => by simp [chains, sizeL]
  | c :: t, ah => by
    have h1 := chain1_len c ah
    have h2 := chains_len t (ah ++ [c])
    rw [chains, sizeL, List.length_append]; omega
end
/-- A part of them, and what is behind. -/
theorem chains_take_le (ah : List CT) (rs : List (CT × Value)) (k : Nat) : (chains ah ((rs.map Prod.fst).take k)).length ≤ sizeL ((rs.map Prod.fst).take k) := chains_len _ _

theorem sub_size {rs : List (CT × Value)} {k : Nat} (hk : k < rs.length) : SizeOf.sizeOf (rs.getD k d0).1.subs < SizeOf.sizeOf (rs.map Prod.fst) := by
  have h1 : (rs.getD k d0).1 ∈ rs.map Prod.fst := List.mem_map.2 ⟨_, getD_mem hk, rfl⟩
  have h2 := List.sizeOf_lt_of_mem h1
  have h3 := size_subs (rs.getD k d0).1
  omega
/-- What is known of the chains that were found: each is a slice of conditions. -/
abbrev ChC (G : Ghost) (z : List (List CT × Value)) : Prop := ∀ q ∈ z, Cs G q.2 q.1
theorem ChC.mono {G G' : Ghost} {z : List (List CT × Value)} (h : ChC G z) (hle : GLe G G') : ChC G' z := fun q hq => (h q hq).mono hle
theorem ChC.snoc {G : Ghost} {z : List (List CT × Value)} {v : Value} {l : List CT} (h : ChC G z) (hl : Cs G v l) : ChC G (z ++ [(l, v)]) := fun q hq => by
  rcases List.mem_append.1 hq with h1 | h1
  · exact h q h1
  · rw [List.mem_singleton.1 h1]; exact hl

/-! ### alike -/
def hEq (a b : Hd) : Bool := decide (a.k = b.k) && csEq [.bool a.v0, .int .i64 a.n0, .bool a.v1, .int .i64 a.n1, .bool a.v2, .int .i64 a.n2] [.bool b.v0, .int .i64 b.n0, .bool b.v1, .int .i64 b.n1, .bool b.v2, .int .i64 b.n2]
theorem hEq_r (a b : Hd) : csEq [.int .i64 (vi a.v0), .int .i64 a.n0, .int .i64 (vi a.v1), .int .i64 a.n1, .int .i64 (vi a.v2), .int .i64 a.n2] [.int .i64 (vi b.v0), .int .i64 b.n0, .int .i64 (vi b.v1), .int .i64 b.n1, .int .i64 (vi b.v2), .int .i64 b.n2] = csEq [.bool a.v0, .int .i64 a.n0, .bool a.v1, .int .i64 a.n1, .bool a.v2, .int .i64 a.n2] [.bool b.v0, .int .i64 b.n0, .bool b.v1, .int .i64 b.n1, .bool b.v2, .int .i64 b.n2] := by
  cases a.v0 <;> cases a.v1 <;> cases a.v2 <;> cases b.v0 <;> cases b.v1 <;> cases b.v2 <;> simp [csEq, cEq, vi]
def hRb (a b : Hd) : Bool := csEq [.int .i64 (vi a.v0), .int .i64 a.n0, .int .i64 (vi a.v1), .int .i64 a.n1, .int .i64 (vi a.v2), .int .i64 a.n2] [.int .i64 (vi b.v0), .int .i64 b.n0, .int .i64 (vi b.v1), .int .i64 b.n1, .int .i64 (vi b.v2), .int .i64 b.n2]
theorem hEq_rb (a b : Hd) : hEq a b = (decide (a.k = b.k) && hRb a b) := by unfold hEq hRb; rw [hEq_r]
theorem hEq_iff (a b : Hd) : hEq a b = true ↔ a = b := by
  obtain ⟨a0, a1, a2, a3, a4, a5, a6⟩ := a
  obtain ⟨b0, b1, b2, b3, b4, b5, b6⟩ := b
  simp [hEq, csEq, cEq]
mutual
def ceq : CT → CT → Bool
  | .mk h l, .mk h' l' => hEq h h' && ceqL l l'
def ceqL : List CT → List CT → Bool
  | [], [] => true
  | c :: t, c' :: t' => ceq c c' && ceqL t t'
  | _, _ => false
end
theorem ceq_eq (a b : CT) : ceq a b = (hEq a.h b.h && ceqL a.subs b.subs) := by cases a; cases b; rw [ceq]; rfl
theorem ceqL_len : ∀ {l l' : List CT}, l.length ≠ l'.length → ceqL l l' = false
  | [], [], h => absurd rfl h
  | [], _ :: _, _ => by simp [ceqL]
  | _ :: _, [], _ => by simp [ceqL]
  | c :: t, c' :: t', h => by rw [ceqL, ceqL_len (by simpa using h), Bool.and_false]
theorem ceq_no {c c2 : CT} (h : (¬ c.h.k = c2.h.k ∨ hRb c.h c2.h = false) ∨ ¬ c.subs.length = c2.subs.length) : ceq c c2 = false := by
  rw [ceq_eq, hEq_rb]
  rcases h with (h | h) | h
  · rw [decide_eq_false h]; rfl
  · rw [h, Bool.and_false]; rfl
  · rw [ceqL_len h, Bool.and_false]
theorem ceq_sub {c c2 : CT} (h : c.h.k = c2.h.k ∧ hRb c.h c2.h = true) : ceq c c2 = ceqL c.subs c2.subs := by
  rw [ceq_eq, hEq_rb, decide_eq_true h.1, h.2]; rfl
theorem ceqL_no {rs rs2 : List (CT × Value)} {k : Nat} (h1 : k < rs.length) (h2 : k < rs2.length) (h : ceq (rs.getD k d0).1 (rs2.getD k d0).1 = false) : ceqL ((rs.map Prod.fst).drop k) ((rs2.map Prod.fst).drop k) = false := by
  rw [map_drop (d := d0) h1, map_drop (d := d0) h2, ceqL, h, Bool.false_and]
theorem ceqL_yes {rs rs2 : List (CT × Value)} {k : Nat} (h1 : k < rs.length) (h2 : k < rs2.length) (h : ceq (rs.getD k d0).1 (rs2.getD k d0).1 = true) : ceqL ((rs.map Prod.fst).drop (k + 1)) ((rs2.map Prod.fst).drop (k + 1)) = ceqL ((rs.map Prod.fst).drop k) ((rs2.map Prod.fst).drop k) := by
  rw [map_drop (d := d0) h1, map_drop (d := d0) h2, ceqL, h, Bool.true_and]
mutual
theorem ceq_iff : ∀ (a b : CT), ceq a b = true ↔ a = b
  | .mk h l, .mk h' l' => by
    rw [ceq, Bool.and_eq_true, hEq_iff, ceqL_iff l l']
    simp
theorem ceqL_iff : ∀ (l l' : List CT), ceqL l l' = true ↔ l = l'
  | [], [] => by simp [ceqL]
  | [], _ :: _ => by simp [ceqL]
  | _ :: _, [] => by simp [ceqL]
  | c :: t, c' :: t' => by
    rw [ceqL, Bool.and_eq_true, ceq_iff c c', ceqL_iff t t']
    simp
end
/-- The chains that conditions end themselves. -/
def ownC (l : List CT) : List Int := (List.range l.length).map fun i => (sizeL (l.take (i + 1)) : Int) - 1
def ownCTo (l : List CT) (k : Nat) : List Int := (List.range k).map fun i => (sizeL (l.take (i + 1)) : Int) - 1
theorem ownCTo_succ (l : List CT) (k : Nat) : ownCTo l (k + 1) = ownCTo l k ++ [(sizeL (l.take (k + 1)) : Int) - 1] := by simp [ownCTo, List.range_succ]
theorem ownCTo_len (l : List CT) (k : Nat) : (ownCTo l k).length = k := by simp [ownCTo]
theorem rv_one1 {G : Ghost} {z : List (List CT × Value)} (hz : ∀ q ∈ z, Rs G q.2 q.1) : ∀ i, i < z.length → ∀ j, j < 1 → (at_ (lC (z.getD i ([], .slice none 0 0))) j).oneCell' = true := by
  intro i hi j hj
  have h := (hz _ (getD_mem (d := ([], .slice none 0 0)) hi)).one
  match j, hj with
  | 0, _ => exact h
theorem rv_all {G : Ghost} {rs : List (CT × Value)} (hp : ∀ p ∈ rs, Rs G p.2 p.1.subs) : ∀ u ∈ rs.flatMap rvC, u.oneCell' = true := by
  intro u hu
  obtain ⟨p, h1, h2⟩ := List.mem_flatMap.1 hu
  have h3 := (hp p h1).one
  simp only [rvC, List.mem_cons, List.not_mem_nil, or_false] at h2
  rcases h2 with rfl | rfl | rfl | rfl | rfl | rfl | rfl | rfl
  all_goals first | rfl | exact h3
abbrev RhC (G : Ghost) (z : List (List CT × Value)) : Prop := ∀ q ∈ z, Rs G q.2 q.1
theorem RhC.mono {G G' : Ghost} {z : List (List CT × Value)} (h : RhC G z) (hle : GLe G G') : RhC G' z := fun q hq => (h q hq).mono hle
theorem RhC.snoc {G : Ghost} {z : List (List CT × Value)} {v : Value} {l : List CT} (h : RhC G z) (hl : Rs G v l) : RhC G (z ++ [(l, v)]) := fun q hq => by
  rcases List.mem_append.1 hq with h1 | h1
  · exact h q h1
  · rw [List.mem_singleton.1 h1]; exact hl
theorem RhC.app {G : Ghost} {z z' : List (List CT × Value)} (h : RhC G z) (h' : RhC G z') : RhC G (z ++ z') := fun q hq => by
  rcases List.mem_append.1 hq with h1 | h1
  · exact h q h1
  · exact h' q h1
end Go.Gx.T6

/-
  GX: a row of the call's own is sorted by the library with a function of the program's. Generic in the program.
-/
namespace Go.Gx
open Go.RowKit Go.Sort Go.Proofs

section
variable {α : Type} [Inhabited α]

theorem flatK_eq {enc : α → List Value} {kk : Nat} (hk : ∀ x, (enc x).length = kk) (d : Array α) : flatK enc kk d = (d.toList.flatMap enc).toArray := by
  have hlen : (d.toList.flatMap enc).length = d.size * kk := by
    rw [List.length_flatMap]
    have : d.toList.map (fun x => (enc x).length) = List.replicate d.size kk := by
      rw [List.map_congr_left (fun x _ => hk x), List.map_const']; simp
    rw [this]; simp
  refine ext_get! (by simp [hlen]) fun t ht => ?_
  have ht' : t < d.size * kk := by simpa using ht
  have k0 : 0 < kk := by
    rcases Nat.eq_zero_or_pos kk with h | h
    · subst h; simp at ht'
    · exact h
  rw [get_flatK _ _ _ t ht']
  have h1 : t / kk < d.size := Nat.div_lt_of_lt_mul (by rw [Nat.mul_comm]; exact ht')
  have h2 : t % kk < kk := Nat.mod_lt _ k0
  have h3 := flatMap_get (cells := enc) hk default d.toList (t / kk) (t % kk) (by simpa using h1) h2
  rw [show t / kk * kk + t % kk = t by rw [Nat.mul_comm]; exact Nat.div_add_mod t kk] at h3
  have h4 : (d.toList.flatMap enc).toArray[t]! = (d.toList.flatMap enc).getD t undef := by
    have h5 : t < (d.toList.flatMap enc).length := by rw [hlen]; exact ht'
    rw [getElem!_pos _ t (by simpa using h5)]
    simp [List.getD, List.getElem?_eq_getElem h5]
  rw [h4, h3]
  have h6 : d.toList.getD (t / kk) default = d[t / kk]! := by
    simp [List.getD, Array.getElem!_eq_getD, Array.getD, h1]
  rw [h6]
  have h7 : t % kk < (enc d[t / kk]!).length := by rw [hk]; exact h2
  rw [getElem!_pos (enc d[t / kk]!) (t % kk) h7]
  have h8 := at_get (enc d[t / kk]!) (t % kk) h7
  rw [List.getElem?_eq_getElem h7] at h8
  simpa using h8

theorem holdsV {w : World} {g : Nat} {E : TypeId} {cur : Array Value} {vs : List Value} (hg : w.heap[g]? = some (.cells cur E (0, 0))) (ht : cur.toList.take vs.length = vs) : Holds id w g 0 vs.toArray := by
  intro j hj
  have hj' : j < vs.length := by simpa using hj
  have h1 := congrArg (fun l => l[j]?) ht
  simp only [List.getElem?_take, hj', if_true, List.getElem?_eq_getElem hj'] at h1
  constructor
  · rw [cell_of_row w g (0 + j) cur E (0, 0) hg, Nat.zero_add]
    rw [← Array.getElem?_toList, h1]
    simp [hj']
  · simp [World.frozen?, hg]

theorem afterV {w : World} {g cap q n sz : Nat} {E : TypeId} {cur : Array Value} {os : Array Obj} {vs : List Value} (hg : w.heap[g]? = some (.cells cur E (0, 0))) (hl : vs.length = n * sz) (hc : cur.size = cap * sz) (hcm : cap ≤ maxLen) (hn : n ≤ cap) :
    (rowA (.slice (some ⟨g, 0, none⟩) n cap) E sz n vs).holds (grow (putRow id (Sort.ahead w q) g 0 vs.toArray) os) (fun b => b = g) := by
  have hg' : (Sort.ahead w q).heap[g]? = some (.cells cur E (0, 0)) := hg
  have h1 := putRow_heap (enc := id) (n := 0) (d := vs.toArray) hg'
  have hlt : g < (putRow id (Sort.ahead w q) g 0 vs.toArray).heap.size := lt_of_heap h1
  have hle : vs.length ≤ cur.size := by rw [hl, hc]; exact Nat.mul_le_mul_right sz hn
  refine ⟨⟨hl, .inr ⟨g, cap, putCells id 0 vs.toArray cur, rfl, Nat.zero_le _, ?_, hn, hcm, ?_, ?_⟩⟩, fun b => ⟨fun h => by subst h; rfl, fun h => by simp [Value.ownBlock] at h; exact h.symm⟩, Nat.le_trans hn hcm⟩
  · show ((putRow id (Sort.ahead w q) g 0 vs.toArray).heap ++ os)[g]? = _
    rw [Array.getElem?_append_left hlt]; exact h1
  · simp [putCells, hc]
  · rw [← hl, putCells_take (by simp) (by simpa using hle)]; simp

theorem since_sortV {w : World} {g q : Nat} {os : Array Obj} {vs : Array Value} {F : Nat → Prop} (hF : F g) : Since F w (grow (putRow id (Sort.ahead w q) g 0 vs) os) := by
  have hsz : (putRow id (Sort.ahead w q) g 0 vs).heap.size = w.heap.size := by
    show (w.heap.modify g _).size = _
    simp
  refine ⟨rfl, rfl, rfl, ?_, fun b hb hx => ?_⟩
  · show w.heap.size ≤ (((putRow id (Sort.ahead w q) g 0 vs).heap ++ os)).size
    rw [Array.size_append]; omega
  · have hne : b ≠ g := fun e => hx (e ▸ hF)
    show ((putRow id (Sort.ahead w q) g 0 vs).heap ++ os)[b]? = _
    rw [Array.getElem?_append_left (by omega), putRow_other hne]
    rfl
end

/-- What a call of the library's slices.SortFunc comes to. -/
def SortFC (P : Program) {α : Type} [Inhabited α] (f g : FuncId) (enc : α → List Value) (kk : Nat) (lt : α → α → Bool) : Prop := ∀ (blk cap : Nat) (zs : List α) (w : World), HoldsK enc kk w blk 0 zs.toArray → blk < w.heap.size → zs.length < 4611686018427387904 →
  Calls P f #[.slice (some ⟨blk, 0, none⟩) zs.length cap, .func (.func g) #[] #[]] w fun e w' => e = .returned (.tuple #[]) ∧ ∃ (d' : Array α) (n : Nat) (os : Array Obj), PermIn 0 zs.toArray.size zs.toArray d' ∧ SortedIn lt 0 zs.toArray.size d' ∧ w' = sortWorldK enc kk w blk 0 n d' os
def SortFN (P : Program) (f g : FuncId) : Prop := ∀ (p : Option Addr) (cap : Nat) (w : World), Calls P f #[.slice p 0 cap, .func (.func g) #[] #[]] w fun e w' => e = .returned (.tuple #[]) ∧ w' = w

section
variable {P : Program} {ops : Array Oper} {Q : Exit → Act → World → Prop} {N : Nat} {X : Nat → Prop} {w0 : World} {G : Ghost} {l : List (Nat × Value)} {L : List Asrt}
variable {rest : List Oper} {d k : Nat} {ty : TypeId} {pos : String} {after : Array Edge} {gd : Option (Nat × Bool)} {v : Value} {E : TypeId} {f g : FuncId} {xs : List Operand} {ats : Array TypeId}
variable {α : Type} [Inhabited α] {enc : α → List Value} {kk : Nat} {lt : α → α → Bool} {zs : List α}

theorem r_sortf (hw : Wt ops l gd) (hd : Nat.blt d N = true) (hf : Callable P f) (hv : evs l xs = some [v, .func (.func g) #[] #[]]) (hL : L[k]? = some (rowA v E kk zs.length (zs.flatMap enc))) (hk : ∀ x, (enc x).length = kk) (hs : SortFC P f g enc kk lt) (hn : SortFN P f g) (hlen : zs.length < 4611686018427387904)
    (h : ∀ zs' : List α, zs'.Perm zs → zs'.Pairwise (fun a b => lt b a = false) → Runs P ops Q N X w0 G rest ((d, .tuple #[]) :: l) (L.set k (rowA v E kk zs'.length (zs'.flatMap enc)))) : Runs P ops Q N X w0 G (⟨some d, .call ⟨.value (.func f), xs.toArray, ats⟩, ty, pos, after, gd⟩ :: rest) l L := by
  refine Runs.step hw (fun a w hS => ?_)
  show Oper.upon P _ a _ Q _
  rw [run_call hS.fr hv hf, Oper.upon_enter]
  obtain ⟨F, ⟨⟨hlen1, hown⟩, hF, hmax⟩, _, hput⟩ := hS.mem.take hL
  by_cases hz : zs.length = 0
  · have hz' : zs = [] := List.eq_nil_of_length_eq_zero hz
    subst hz'
    have h' := h [] .nil .nil
    rw [set_same hL] at h'
    have hv2 : ∃ p c, v = .slice p 0 c := by
      rcases hown with ⟨rfl, _⟩ | ⟨g, cap, cur, rfl, _⟩
      · exact ⟨_, _, rfl⟩
      · exact ⟨_, _, rfl⟩
    obtain ⟨p, c, rfl⟩ := hv2
    refine (hn p c w).mono (fun e w' hR => ?_)
    obtain ⟨rfl, rfl⟩ := hR
    exact h' _ _ ⟨hS.fr.put (by simpa using hd) _, hS.mem⟩
  · rcases hown with ⟨_, h0⟩ | ⟨b, cap, cur, rfl, _, hg, hnc, hcm, hcs, htk⟩
    · exact absurd h0 hz
    · have htk' : cur.toList.take (zs.flatMap enc).length = zs.flatMap enc := by rw [hlen1]; exact htk
      have hH : HoldsK enc kk w b 0 zs.toArray := by
        unfold HoldsK
        rw [flatK_eq hk]
        exact holdsV hg (by simpa using htk')
      refine (hs b cap zs w hH (lt_of_heap hg) hlen).mono (fun e w' hR => ?_)
      obtain ⟨rfl, d', q, os, hp, hsd, rfl⟩ := hR
      have hFg : F b := (hF b).2 rfl
      have hsz' : d'.size = zs.length := by have := hp.1; simpa using this
      have hperm : d'.toList.Perm zs := by
        have h3 := hp.2.2
        have e1 : (d'.extract 0 zs.toArray.size).toList = d'.toList := by
          have e3 : zs.toArray.size = d'.size := by simp [hsz']
          rw [e3]; simp
        have e2 : (zs.toArray.extract 0 zs.toArray.size).toList = zs := by simp
        rw [e1, e2] at h3
        exact h3
      have hsort : d'.toList.Pairwise (fun a b => lt b a = false) := by
        rw [List.pairwise_iff_getElem]
        intro i j hi hj hij
        have h4 := hsd i j (Nat.zero_le _) hij (by simp at hj ⊢; omega)
        have hi' : i < d'.size := by simpa using hi
        have hj' : j < d'.size := by simpa using hj
        rw [getElem!_pos d' i hi', getElem!_pos d' j hj'] at h4
        simpa using h4
      refine h d'.toList hperm hsort _ _ ⟨hS.fr.put (by simpa using hd) _, hput _ _ (fun x => x = b) ?_ ?_ (fun x hx => .inl (hx ▸ hFg))⟩
      · unfold sortWorldK putRowK
        exact since_sortV hFg
      · unfold sortWorldK putRowK
        rw [flatK_eq hk]
        have hl2 : (d'.toList.flatMap enc).length = zs.length * kk := by
          have h5 := congrArg Array.size (flatK_eq hk d')
          rw [size_flatK, hsz'] at h5
          simpa using h5.symm
        have h6 := afterV (q := q) (os := os) (vs := d'.toList.flatMap enc) (n := zs.length) hg hl2 hcs hcm hnc
        rw [show d'.toList.length = zs.length by simpa using hsz']
        exact h6
end
end Go.Gx

/- Plain laws of places where variables are bound; no program in sight. -/
namespace Go.Gx.T6
open Go.Gx Go.Gx.T3 Go.Gx.T4 Go.Gx.T8

/-- The place of the first one, or -1. -/
def idxF {α : Type} (pf : α → Bool) : List α → Int → Int
  | [], _ => -1
  | x :: t, k => if pf x = true then k else idxF pf t (k + 1)
theorem drop_cons {α : Type} {l : List α} {k : Nat} (d : α) (h : k < l.length) : l.drop k = l.getD k d :: l.drop (k + 1) := by
  rw [List.drop_eq_getElem_cons h]; simp [List.getD, List.getElem?_eq_getElem h]
theorem idxF_yes {α : Type} {pf : α → Bool} {l : List α} {k : Nat} {d : α} (h : k < l.length) (hp : pf (l.getD k d) = true) : idxF pf (l.drop k) k = k := by
  rw [drop_cons d h, idxF, if_pos hp]
theorem idxF_no {α : Type} {pf : α → Bool} {l : List α} {k : Nat} {d : α} (h : k < l.length) (hp : pf (l.getD k d) = false) : idxF pf (l.drop k) k = idxF pf (l.drop (k + 1)) ((k + 1 : Nat) : Int) := by
  rw [drop_cons d h, idxF, if_neg (by rw [hp]; decide)]; rfl
theorem idxF_none {α : Type} {pf : α → Bool} : ∀ {l : List α} {k : Int}, (∀ x ∈ l, pf x = false) → idxF pf l k = -1
  | [], _, _ => rfl
  | x :: t, k, h => by rw [idxF, if_neg (by rw [h x (by simp)]; decide)]; exact idxF_none (fun y hy => h y (by simp [hy]))
/-- What is found is one that fits. -/
theorem idxF_some {α : Type} {pf : α → Bool} (d : α) : ∀ {l : List α} {k : Int}, 0 ≤ k → 0 ≤ idxF pf l k → ∃ i : Nat, idxF pf l k = k + i ∧ i < l.length ∧ pf (l.getD i d) = true
  | [], k, _, h => by simp [idxF] at h
  | x :: t, k, hk, h => by
    rw [idxF] at h ⊢
    split
    · rename_i hp
      exact ⟨0, by simp, by simp, by simpa using hp⟩
    · rename_i hp
      rw [if_neg hp] at h
      obtain ⟨i, h1, h2, h3⟩ := idxF_some d (by omega) h
      exact ⟨i + 1, by rw [h1]; omega, by simp; omega, by simpa using h3⟩
theorem idxF_neg {α : Type} {pf : α → Bool} : ∀ {l : List α} {k : Int}, 0 ≤ k → ¬ 0 ≤ idxF pf l k → ∀ x ∈ l, pf x = false
  | [], _, _, _ => by simp
  | x :: t, k, hk, h => by
    rw [idxF] at h
    split at h
    · exact absurd hk h
    · rename_i hp
      intro y hy
      rcases List.mem_cons.1 hy with rfl | hy
      · simpa using hp
      · exact idxF_neg (by omega) h y hy
theorem idxF_any {α : Type} (pf : α → Bool) (l : List α) : decide (0 ≤ idxF pf l 0) = l.any pf := by
  by_cases h : 0 ≤ idxF pf l 0
  · rw [decide_eq_true h]
    rcases l with _ | ⟨x, t⟩
    · simp [idxF] at h
    · obtain ⟨i, _, h2, h3⟩ := idxF_some x (Int.le_refl 0) h
      exact (List.any_eq_true.2 ⟨_, getD_mem h2, h3⟩).symm
  · rw [decide_eq_false h]
    have := idxF_neg (Int.le_refl 0) h
    exact (Bool.eq_false_iff.2 (fun h2 => by obtain ⟨x, hx, hp⟩ := List.any_eq_true.1 h2; rw [this x hx] at hp; cases hp)).symm

/-! ### places -/
abbrev PL := Int × Int × Int
def isV (v : Int) (p : PL) : Bool := decide (p.1 = v)
/-- How many Pos there are. -/
def posN : List CT → Nat
  | [] => 0
  | c :: t => (if c.h.k = 1 then 1 else 0) + posN t
theorem posN_append (a b : List CT) : posN (a ++ b) = posN a + posN b := by
  induction a with
  | nil => simp [posN]
  | cons c t ih => simp only [List.cons_append, posN, ih]; omega
theorem posN_len : ∀ l : List CT, posN l ≤ l.length
  | [] => Nat.le_refl _
  | c :: t => by have := posN_len t; rw [posN]; simp; split <;> omega
def pl1 (h : Hd) (b : Int) (out : List PL) (f : Nat) : List PL := if vF h f = true ∧ ¬ 0 ≤ idxF (isV (nF h f)) out 0 then out ++ [(nF h f, b, (f : Int))] else out
def plTo (h : Hd) (b : Int) (out : List PL) : Nat → List PL
  | 0 => out
  | f + 1 => pl1 h b (plTo h b out f) f
def places : List CT → Int → List PL → List PL
  | [], _, out => out
  | c :: t, b, out => if c.h.k = 1 then places t (b + 1) (plTo c.h b out 3) else places t b out
theorem places_snoc (c : CT) : ∀ (l : List CT) (b : Int) (out : List PL), places (l ++ [c]) b out = if c.h.k = 1 then plTo c.h (b + posN l) (places l b out) 3 else places l b out
  | [], b, out => by simp [places, posN]
  | x :: t, b, out => by
    rw [List.cons_append, places]
    split
    · rename_i hx
      rw [places_snoc c t, places, if_pos hx, posN, if_pos hx]
      congr 2
      omega
    · rename_i hx
      rw [places_snoc c t, places, if_neg hx, posN, if_neg hx, Nat.zero_add]
theorem pl1_len (h : Hd) (b : Int) (out : List PL) (f : Nat) : (pl1 h b out f).length ≤ out.length + 1 := by
  unfold pl1; split <;> simp
theorem plTo_len (h : Hd) (b : Int) (out : List PL) : ∀ f, (plTo h b out f).length ≤ out.length + f
  | 0 => Nat.le_refl _
  | f + 1 => by have := plTo_len h b out f; have := pl1_len h b (plTo h b out f) f; rw [plTo]; omega
theorem places_len : ∀ (l : List CT) (b : Int) (out : List PL), (places l b out).length ≤ out.length + 3 * l.length
  | [], _, _ => by simp [places]
  | c :: t, b, out => by
    rw [places]
    have := plTo_len c.h b out 3
    split
    · have := places_len t (b + 1) (plTo c.h b out 3); simp; omega
    · have := places_len t b out; simp; omega
/-- Whose variables differ. -/
def Once (l : List PL) : Prop := l.Pairwise fun a b => a.1 ≠ b.1
theorem pl1_once {h : Hd} {b : Int} {out : List PL} {f : Nat} (ho : Once out) : Once (pl1 h b out f) := by
  unfold pl1
  split
  · rename_i hx
    have := idxF_neg (Int.le_refl 0) hx.2
    refine List.pairwise_append.2 ⟨ho, by simp, fun a ha c hc => ?_⟩
    rw [List.mem_singleton.1 hc]
    have h2 := this a ha
    simpa [isV] using h2
  · exact ho
theorem plTo_once {h : Hd} {b : Int} {out : List PL} (ho : Once out) : ∀ f, Once (plTo h b out f)
  | 0 => ho
  | f + 1 => pl1_once (plTo_once ho f)
theorem places_once : ∀ (l : List CT) (b : Int) (out : List PL), Once out → Once (places l b out)
  | [], _, _, h => h
  | c :: t, b, out, h => by
    rw [places]; split
    · exact places_once t _ _ (plTo_once h 3)
    · exact places_once t _ _ h

def ltP (a b : PL) : Bool := decide (a.1 < b.1)
end Go.Gx.T6
namespace Go.Gx.T6
open Go.Gx Go.Gx.T3 Go.Gx.T4 Go.Gx.T8
theorem sorted_two {a b : PL} {zs : List PL} (h : zs.Perm [a, b]) (hs : zs.Pairwise (fun x y => ltP y x = false)) (hab : ltP a b = true) : zs = [a, b] := by
  have hl := h.length_eq
  match zs, hl with
  | [x, y], _ =>
    have hx : x ∈ [a, b] := h.subset (by simp)
    rcases List.mem_cons.1 hx with rfl | hx
    · have h2 := (List.perm_cons x).1 h
      have h3 := List.perm_singleton.1 h2
      rw [h3]
    · have hx' := List.mem_singleton.1 hx
      subst hx'
      have h1 : [x, y].Perm [x, a] := h.trans (List.Perm.swap x a [])
      have h2 := (List.perm_cons x).1 h1
      have h3 := List.perm_singleton.1 h2
      simp only [List.cons.injEq, and_true] at h3
      subst h3
      have h4 := (List.pairwise_cons.1 hs).1 y (by simp)
      rw [h4] at hab; cases hab
abbrev A6 (n : Int) : CT := .mk ⟨1, false, n, false, 1, true, n⟩ []
abbrev B6 : CT := .mk ⟨3, false, 0, false, 0, false, 0⟩ [A6 2, A6 3]
abbrev L6 : List CT := [A6 1, B6, A6 4]
theorem L6_places : places L6 0 [] = [(1, 0, 2), (4, 1, 2)] := by decide +kernel
theorem L6_bound {zs : List PL} (h : zs.Perm (places L6 0 [])) (hs : zs.Pairwise (fun x y => ltP y x = false)) : zs = [(1, 0, 2), (4, 1, 2)] := by
  rw [L6_places] at h
  exact sorted_two h hs (by decide)
theorem L6_len : (chains [] L6).length = 5 := by decide +kernel
theorem L6_len2 : ((chains [] L6).getD 2 []).length = 3 := by decide +kernel
theorem L6_own : ownC L6 = [0, 3, 4] := by decide +kernel
theorem mapfst_getD {α : Type} {qs : List (α × Value)} (e : α) (v : Value) (i : Nat) : (qs.map Prod.fst).getD i e = (qs.getD i (e, v)).1 := by
  simp only [List.getD, List.getElem?_map]
  cases qs[i]? <;> rfl
end Go.Gx.T6

/- Plain laws of chains: their sizes, where they stand; no program in sight. -/
namespace Go.Gx.T6
open Go.Gx Go.Gx.T3 Go.Gx.T4 Go.Gx.T8

theorem sizeL_append (a b : List CT) : sizeL (a ++ b) = sizeL a + sizeL b := by
  induction a with
  | nil => simp [sizeL]
  | cons c t ih => simp only [List.cons_append, sizeL, ih]; omega
mutual
theorem chain1_size : ∀ (c : CT) (ah : List CT), ∀ x ∈ chain1 ah c, sizeL x ≤ sizeL ah + size c
  | .mk h l, ah, x, hx => by
    rw [chain1] at hx
    rcases List.mem_append.1 hx with hx | hx
    · split at hx
      · have := chains_size l ah x hx
        rw [size]; omega
      · cases hx
    · rw [List.mem_singleton.1 hx, sizeL_append]
      simp [sizeL]
theorem chains_size : ∀ (l : List CT) (ah : List CT), ∀ x ∈ chains ah l, sizeL x ≤ sizeL ah + sizeL l
  | [], _, x, hx => by rw [chains] at hx; cases hx
  | c :: t, ah, x, hx => by
    rw [chains] at hx
    rcases List.mem_append.1 hx with hx | hx
    · have := chain1_size c ah x hx
      rw [sizeL]; omega
    · have := chains_size t (ah ++ [c]) x hx
      rw [sizeL_append] at this
      simp only [sizeL] at this ⊢
      omega
end
mutual
/-- Only Ncc have conditions in them. -/
def flatOk : CT → Bool
  | .mk h l => (decide (h.k = 3) || l.isEmpty) && flatOkL l
def flatOkL : List CT → Bool
  | [] => true
  | c :: t => flatOk c && flatOkL t
end
mutual
theorem flat_of_check : ∀ (c : CT) (d : Int), check c d = 0 → flatOk c = true
  | .mk h l, d, hc => by
    rw [check] at hc
    rw [flatOk]
    split at hc
    · omega
    · split at hc
      · rename_i h3
        split at hc
        · omega
        · split at hc
          · omega
          · rw [flat_of_checkL l _ hc, decide_eq_true h3]; rfl
      · split at hc
        · omega
        · split at hc
          · omega
          · rename_i _ _ h4
            have : l = [] := by
              rcases l with _ | ⟨a, b⟩
              · rfl
              · exact absurd (.inr (by simp)) h4
            subst this
            simp [flatOkL]
theorem flat_of_checkL : ∀ (l : List CT) (d : Int), checkL l d = 0 → flatOkL l = true
  | [], _, _ => by rw [flatOkL]
  | c :: t, d, hc => by
    rw [checkL] at hc
    split at hc
    · rename_i h
      rw [flatOkL, flat_of_check c d h, flat_of_checkL t d hc]; rfl
    · rename_i h; exact absurd hc h
end
theorem flat_all_of {l : List CT} (h : ∀ c ∈ l, check c 1 = 0) : flatOkL l = true := by
  induction l with
  | nil => rw [flatOkL]
  | cons c t ih => rw [flatOkL, flat_of_check c 1 (h c (by simp)), ih (fun x hx => h x (by simp [hx]))]; rfl
mutual
theorem chain1_eq : ∀ (c : CT) (ah : List CT), flatOk c = true → (chain1 ah c).length = size c
  | .mk h l, ah, hc => by
    rw [flatOk, Bool.and_eq_true] at hc
    rw [chain1, size]
    split
    · rw [List.length_append, chains_eq l ah hc.2]; simp; omega
    · rename_i h3
      have : l = [] := by
        have h4 := hc.1
        rw [decide_eq_false h3, Bool.false_or] at h4
        simpa using h4
      subst this
      simp [sizeL]
theorem chains_eq : ∀ (l : List CT) (ah : List CT), flatOkL l = true → (chains ah l).length = sizeL l
  | [], _, _ => by simp [chains, sizeL]
  | c :: t, ah, h => by
    rw [flatOkL, Bool.and_eq_true] at h
    rw [chains, List.length_append, chain1_eq c ah h.1, chains_eq t _ h.2, sizeL]
end
theorem flatOkL_take : ∀ {l : List CT} (k : Nat), flatOkL l = true → flatOkL (l.take k) = true
  | [], k, h => by simpa using h
  | c :: t, 0, _ => by simp [flatOkL]
  | c :: t, k + 1, h => by
    rw [flatOkL, Bool.and_eq_true] at h
    rw [List.take_succ_cons, flatOkL, h.1, flatOkL_take k h.2]; rfl
theorem take_succ {l : List CT} {k : Nat} (hk : k < l.length) : ∃ c, c ∈ l ∧ l.take (k + 1) = l.take k ++ [c] := ⟨l[k], List.getElem_mem hk, List.take_succ_eq_append_getElem hk⟩
/-- The chain that ends at the condition at k. -/
theorem chains_at {l : List CT} {k : Nat} (h : flatOkL l = true) (hk : k < l.length) : (chains [] l).getD (sizeL (l.take (k + 1)) - 1) [] = l.take (k + 1) ∧ sizeL (l.take (k + 1)) - 1 < (chains [] l).length ∧ 1 ≤ sizeL (l.take (k + 1)) := by
  obtain ⟨c, hc, e⟩ := take_succ hk
  have h1 : chains [] l = chains [] (l.take (k + 1)) ++ chains ([] ++ l.take (k + 1)) (l.drop (k + 1)) := by rw [← chains_append, List.take_append_drop]
  have h2 : chains [] (l.take (k + 1)) = chains [] (l.take k) ++ chain1 ([] ++ l.take k) c := by
    rw [e, chains_append]; simp [chains]
  have h3 : ∃ p, chain1 ([] ++ l.take k) c = p ++ [l.take (k + 1)] := by
    cases c with
    | mk hd sb => exact ⟨if hd.k = 3 then chains (l.take k) sb else [], by rw [chain1, e]; simp⟩
  obtain ⟨p, h3⟩ := h3
  have hlen : (chains [] (l.take (k + 1))).length = sizeL (l.take (k + 1)) := chains_eq _ _ (flatOkL_take _ h)
  have hq : chains [] (l.take (k + 1)) = (chains [] (l.take k) ++ p) ++ [l.take (k + 1)] := by rw [h2, h3, List.append_assoc]
  have hl2 : (chains [] (l.take k) ++ p).length = sizeL (l.take (k + 1)) - 1 := by
    have := congrArg List.length hq
    rw [hlen, List.length_append] at this
    simp at this ⊢
    omega
  refine ⟨?_, ?_, ?_⟩
  · rw [h1, hq, ← hl2]
    simp [List.getD]
  · rw [h1, List.length_append, hq, List.length_append, hl2]; simp; omega
  · have := congrArg List.length hq
    rw [hlen, List.length_append] at this
    simp at this
    omega
theorem own_at {l : List CT} {k : Nat} (hk : k < l.length) (h1 : 1 ≤ sizeL (l.take (k + 1))) : (ownC l).getD k 0 = ((sizeL (l.take (k + 1)) - 1 : Nat) : Int) := by
  unfold ownC
  simp [List.getD, hk]
  omega
theorem ownC_len (l : List CT) : (ownC l).length = l.length := by simp [ownC]

/-! ### each but its last condition stands ahead -/
def Ahead (ah : List CT) (cs : List (List CT)) : Prop := ∀ i (hi : i < cs.length), cs[i] ≠ [] ∧ (cs[i].dropLast = ah ∨ ∃ j, ∃ (hj : j < i), cs[j]'(by omega) = cs[i].dropLast)
theorem Ahead.snoc {ah : List CT} {cs : List (List CT)} {c : CT} (h : Ahead ah cs) : Ahead ah (cs ++ [ah ++ [c]]) := by
  intro i hi
  by_cases hlt : i < cs.length
  · have h1 := h i hlt
    rw [List.getElem_append_left hlt]
    refine ⟨h1.1, h1.2.imp id ?_⟩
    rintro ⟨j, hj, e⟩
    exact ⟨j, hj, by rw [List.getElem_append_left (by omega)]; exact e⟩
  · have e : i = cs.length := by simp at hi; omega
    subst e
    simp
theorem Ahead.app {ah : List CT} {cs ds : List (List CT)} {c : CT} (h : Ahead ah (cs ++ [ah ++ [c]])) (h2 : Ahead (ah ++ [c]) ds) : Ahead ah ((cs ++ [ah ++ [c]]) ++ ds) := by
  intro i hi
  by_cases hlt : i < (cs ++ [ah ++ [c]]).length
  · have h1 := h i hlt
    rw [List.getElem_append_left hlt]
    refine ⟨h1.1, h1.2.imp id ?_⟩
    rintro ⟨j, hj, e⟩
    exact ⟨j, hj, by rw [List.getElem_append_left (by omega)]; exact e⟩
  · have hge : (cs ++ [ah ++ [c]]).length ≤ i := by omega
    have h1 := h2 (i - (cs ++ [ah ++ [c]]).length) (by simp at hi hge ⊢; omega)
    rw [List.getElem_append_right hge]
    refine ⟨h1.1, .inr ?_⟩
    rcases h1.2 with e | ⟨j, hj, e⟩
    · refine ⟨cs.length, by simp at hge; omega, ?_⟩
      rw [e]
      rw [List.getElem_append_left (by simp)]
      simp
    · refine ⟨j + (cs ++ [ah ++ [c]]).length, by omega, ?_⟩
      rw [← e, List.getElem_append_right (by omega)]
      congr 1
      omega
mutual
theorem chain1_ahead : ∀ (c : CT) (ah : List CT), ∃ cs, chain1 ah c = cs ++ [ah ++ [c]] ∧ Ahead ah (cs ++ [ah ++ [c]])
  | .mk h l, ah => by
    refine ⟨if h.k = 3 then chains ah l else [], by rw [chain1], Ahead.snoc ?_⟩
    split
    · exact chains_ahead l ah
    · intro i hi; simp at hi
theorem chains_ahead : ∀ (l : List CT) (ah : List CT), Ahead ah (chains ah l)
  | [], _ => by rw [chains]; intro i hi; simp at hi
  | c :: t, ah => by
    obtain ⟨cs, e, h⟩ := chain1_ahead c ah
    rw [chains, e]
    exact Ahead.app h (chains_ahead t (ah ++ [c]))
end
/-- Is a chain the beginning of another? -/
def hadPre (qs : List (List CT)) (x : List CT) (i : Nat) : Bool := decide (x.length = 1) || (qs.take i).any fun y => ceqL y x.dropLast
theorem had_pre {l : List CT} {i : Nat} (hi : i < (chains [] l).length) : (chains [] l).getD i [] ≠ [] ∧ hadPre (chains [] l) ((chains [] l).getD i []) i = true := by
  have h := chains_ahead l [] i hi
  have e : (chains [] l).getD i [] = (chains [] l)[i] := by simp [List.getD, hi]
  rw [e]
  refine ⟨h.1, ?_⟩
  unfold hadPre
  rw [Bool.or_eq_true]
  rcases h.2 with h2 | ⟨j, hj, h2⟩
  · left
    have h3 : (chains [] l)[i].length ≠ 0 := fun hx => h.1 (List.eq_nil_of_length_eq_zero hx)
    have h4 := congrArg List.length h2
    simp at h4
    simp; omega
  · right
    refine List.any_eq_true.2 ⟨(chains [] l)[j], List.mem_iff_getElem.2 ⟨j, by simp; omega, by simp⟩, (ceqL_iff _ _).2 h2⟩
def foundTo (qs : List (List CT)) (x : List CT) (j : Nat) : Bool := decide (x.length = 1) || (qs.take j).any fun y => ceqL y x.dropLast
theorem foundTo_succ {qs : List (List CT)} {x : List CT} {j : Nat} (hj : j < qs.length) : foundTo qs x (j + 1) = (foundTo qs x j || ceqL (qs.getD j []) x.dropLast) := by
  unfold foundTo
  have e : qs.getD j [] = qs[j] := by simp [List.getD, hj]
  rw [List.take_succ_eq_append_getElem hj, e]
  simp only [List.any_append, List.any_cons, List.any_nil, Bool.or_false, Bool.or_assoc]
end Go.Gx.T6
namespace Go.Gx.T6
open Go.Gx Go.Gx.T3 Go.Gx.T4 Go.Gx.T8
abbrev e6 : List CT × Value := ([], .slice none 0 0)
theorem chain_get {cs : List (List CT)} {qs : List (List CT × Value)} {k : Nat} (hl : cs = qs.map Prod.fst) : cs.getD k [] = (qs.getD k e6).1 := by
  rw [hl, mapfst_getD]
theorem chain_small {l : List CT} {qs : List (List CT × Value)} {k : Nat} (hl : chains [] l = qs.map Prod.fst) (hk : k < qs.length) (hsz : sizeL l ≤ 1000) : sizeL (qs.getD k e6).1 ≤ 1000 := by
  have h1 : (qs.getD k e6).1 ∈ chains [] l := by rw [hl]; exact List.mem_map.2 ⟨_, getD_mem hk, rfl⟩
  have := chains_size l [] _ h1
  simp only [sizeL] at this
  omega
theorem chain_same {cs : List (List CT)} {qs ps : List (List CT × Value)} {k : Nat} (h1 : cs = qs.map Prod.fst) (h2 : cs = ps.map Prod.fst) : ceqL (qs.getD k e6).1 (ps.getD k e6).1 = true := by
  rw [← chain_get h1, ← chain_get h2]
  exact (ceqL_iff _ _).2 rfl
theorem sizeL_takeA : ∀ (l : List CT) (k : Nat), sizeL (l.take k) ≤ sizeL l := sizeL_take_le
end Go.Gx.T6
namespace Go.Gx.T6
open Go.Gx Go.Gx.T3 Go.Gx.T4 Go.Gx.T8
theorem own_last {l : List CT} (h : 1 ≤ l.length) : (ownC l).getD (l.length - 1) 0 = (sizeL l : Int) - 1 := by
  unfold ownC
  have h1 : l.length - 1 < l.length := by omega
  simp [List.getD, h1]
  rw [show l.length - 1 + 1 = l.length by omega, List.take_length]
end Go.Gx.T6

/-
  GX: results that lie in memory of the call's own alone; parts of arrays. Generic in the program.
-/
namespace Go.Gx
open Go.RowKit

/-- What is known of the memory that was laid since a world. -/
def fr (w0 : World) (G : Ghost) : Ghost := fun b => if w0.heap.size ≤ b then G b else none
theorem fr_le (w0 : World) (G : Ghost) : GLe (fr w0 G) G := fun b o e => by
  unfold fr at e
  split at e
  · exact e
  · cases e
theorem fr_mono (w0 : World) {G G' : Ghost} (h : GLe G G') : GLe (fr w0 G) (fr w0 G') := fun b o e => by
  unfold fr at e ⊢
  split at e
  · rename_i hb; rw [if_pos hb]; exact h b o e
  · cases e
theorem fr_new (w0 : World) (G : Ghost) (b : Nat) (h : fr w0 G b ≠ none) : w0.heap.size ≤ b := by
  unfold fr at h
  split at h
  · assumption
  · exact absurd rfl h
theorem RowAt.fr {w0 : World} {G : Ghost} {b o n : Nat} {g : Nat → Value} (h : RowAt G b o n g) (hb : w0.heap.size ≤ b) : RowAt (fr w0 G) b o n g := by
  obtain ⟨c, T, f, h1, h2⟩ := h
  exact ⟨c, T, f, by unfold Gx.fr; rw [if_pos hb]; exact h1, h2⟩
theorem SlG.fr {w0 : World} {G : Ghost} {v : Value} {n sz : Nat} {f : Nat → Nat → Value} (h : SlG G v n sz f) (hv : ∀ b, v.ownBlock = some b → w0.heap.size ≤ b) : SlG (fr w0 G) v n sz f := by
  obtain ⟨a, cap, rfl, hc, hr⟩ := h
  refine ⟨a, cap, rfl, hc, fun hn => ?_⟩
  obtain ⟨b, o, rfl, h2⟩ := hr hn
  exact ⟨b, o, rfl, fun i hi => (h2 i hi).fr (hv b rfl)⟩
theorem RowAt.sub {G : Ghost} {b o n j m : Nat} {g : Nat → Value} (h : RowAt G b o n g) (hj : j + m ≤ n) : RowAt G b (o + j) m (fun i => g (j + i)) := by
  obtain ⟨c, T, f, h1, h2⟩ := h
  exact ⟨c, T, f, h1, fun i hi => by rw [Nat.add_assoc]; exact h2 (j + i) (by omega)⟩

section
variable {P : Program} {ops : Array Oper} {Q : Exit → Act → World → Prop} {N : Nat} {w0 : World} {G : Ghost} {l : List (Nat × Value)} {L : List Asrt}
variable {rest : List Oper} {d : Nat} {ty : TypeId} {pos : String} {after : Array Edge} {gd : Option (Nat × Bool)} {v : Value}

theorem Mem.freezeF {w : World} {k n sz : Nat} {E : TypeId} {xs : List Value} (h : Mem nX w0 G w L) (hL : L[k]? = some (rowA v E sz n xs)) :
    ∃ G', GNew w0 nX G G' ∧ SlG (fr w0 G') v n sz (fun i j => xs.getD (i * sz + j) undef) ∧ Mem nX w0 G' w (L.eraseIdx k) := by
  obtain ⟨F, ⟨hown, hF⟩, hU, _⟩ := h.sep.erase hL
  obtain ⟨G', h1, h2, h3⟩ := h.freeze hL
  refine ⟨G', h1, h2.fr (fun b hb => ?_), h3⟩
  rcases (hU b ((hF.1 b).2 hb)).1 with h4 | h4
  · exact h4
  · exact h4.elim
theorem r_freezeF {k n sz : Nat} {E : TypeId} {xs : List Value} (hL : L[k]? = some (rowA v E sz n xs))
    (h : ∀ G', GNew w0 nX G G' → SlG (fr w0 G') v n sz (fun i j => xs.getD (i * sz + j) undef) → Runs P ops Q N nX w0 G' rest l (L.eraseIdx k)) : Runs P ops Q N nX w0 G rest l L := by
  intro a w hS
  obtain ⟨G', h1, h2, h3⟩ := hS.mem.freezeF hL
  exact h G' h1 h2 a w ⟨hS.fr, h3⟩
theorem e_freezeF {e : Exit} {k n sz : Nat} {E : TypeId} {xs : List Value} (hL : L[k]? = some (rowA v E sz n xs))
    (h : ∀ G', GNew w0 nX G G' → SlG (fr w0 G') v n sz (fun i j => xs.getD (i * sz + j) undef) → ERuns Q e N nX w0 G' l (L.eraseIdx k)) : ERuns Q e N nX w0 G l L := by
  intro a w hS
  obtain ⟨G', h1, h2, h3⟩ := hS.mem.freezeF hL
  exact h G' h1 h2 a w ⟨hS.fr, h3⟩

/-- A call whose result lies in memory of its own alone. -/
theorem r_callf {f : FuncId} {xs : List Operand} {vs : List Value} {ats : Array TypeId} {S : Ghost → Value → Prop} (hw : Wt ops l gd) (hd : Nat.blt d N = true) (hf : Callable P f) (hv : evs l xs = some vs)
    (hS : ∀ H H' r, GLe H H' → S H r → S H' r)
    (hc : ∀ w, Has G w → Calls P f vs.toArray w (Ret fun r w' => ∃ H : Ghost, (∀ b, H b ≠ none → w.heap.size ≤ b) ∧ Has H w' ∧ S H r ∧ Since nX w w'))
    (h : ∀ G' r, GNew w0 nX G G' → S (fr w0 G') r → Runs P ops Q N nX w0 G' rest ((d, r) :: l) L) : Runs P ops Q N nX w0 G (⟨some d, .call ⟨.value (.func f), xs.toArray, ats⟩, ty, pos, after, gd⟩ :: rest) l L := by
  refine Runs.step hw (fun a w hSt => ?_)
  show Oper.upon P _ a _ Q _
  rw [run_call hSt.fr hv hf, Oper.upon_enter]
  refine (hc w hSt.mem.has).mono (fun e w' hR => ?_)
  cases e with
  | returned r =>
    obtain ⟨H, hfresh, hh, hr, hs⟩ := hR
    have hnew : GNew w nX G (fun b => match G b with | some o => some o | none => H b) :=
      ⟨fun b o e => by simp [e], fun b e e' => .inl (hfresh b (by simpa [e] using e'))⟩
    have hle : GLe H (fr w0 (fun b => match G b with | some o => some o | none => H b)) := fun b o e => by
      have hge : w.heap.size ≤ b := hfresh b (by rw [e]; simp)
      have : G b = none := hSt.mem.has.fresh hge
      unfold fr
      rw [if_pos (Nat.le_trans hSt.mem.since.size hge)]
      simp [this, e]
    refine h _ r (hnew.up hSt.mem.since.size) (hS _ _ _ hle hr) _ _ ⟨hSt.fr.put (by simpa using hd) _, hSt.mem.callG hs hnew ?_⟩
    intro b o e
    cases e2 : G b with
    | none => simp only [e2] at e; exact hh b o e
    | some o2 =>
      simp only [e2] at e
      cases e
      rw [hs.block b (hSt.mem.has.lt e2) id]
      exact hSt.mem.has b o e2
  | panicked c => exact hR.elim
  | outgrown => exact hR.elim

/-- The same; a row of the call's own is read. -/
theorem r_callfr {f : FuncId} {xs : List Operand} {vs : List Value} {ats : Array TypeId} {k n sz : Nat} {E : TypeId} {r0 : Value} {zs : List Value} {S : Ghost → Value → Prop} (hw : Wt ops l gd) (hd : Nat.blt d N = true) (hf : Callable P f) (hv : evs l xs = some vs) (hL : L[k]? = some (rowA r0 E sz n zs))
    (hS : ∀ H H' r, GLe H H' → S H r → S H' r)
    (hc : ∀ w G1, Has G1 w → GLe G G1 → SlG G1 r0 n sz (fun i j => zs.getD (i * sz + j) undef) → Calls P f vs.toArray w (Ret fun r w' => ∃ H : Ghost, (∀ b, H b ≠ none → w.heap.size ≤ b) ∧ Has H w' ∧ S H r ∧ Since nX w w'))
    (h : ∀ G' r, GNew w0 nX G G' → S (fr w0 G') r → Runs P ops Q N nX w0 G' rest ((d, r) :: l) L) : Runs P ops Q N nX w0 G (⟨some d, .call ⟨.value (.func f), xs.toArray, ats⟩, ty, pos, after, gd⟩ :: rest) l L := by
  refine Runs.step hw (fun a w hSt => ?_)
  show Oper.upon P _ a _ Q _
  rw [run_call hSt.fr hv hf, Oper.upon_enter]
  obtain ⟨G1, h1, h2, h3⟩ := hSt.mem.freeze hL
  refine (hc w G1 h3.has h1.le h2).mono (fun e w' hR => ?_)
  cases e with
  | returned r =>
    obtain ⟨H, hfresh, hh, hr, hs⟩ := hR
    have hnew : GNew w nX G (fun b => match G b with | some o => some o | none => H b) :=
      ⟨fun b o e => by simp [e], fun b e e' => .inl (hfresh b (by simpa [e] using e'))⟩
    have hle : GLe H (fr w0 (fun b => match G b with | some o => some o | none => H b)) := fun b o e => by
      have hge : w.heap.size ≤ b := hfresh b (by rw [e]; simp)
      have : G b = none := hSt.mem.has.fresh hge
      unfold fr
      rw [if_pos (Nat.le_trans hSt.mem.since.size hge)]
      simp [this, e]
    refine h _ r (hnew.up hSt.mem.since.size) (hS _ _ _ hle hr) _ _ ⟨hSt.fr.put (by simpa using hd) _, hSt.mem.callG hs hnew ?_⟩
    intro b o e
    cases e2 : G b with
    | none => simp only [e2] at e; exact hh b o e
    | some o2 =>
      simp only [e2] at e
      cases e
      rw [hs.block b (hSt.mem.has.lt e2) id]
      exact hSt.mem.has b o e2
  | panicked c => exact hR.elim
  | outgrown => exact hR.elim
end

section
variable {P : Program} {N : Nat} {X : Nat → Prop} {w0 : World} {G : Ghost} {l : List (Nat × Value)} {L : List Asrt} {d : Nat} {ty : TypeId} {pos : String} {after : Array Edge} {gd : Option (Nat × Bool)} {x y : Operand}
/-- A part of an array, from its beginning on, as a slice. -/
theorem p_slarr {T E n sz b o m : Nat} {q : IntKind} (hT : P.underlying T = some (.array n E)) (hE : SzIs P E sz) (hx : ev l x = some (.pointer (some ⟨b, o, none⟩))) (hy : ev l y = some (.int q (m : Nat))) (hm : m ≤ n) (hn : n ≤ 1000) :
    PV P N X w0 G l L ⟨some d, .slice T x none (some y) none, ty, pos, after, gd⟩ (.slice (some ⟨b, o, none⟩) m n) := by
  intro ac w hS
  have hmc : (0 : Int) ≤ (m : Int) ∧ (m : Int) ≤ (n : Int) := by omega
  have hadd : (⟨b, o, none⟩ : Addr).add 0 = ⟨b, o, none⟩ := by rw [addr_add, Nat.add_zero]
  simp only [execOp, hS.fr.eval hx, Option.map]
  simp [Instr.sliceAt, run_underlying hT, Instr.sureAddr, Instr.sliceBounds, Instr.sliceBound, asIntOf, hS.fr.eval hy, hE.run, hm, hadd]
theorem slarr_g {b o n m sz : Nat} {g : Nat → Value} (hR : RowAt G b o (n * sz) g) (hm : m ≤ n) (hn : n ≤ 1000) : SlG G (.slice (some ⟨b, o, none⟩) m n) m sz (fun i j => g (i * sz + j)) := by
  refine ⟨_, _, rfl, ⟨hm, by simp only [maxLen]; omega⟩, fun _ => ⟨b, o, rfl, fun i hi => ?_⟩⟩
  exact hR.sub (by have := Nat.mul_le_mul_right sz (show i + 1 ≤ n by omega); rw [Nat.add_mul, Nat.one_mul] at this; exact this)
end
end Go.Gx

/- Plain laws of compiled steps: where variables were bound, found in a sorted list of places; steps that are alike; no program in sight. -/
namespace Go.Gx.T8
open Go.Gx Go.Gx.T3 Go.Gx.T4 Go.Gx.T6

/-! ### the first alike term -/
abbrev TT := Bool × Int
def tmC (t : TT) : List Value := [.bool t.1, .int .i64 t.2]
abbrev tt0 : TT := (false, 0)
def terms (h : Hd) : List TT := [(h.v0, h.n0), (h.v1, h.n1), (h.v2, h.n2)]
def sameT (t z : TT) : Bool := csEq (tmC t) (tmC z)
theorem sameT_eq (t z : TT) : sameT t z = (decide (t.1 = z.1) && decide (t.2 = z.2)) := by
  obtain ⟨a, b⟩ := t
  obtain ⟨c, d⟩ := z
  cases a <;> cases c <;> simp [sameT, tmC, csEq, cEq]
/-- Where the first term ahead of term f stands that is alike; -1: none. -/
def ownG (h : Hd) (f : Nat) : Int := idxF (sameT (vF h f, nF h f)) ((terms h).take f) 0
theorem sameF_T (h : Hd) (g f : Nat) : sameT (vF h f, nF h f) (vF h g, nF h g) = sameF h g f := by
  rw [sameT_eq]; unfold sameF
  rw [show decide (vF h f = vF h g) = decide (vF h g = vF h f) from decide_eq_decide.2 ⟨Eq.symm, Eq.symm⟩, show decide (nF h f = nF h g) = decide (nF h g = nF h f) from decide_eq_decide.2 ⟨Eq.symm, Eq.symm⟩]
theorem ownG_eq (h : Hd) : ∀ f, f < 3 → ownG h f = (dupF h f).getD (-1)
  | 0, _ => by simp [ownG, idxF, dupF]
  | 1, _ => by
    have h1 := sameF_T h 0 1
    show idxF _ [(h.v0, h.n0)] 0 = _
    rw [idxF, show sameT (vF h 1, nF h 1) (h.v0, h.n0) = sameF h 0 1 from h1]
    cases e : sameF h 0 1 <;> simp [idxF, dupF, e]
  | 2, _ => by
    have h1 := sameF_T h 0 2
    have h2 := sameF_T h 1 2
    show idxF _ [(h.v0, h.n0), (h.v1, h.n1)] 0 = _
    rw [idxF, idxF, show sameT (vF h 2, nF h 2) (h.v0, h.n0) = sameF h 0 2 from h1, show sameT (vF h 2, nF h 2) (h.v1, h.n1) = sameF h 1 2 from h2]
    cases e : sameF h 0 2 <;> cases e' : sameF h 1 2 <;> simp [idxF, dupF, e, e']
theorem dup_some {h : Hd} {f : Nat} (hf : f < 3) (hg : 0 ≤ ownG h f) : dupF h f = some (ownG h f) := by
  rw [ownG_eq h f hf] at hg ⊢
  cases e : dupF h f with
  | none => rw [e] at hg; simp at hg
  | some x => rfl
theorem dup_none {h : Hd} {f : Nat} (hf : f < 3) (hg : ¬ 0 ≤ ownG h f) : dupF h f = none := by
  rw [ownG_eq h f hf] at hg
  cases e : dupF h f with
  | none => rfl
  | some x =>
    rw [e] at hg
    exfalso
    apply hg
    show 0 ≤ x
    unfold dupF at e
    split at e
    · cases e; omega
    · split at e
      · cases e; omega
      · cases e

/-! ### bound, by a list of places -/
def lkP (v : Int) (ps : List PL) : Option (Int × Int) := (ps.find? (isV v)).map Prod.snd
theorem lkP_append (v : Int) (a b : List PL) : lkP v (a ++ b) = (lkP v a).or (lkP v b) := by
  unfold lkP
  rw [List.find?_append]
  cases a.find? (isV v) <;> simp
theorem isV_iff {v : Int} {p : PL} : isV v p = true ↔ p.1 = v := by simp [isV]
theorem lkP_none {v : Int} {ps : List PL} (h : ∀ p ∈ ps, isV v p = false) : lkP v ps = none := by
  unfold lkP
  rw [List.find?_eq_none.2 (fun p hp => by rw [h p hp]; decide)]; rfl
theorem lkP_isSome {v : Int} {ps : List PL} (h : 0 ≤ idxF (isV v) ps 0) : (lkP v ps).isSome = true := by
  have h1 : ps.any (isV v) = true := by rw [← idxF_any, decide_eq_true h]
  obtain ⟨p, hp, h2⟩ := List.any_eq_true.1 h1
  unfold lkP
  rw [Option.isSome_map]
  exact List.find?_isSome.2 ⟨p, hp, h2⟩
theorem lkP_pl1 (h : Hd) (b : Int) (out : List PL) (f : Nat) (v : Int) : lkP v (pl1 h b out f) = (lkP v out).or (if vF h f = true ∧ nF h f = v then some (b, (f : Int)) else none) := by
  unfold pl1
  by_cases h1 : vF h f = true
  · by_cases h2 : 0 ≤ idxF (isV (nF h f)) out 0
    · rw [if_neg (by simp [h2])]
      by_cases h3 : nF h f = v
      · subst h3
        have := lkP_isSome h2
        cases e : lkP (nF h f) out with
        | none => rw [e] at this; cases this
        | some x => simp
      · rw [if_neg (by simp [h3])]; simp
    · rw [if_pos ⟨h1, h2⟩, lkP_append]
      congr 1
      by_cases h3 : nF h f = v
      · rw [if_pos ⟨h1, h3⟩]; simp [lkP, isV, h3]
      · rw [if_neg (by simp [h3])]; simp [lkP, isV, h3]
  · rw [if_neg (by simp [h1]), if_neg (by simp [h1])]; simp
theorem or_assoc' {α : Type} (a b c : Option α) : (a.or b).or c = a.or (b.or c) := by cases a <;> simp
theorem lkP_plTo (h : Hd) (b : Int) (out : List PL) (v : Int) : lkP v (plTo h b out 3) = (lkP v out).or ((firstF h v).map fun f => (b, f)) := by
  show lkP v (pl1 h b (pl1 h b (pl1 h b out 0) 1) 2) = _
  rw [lkP_pl1, lkP_pl1, lkP_pl1, or_assoc', or_assoc']
  congr 1
  unfold firstF
  show ((if h.v0 = true ∧ h.n0 = v then some (b, ((0 : Nat) : Int)) else none).or ((if h.v1 = true ∧ h.n1 = v then some (b, ((1 : Nat) : Int)) else none).or (if h.v2 = true ∧ h.n2 = v then some (b, ((2 : Nat) : Int)) else none))) = _
  by_cases h0 : h.v0 = true ∧ h.n0 = v
  · rw [if_pos h0, if_pos h0]; rfl
  · rw [if_neg h0, if_neg h0]
    by_cases h1 : h.v1 = true ∧ h.n1 = v
    · rw [if_pos h1, if_pos h1]; rfl
    · rw [if_neg h1, if_neg h1]
      by_cases h2 : h.v2 = true ∧ h.n2 = v
      · rw [if_pos h2, if_pos h2]; rfl
      · rw [if_neg h2, if_neg h2]; rfl
theorem lkP_places (v : Int) : ∀ (l : List CT) (b : Int) (out : List PL), lkP v (places l b out) = (lkP v out).or (bound v l b)
  | [], b, out => by simp [places, bound]
  | c :: t, b, out => by
    rw [places, bound]
    split
    · rw [lkP_places v t, lkP_plTo, or_assoc']
      congr 1
      cases firstF c.h v <;> simp
    · rw [lkP_places v t]
theorem lkP_once {v : Int} : ∀ {ps : List PL} {p : PL}, Once ps → p ∈ ps → p.1 = v → lkP v ps = some p.2
  | q :: t, p, ho, hp, hv => by
    obtain ⟨h1, h2⟩ := List.pairwise_cons.1 ho
    rcases List.mem_cons.1 hp with rfl | hp
    · simp [lkP, isV, hv]
    · have h3 := h1 p hp
      have h4 : isV v q = false := by simp [isV]; rw [← hv]; exact h3
      have h5 := lkP_once h2 hp hv
      unfold lkP at h5 ⊢
      rw [List.find?_cons, h4]; exact h5
/-- What is found in the sorted places is what is bound. -/
theorem found_bound {l : List CT} {zs : List PL} {v : Int} {i : Nat} (hp : zs.Perm (places l 0 [])) (hi : i < zs.length) (hv : isV v (zs.getD i t0) = true) : bound v l 0 = some (zs.getD i t0).2 := by
  have h1 : zs.getD i t0 ∈ places l 0 [] := hp.subset (getD_mem hi)
  have h2 := lkP_once (places_once l 0 [] .nil) h1 (isV_iff.1 hv)
  rw [lkP_places] at h2
  simpa [lkP] using h2
theorem found_none {l : List CT} {zs : List PL} {v : Int} (hp : zs.Perm (places l 0 [])) (h : ¬ 0 ≤ idxF (isV v) zs 0) : bound v l 0 = none := by
  have h1 := idxF_neg (Int.le_refl 0) h
  have h2 := lkP_places v l 0 []
  rw [lkP_none (fun p hp' => h1 p (hp.symm.subset hp'))] at h2
  simpa [lkP] using h2.symm
theorem testF_b {ch : List CT} {h : Hd} {f : Nat} {x : Int × Int} (hv : vF h f = true) (hb : bound (nF h f) ch 0 = some x) : testF ch h f = [((f : Int), x.1, x.2)] := by
  unfold testF; rw [if_pos hv, hb]
theorem testF_d {ch : List CT} {h : Hd} {f : Nat} {g : Int} (hv : vF h f = true) (hb : bound (nF h f) ch 0 = none) (hd : dupF h f = some g) : testF ch h f = [((f : Int), -1, g)] := by
  unfold testF; rw [if_pos hv, hb, hd]
theorem testF_n {ch : List CT} {h : Hd} {f : Nat} (hv : vF h f = true) (hb : bound (nF h f) ch 0 = none) (hd : dupF h f = none) : testF ch h f = [] := by
  unfold testF; rw [if_pos hv, hb, hd]

theorem Ss.le {G G' : Ghost} {v : Value} {l : List ST} (h : Ss G v l) (hle : GLe G G') : Ss G' v l := h.mono hle
end Go.Gx.T8
namespace Go.Gx.T8
open Go.Gx Go.Gx.T3 Go.Gx.T4 Go.Gx.T6
theorem terms_sl {h : Hd} {k : Int} {sv : Value} {G : Ghost} {v : Value} {f : Nat} (hf : f < 3) (hv : SlG G v f 2 (fun i j => at_ [Value.int .i64 k, Value.bool h.v0, Value.int .i64 h.n0, Value.bool h.v1, Value.int .i64 h.n1, Value.bool h.v2, Value.int .i64 h.n2, sv] (1 + (i * 2 + j)))) : SlL G v 2 tmC tt0 ((terms h).take f) := by
  match f, hf with
  | 0, _ => exact SlG.congr hv (fun i hi => absurd (show i < 0 from hi) (by omega))
  | 1, _ =>
    refine SlG.congr hv (fun i hi j hj => ?_)
    have hi' : i < 1 := hi
    obtain rfl : i = 0 := by omega
    match j, hj with
    | 0, _ => rfl
    | 1, _ => rfl
  | 2, _ =>
    refine SlG.congr hv (fun i hi j hj => ?_)
    match i, hi with
    | 0, _ =>
      match j, hj with
      | 0, _ => rfl
      | 1, _ => rfl
    | 1, _ =>
      match j, hj with
      | 0, _ => rfl
      | 1, _ => rfl
theorem term_at {h : Hd} {k : Int} {sv : Value} {f : Nat} (hf : f < 3) : aggF 2 (fun i => at_ [Value.int .i64 k, Value.bool h.v0, Value.int .i64 h.n0, Value.bool h.v1, Value.int .i64 h.n1, Value.bool h.v2, Value.int .i64 h.n2, sv] (1 + (f * 2 + i))) = Value.agg #[Value.bool (vF h f), Value.int .i64 (nF h f)] := by
  match f, hf with
  | 0, _ => rfl
  | 1, _ => rfl
  | 2, _ => rfl
end Go.Gx.T8
namespace Go.Gx.T8
open Go.Gx Go.Gx.T3 Go.Gx.T4 Go.Gx.T6
theorem take_rs {rs : List (CT × Value)} {k : Nat} (hk : k < rs.length) : rs.take (k + 1) = rs.take k ++ [rs.getD k d0] := by
  rw [List.take_succ_eq_append_getElem hk]; simp [List.getD, List.getElem?_eq_getElem hk]
end Go.Gx.T8

/- Plain laws of steps: alike, right, few; no program in sight. -/
namespace Go.Gx.T8
open Go.Gx Go.Gx.T3 Go.Gx.T4 Go.Gx.T6

theorem tC_eq (a b : TD) : csEq (tC a) (tC b) = decide (a = b) := by
  obtain ⟨a0, a1, a2⟩ := a
  obtain ⟨b0, b1, b2⟩ := b
  by_cases h0 : a0 = b0 <;> by_cases h1 : a1 = b1 <;> by_cases h2 : a2 = b2 <;> simp [tC, csEq, cEq, h0, h1, h2]
theorem take_eq_succ {α : Type} {a b : List α} {k : Nat} {d : α} (ha : k < a.length) (hb : k < b.length) (h : a.take k = b.take k) (he : a.getD k d = b.getD k d) : a.take (k + 1) = b.take (k + 1) := by
  rw [List.take_succ_eq_append_getElem ha, List.take_succ_eq_append_getElem hb, h]
  simp [List.getD, List.getElem?_eq_getElem ha, List.getElem?_eq_getElem hb] at he
  rw [he]
theorem ne_of_get {α : Type} {a b : List α} {k : Nat} {d : α} (he : a.getD k d ≠ b.getD k d) : a ≠ b := fun h => he (by rw [h])
theorem ne_of_len {α : Type} {a b : List α} (h : a.length ≠ b.length) : a ≠ b := fun e => h (by rw [e])
def kEq (a b : SH) : Bool := csEq [.int .i64 a.k0, .int .i64 a.k1, .int .i64 a.k2] [.int .i64 b.k0, .int .i64 b.k1, .int .i64 b.k2]
theorem kEq_iff (a b : SH) : kEq a b = true ↔ a.k0 = b.k0 ∧ a.k1 = b.k1 ∧ a.k2 = b.k2 := by simp [kEq, csEq, cEq, and_assoc]
mutual
def seq : ST → ST → Bool
  | .mk h l, .mk h' l' => (decide (h.k = h'.k) && kEq h h') && (decide (h.ts = h'.ts) && seqL l l')
def seqL : List ST → List ST → Bool
  | [], [] => true
  | c :: t, c' :: t' => seq c c' && seqL t t'
  | _, _ => false
end
theorem seq_eq (a b : ST) : seq a b = ((decide (a.h.k = b.h.k) && kEq a.h b.h) && (decide (a.h.ts = b.h.ts) && seqL a.subs b.subs)) := by cases a; cases b; rw [seq]; rfl
theorem seqL_len : ∀ {l l' : List ST}, l.length ≠ l'.length → seqL l l' = false
  | [], [], h => absurd rfl h
  | [], _ :: _, _ => by simp [seqL]
  | _ :: _, [], _ => by simp [seqL]
  | c :: t, c' :: t', h => by rw [seqL, seqL_len (by simpa using h), Bool.and_false]
theorem sv_drop {rs : List SVal} {k : Nat} (hk : k < rs.length) : (rs.map Prod.fst).drop k = (rs.getD k s0).1 :: (rs.map Prod.fst).drop (k + 1) := by
  rw [List.drop_eq_getElem_cons (by simpa using hk)]
  simp [List.getD, List.getElem?_eq_getElem hk]
theorem seqL_no {rs rs2 : List SVal} {k : Nat} (h1 : k < rs.length) (h2 : k < rs2.length) (h : seq (rs.getD k s0).1 (rs2.getD k s0).1 = false) : seqL ((rs.map Prod.fst).drop k) ((rs2.map Prod.fst).drop k) = false := by
  rw [sv_drop h1, sv_drop h2, seqL, h, Bool.false_and]
theorem seqL_yes {rs rs2 : List SVal} {k : Nat} (h1 : k < rs.length) (h2 : k < rs2.length) (h : seq (rs.getD k s0).1 (rs2.getD k s0).1 = true) : seqL ((rs.map Prod.fst).drop (k + 1)) ((rs2.map Prod.fst).drop (k + 1)) = seqL ((rs.map Prod.fst).drop k) ((rs2.map Prod.fst).drop k) := by
  rw [sv_drop h1, sv_drop h2, seqL, h, Bool.true_and]
mutual
theorem seq_iff : ∀ (a b : ST), seq a b = true ↔ a = b
  | .mk h l, .mk h' l' => by
    rw [seq, Bool.and_eq_true, Bool.and_eq_true, Bool.and_eq_true, decide_eq_true_iff, decide_eq_true_iff, kEq_iff, seqL_iff l l']
    obtain ⟨a, b, c, d, e⟩ := h
    obtain ⟨a', b', c', d', e'⟩ := h'
    simp only [ST.mk.injEq, SH.mk.injEq]
    constructor
    · rintro ⟨⟨h1, h2, h3, h4⟩, h5, h6⟩; exact ⟨⟨h1, h2, h3, h4, h5⟩, h6⟩
    · rintro ⟨⟨h1, h2, h3, h4, h5⟩, h6⟩; exact ⟨⟨h1, h2, h3, h4⟩, h5, h6⟩
theorem seqL_iff : ∀ (l l' : List ST), seqL l l' = true ↔ l = l'
  | [], [] => by simp [seqL]
  | [], _ :: _ => by simp [seqL]
  | _ :: _, [] => by simp [seqL]
  | c :: t, c' :: t' => by
    rw [seqL, Bool.and_eq_true, seq_iff c c', seqL_iff t t']
    simp
end
theorem seq_no {a b : ST} (h : ((¬ a.h.k = b.h.k ∨ kEq a.h b.h = false) ∨ ¬ a.h.ts.length = b.h.ts.length) ∨ ¬ a.subs.length = b.subs.length) : seq a b = false := by
  rw [seq_eq]
  rcases h with ((h | h) | h) | h
  · rw [decide_eq_false h]; rfl
  · rw [h, Bool.and_false]; rfl
  · rw [decide_eq_false (ne_of_len h), Bool.false_and, Bool.and_false]
  · rw [seqL_len h, Bool.and_false, Bool.and_false]
theorem seq_ts {a b : ST} (h : a.h.ts ≠ b.h.ts) : seq a b = false := by rw [seq_eq, decide_eq_false h, Bool.false_and, Bool.and_false]
theorem seq_sub {a b : ST} (h1 : a.h.k = b.h.k) (h2 : kEq a.h b.h = true) (h3 : a.h.ts = b.h.ts) : seq a b = seqL a.subs b.subs := by
  rw [seq_eq, decide_eq_true h1, h2, decide_eq_true h3]; rfl
theorem ssz_at {a : ST} {rs : List SVal} {i n : Nat} (h : a.subs = rs.map Prod.fst) (hi : i < rs.length) (hn : SizeOf.sizeOf a ≤ n + 1) : SizeOf.sizeOf (rs.getD i s0).1 ≤ n := by
  have h1 : (rs.getD i s0).1 ∈ a.subs := by rw [h]; exact sv_mem hi
  have h2 := List.sizeOf_lt_of_mem h1
  have h3 : SizeOf.sizeOf a.subs < SizeOf.sizeOf a := by
    cases a with
    | mk h l => simp [ST.subs]; omega
  omega
theorem s_pos (a : ST) : 0 < SizeOf.sizeOf a := by cases a; simp; omega
end Go.Gx.T8
namespace Go.Gx.T8
open Go.Gx Go.Gx.T3 Go.Gx.T4 Go.Gx.T6
abbrev L8 : List CT := [.mk ⟨1, true, 1, false, 4, true, 2⟩ [], .mk ⟨1, true, 2, false, 4, true, 1⟩ []]
abbrev S80 : ST := .mk ⟨1, 0, 4, 0, []⟩ []
abbrev S81 : ST := .mk ⟨1, 0, 4, 0, [(0, 0, 2), (2, 0, 0)]⟩ []
theorem L8_steps : stepsOf [] L8 = [S80, S81] := (seqL_iff _ _).1 (by decide +kernel)
theorem L8_open {qs : List SVal} (h : stepsOf [] L8 = qs.map Prod.fst) : ∃ a0 b0 a1 b1, qs = [(S80, a0, b0), (S81, a1, b1)] := by
  rw [L8_steps] at h
  match qs, h with
  | [(c0, a0, b0), (c1, a1, b1)], h =>
    simp only [List.map_cons, List.map_nil, List.cons.injEq, and_true] at h
    obtain ⟨rfl, rfl⟩ := h
    exact ⟨a0, b0, a1, b1, rfl⟩
end Go.Gx.T8
namespace Go.Gx.T8
theorem s_subs (a : ST) : SizeOf.sizeOf a.subs < SizeOf.sizeOf a := by
  cases a with
  | mk h l => simp [ST.subs]; omega
end Go.Gx.T8
namespace Go.Gx.T8
open Go.Gx Go.Gx.T3 Go.Gx.T4 Go.Gx.T6
theorem sv_getD {qs : List SVal} {cs : List ST} (h : cs = qs.map Prod.fst) (k : Nat) : (qs.getD k s0).1 = cs.getD k s0.1 := by
  rw [h]
  simp only [List.getD, List.getElem?_map]
  cases qs[k]? <;> rfl
theorem steps_at {rs : List (CT × Value)} {ch : List CT} {k : Nat} (hk : k < rs.length) : (stepsOf ch (rs.map Prod.fst)).getD k s0.1 = stepOf (ch ++ (rs.map Prod.fst).take k) (rs.getD k d0).1 := by
  have e : rs.map Prod.fst = (rs.map Prod.fst).take k ++ ((rs.getD k d0).1 :: (rs.map Prod.fst).drop (k + 1)) := by
    rw [← map_drop (d := d0) hk, List.take_append_drop]
  have h2 : stepsOf ch (rs.map Prod.fst) = stepsOf ch ((rs.map Prod.fst).take k) ++ (stepOf (ch ++ (rs.map Prod.fst).take k) (rs.getD k d0).1 :: stepsOf (ch ++ (rs.map Prod.fst).take k ++ [(rs.getD k d0).1]) ((rs.map Prod.fst).drop (k + 1))) := by
    conv => lhs; rw [e]
    rw [stepsOf_append]
    simp [stepsOf]
  have h3 : (stepsOf ch ((rs.map Prod.fst).take k)).length = k := by rw [stepsOf_len]; simp; omega
  rw [h2]
  simp [List.getD, List.getElem?_append_right, h3]
theorem steps_at_take {rs : List (CT × Value)} {n k : Nat} (hk : k < n) (hn : n ≤ rs.length) : (stepsOf [] ((rs.map Prod.fst).take n)).getD k s0.1 = stepOf ((rs.map Prod.fst).take k) (rs.getD k d0).1 := by
  have h1 : (rs.take n).getD k d0 = rs.getD k d0 := by simp [List.getD, List.getElem?_take, hk]
  have h2 := steps_at (rs := rs.take n) (ch := []) (k := k) (by simp; omega)
  rw [h1, List.map_take, List.take_take, Nat.min_eq_left (by omega)] at h2
  exact h2
end Go.Gx.T8

/- Plain laws of chains of steps; no program in sight. -/
namespace Go.Gx.T8
open Go.Gx Go.Gx.T3 Go.Gx.T4 Go.Gx.T6
mutual
/-- The chains of what stands in a step, and its own. -/
def schain1 : List ST → ST → List (List ST)
  | ah, .mk h l => (if h.k = 3 then schains ah l else []) ++ [ah ++ [.mk h l]]
/-- The chains of steps behind a beginning. -/
def schains : List ST → List ST → List (List ST)
  | _, [] => []
  | ah, c :: t => schain1 ah c ++ schains (ah ++ [c]) t
end
theorem schain1_ncc {ah : List ST} {c : ST} (h : c.h.k = 3) : schain1 ah c = schains ah c.subs ++ [ah ++ [c]] := by
  cases c with | mk hd l => have h' : hd.k = 3 := h; rw [schain1, if_pos h']; rfl
theorem schain1_other {ah : List ST} {c : ST} (h : c.h.k ≠ 3) : schain1 ah c = [ah ++ [c]] := by
  cases c with | mk hd l => have h' : hd.k ≠ 3 := h; rw [schain1, if_neg h']; rfl
theorem schains_append (a b : List ST) : ∀ ah, schains ah (a ++ b) = schains ah a ++ schains (ah ++ a) b := by
  induction a with
  | nil => intro ah; simp [schains]
  | cons c t ih => intro ah; simp [schains, ih]
theorem schains_take {rs : List SVal} {k : Nat} {ah : List ST} (hk : k < rs.length) : schains ah ((rs.map Prod.fst).take (k + 1)) = schains ah ((rs.map Prod.fst).take k) ++ schain1 (ah ++ (rs.map Prod.fst).take k) (rs.getD k s0).1 := by
  rw [sv_take hk, schains_append]; simp [schains]
mutual
theorem schain1_len : ∀ (c : ST) (ah : List ST), (schain1 ah c).length ≤ ssz c
  | .mk h l, ah => by
    have := schains_len l ah
    rw [schain1, ssz]
    split <;> simp <;> omega
theorem schains_len : ∀ (l : List ST) (ah : List ST), (schains ah l).length ≤ sszL l
  | [], _ => by simp [schains, sszL]
  | c :: t, ah => by
    have h1 := schain1_len c ah
    have h2 := schains_len t (ah ++ [c])
    rw [schains, sszL, List.length_append]; omega
end
theorem sszL_append (a b : List ST) : sszL (a ++ b) = sszL a + sszL b := by
  induction a with
  | nil => simp [sszL]
  | cons c t ih => simp only [List.cons_append, sszL, ih]; omega
theorem sszL_take {rs : List SVal} {k : Nat} (hk : k < rs.length) : sszL ((rs.map Prod.fst).take (k + 1)) = sszL ((rs.map Prod.fst).take k) + ssz (rs.getD k s0).1 := by
  rw [sv_take hk, sszL_append]; simp [sszL]
theorem sszL_take_le : ∀ (l : List ST) (k : Nat), sszL (l.take k) ≤ sszL l
  | [], k => by simp
  | c :: t, 0 => by simp [sszL]
  | c :: t, k + 1 => by have := sszL_take_le t k; simp only [List.take_succ_cons, sszL]; omega
mutual
theorem schain1_size : ∀ (c : ST) (ah : List ST), ∀ x ∈ schain1 ah c, sszL x ≤ sszL ah + ssz c
  | .mk h l, ah, x, hx => by
    rw [schain1] at hx
    rcases List.mem_append.1 hx with hx | hx
    · split at hx
      · have := schains_size l ah x hx
        rw [ssz]; omega
      · cases hx
    · rw [List.mem_singleton.1 hx, sszL_append]
      simp [sszL]
theorem schains_size : ∀ (l : List ST) (ah : List ST), ∀ x ∈ schains ah l, sszL x ≤ sszL ah + sszL l
  | [], _, x, hx => by rw [schains] at hx; cases hx
  | c :: t, ah, x, hx => by
    rw [schains] at hx
    rcases List.mem_append.1 hx with hx | hx
    · have := schain1_size c ah x hx
      rw [sszL]; omega
    · have := schains_size t (ah ++ [c]) x hx
      rw [sszL_append] at this
      simp only [sszL] at this ⊢
      omega
end
theorem ssub_size {rs : List SVal} {k : Nat} (hk : k < rs.length) : SizeOf.sizeOf (rs.getD k s0).1.subs < SizeOf.sizeOf (rs.map Prod.fst) := by
  have h2 := List.sizeOf_lt_of_mem (sv_mem hk)
  have h3 := s_subs (rs.getD k s0).1
  omega
/-- What is known of chains of steps that were found. -/
abbrev StC (G : Ghost) (z : List (List ST × Value)) : Prop := ∀ q ∈ z, Ss G q.2 q.1
theorem StC.mono {G G' : Ghost} {z : List (List ST × Value)} (h : StC G z) (hle : GLe G G') : StC G' z := fun q hq => (h q hq).mono hle
theorem StC.snoc {G : Ghost} {z : List (List ST × Value)} {v : Value} {l : List ST} (h : StC G z) (hl : Ss G v l) : StC G (z ++ [(l, v)]) := fun q hq => by
  rcases List.mem_append.1 hq with h1 | h1
  · exact h q h1
  · rw [List.mem_singleton.1 h1]; exact hl
theorem StC.app {G : Ghost} {z z' : List (List ST × Value)} (h : StC G z) (h' : StC G z') : StC G (z ++ z') := fun q hq => by
  rcases List.mem_append.1 hq with h1 | h1
  · exact h q h1
  · exact h' q h1
theorem take_ss {rs : List SVal} {k : Nat} (hk : k < rs.length) : rs.take (k + 1) = rs.take k ++ [rs.getD k s0] := by
  rw [List.take_succ_eq_append_getElem hk]; simp [List.getD, List.getElem?_eq_getElem hk]
theorem ss_ones {G : Ghost} {rs : List SVal} (hpt : ∀ p ∈ rs, SlL G p.2.1 3 tC t0 p.1.h.ts) (hps : ∀ p ∈ rs, Ss G p.2.2 p.1.subs) : ∀ i, i < rs.length → ∀ j, j < 6 → (at_ (sC (rs.getD i s0)) j).oneCell' = true := by
  intro i hi j hj
  have h1 := SlG.one (hpt _ (getD_mem (d := s0) hi))
  have h2 := (hps _ (getD_mem (d := s0) hi)).one
  match j, hj with
  | 0, _ => rfl
  | 1, _ => rfl
  | 2, _ => rfl
  | 3, _ => rfl
  | 4, _ => exact h1
  | 5, _ => exact h2
theorem ss_all {G : Ghost} {rs : List SVal} (hpt : ∀ p ∈ rs, SlL G p.2.1 3 tC t0 p.1.h.ts) (hps : ∀ p ∈ rs, Ss G p.2.2 p.1.subs) : ∀ u ∈ rs.flatMap sC, u.oneCell' = true := by
  intro u hu
  obtain ⟨p, h1, h2⟩ := List.mem_flatMap.1 hu
  have h3 := SlG.one (hpt p h1)
  have h4 := (hps p h1).one
  simp only [sC, List.mem_cons, List.not_mem_nil, or_false] at h2
  rcases h2 with rfl | rfl | rfl | rfl | rfl | rfl
  all_goals first | rfl | exact h3 | exact h4
theorem ss_one1 {G : Ghost} {z : List (List ST × Value)} (hz : StC G z) : ∀ i, i < z.length → ∀ j, j < 1 → (at_ (lC (z.getD i ([], .slice none 0 0))) j).oneCell' = true := by
  intro i hi j hj
  have h := (hz _ (getD_mem (d := ([], .slice none 0 0)) hi)).one
  match j, hj with
  | 0, _ => exact h
theorem ss_take {G : Ghost} {v : Value} {rs : List SVal} {k : Nat} (hk : k ≤ rs.length) (h : SlG G v k 6 (fun i => at_ (sC (rs.getD i s0)))) : SlL G v 6 sC s0 (rs.take k) := by
  unfold SlL
  rw [List.length_take, Nat.min_eq_left hk]
  refine h.congr fun i hi j _ => ?_
  simp [List.getD, List.getElem?_take, hi]
abbrev es6 : List ST × Value := ([], .slice none 0 0)
theorem schain_small {l : List ST} {qs : List (List ST × Value)} {k m : Nat} (hl : schains [] l = qs.map Prod.fst) (hk : k < qs.length) (hsz : sszL l ≤ m) : sszL (qs.getD k es6).1 ≤ m := by
  have h1 : (qs.getD k es6).1 ∈ schains [] l := by rw [hl]; exact List.mem_map.2 ⟨_, getD_mem hk, rfl⟩
  have := schains_size l [] _ h1
  simp only [sszL] at this
  omega
theorem schain_same {cs : List (List ST)} {qs ps : List (List ST × Value)} {k : Nat} (h1 : cs = qs.map Prod.fst) (h2 : cs = ps.map Prod.fst) : seqL (qs.getD k es6).1 (ps.getD k es6).1 = true := by
  rw [← mapfst_getD [] (.slice none 0 0), ← mapfst_getD [] (.slice none 0 0), ← h1, ← h2]
  exact (seqL_iff _ _).2 rfl
end Go.Gx.T8

/- Plain laws of matching: the matches of steps behind a match; no program in sight. -/
namespace Go.Gx.T14
open Go.Gx Go.Gx.T3 Go.Gx.T4 Go.Gx.T8 Go.Gx.T13
/-- A choice on its way: ids and triples. -/
abbrev MT := List Int × List Tri
abbrev sKey (h : SH) : Tri := (h.k0, h.k1, h.k2)
def mw (m : MT) (f : FD) : MT := (m.1 ++ [f.1], m.2 ++ [f.2])
section
variable (fs : List FD)
mutual
/-- The matches of steps behind a match. -/
def gm1 : ST → MT → List MT
  | .mk _ s, m => gm s m
def gm : List ST → MT → List MT
  | [], m => [m]
  | c :: rest, m => if c.h.k = 1 then (fs.filter fun f => meets c.h.k (sKey c.h) c.h.ts m.2 f.2).flatMap fun f => gm rest (mw m f)
      else if c.h.k = 2 then (if (which c.h.k (sKey c.h) c.h.ts m.2 fs).length = 0 then gm rest m else [])
      else if (gm1 c m).isEmpty = true then gm rest m else []
end
end
theorem gm1_eq (fs : List FD) (c : ST) (m : MT) : gm1 fs c m = gm fs c.subs m := by cases c; rw [gm1]; rfl
/-- .. those of the first facts. -/
def gmTo (fs : List FD) (c : ST) (rest : List ST) (m : MT) (k : Nat) : List MT := ((fs.take k).filter fun f => meets c.h.k (sKey c.h) c.h.ts m.2 f.2).flatMap fun f => gm fs rest (mw m f)
section
variable {fs : List FD} {c : ST} {rest : List ST} {m : MT} {k : Nat}
theorem gmTo_zero : gmTo fs c rest m 0 = [] := rfl
theorem gmTo_yes (hk : k < fs.length) (h : meets c.h.k (sKey c.h) c.h.ts m.2 (fs.getD k f0).2 = true) : gmTo fs c rest m (k + 1) = gmTo fs c rest m k ++ gm fs rest (mw m (fs.getD k f0)) := by
  have e : fs.getD k f0 = fs[k] := by simp [List.getD, List.getElem?_eq_getElem hk]
  rw [e] at h ⊢
  unfold gmTo
  rw [List.take_succ_eq_append_getElem hk, List.filter_append, List.flatMap_append]
  simp [h]
theorem gmTo_no (hk : k < fs.length) (h : meets c.h.k (sKey c.h) c.h.ts m.2 (fs.getD k f0).2 = false) : gmTo fs c rest m (k + 1) = gmTo fs c rest m k := by
  have e : fs.getD k f0 = fs[k] := by simp [List.getD, List.getElem?_eq_getElem hk]
  rw [e] at h
  unfold gmTo
  rw [List.take_succ_eq_append_getElem hk, List.filter_append, List.flatMap_append]
  simp [h]
theorem gm_pos (h : c.h.k = 1) : gm fs (c :: rest) m = gmTo fs c rest m fs.length := by rw [gm, if_pos h, gmTo, List.take_length]
theorem gm_neg_no (h : c.h.k = 2) (hw : ¬ (which c.h.k (sKey c.h) c.h.ts m.2 fs).length = 0) : gm fs (c :: rest) m = [] := by rw [gm, if_neg (by omega), if_pos h, if_neg hw]
theorem gm_neg (h : c.h.k = 2) (hw : (which c.h.k (sKey c.h) c.h.ts m.2 fs).length = 0) : gm fs (c :: rest) m = gm fs rest m := by rw [gm, if_neg (by omega), if_pos h, if_pos hw]
theorem gm_ncc_no (h1 : ¬ c.h.k = 1) (h2 : ¬ c.h.k = 2) (hw : (gm fs c.subs m).isEmpty = false) : gm fs (c :: rest) m = [] := by rw [gm, if_neg h1, if_neg h2, gm1_eq, if_neg (by rw [hw]; decide)]
theorem gm_ncc (h1 : ¬ c.h.k = 1) (h2 : ¬ c.h.k = 2) (hw : (gm fs c.subs m).isEmpty = true) : gm fs (c :: rest) m = gm fs rest m := by rw [gm, if_neg h1, if_neg h2, gm1_eq, if_pos hw]
theorem gmTo_split (hk : k ≤ fs.length) (h : c.h.k = 1) : ∃ r, gm fs (c :: rest) m = gmTo fs c rest m k ++ r := by
  rw [gm_pos h]
  refine ⟨((fs.drop k).filter fun f => meets c.h.k (sKey c.h) c.h.ts m.2 f.2).flatMap fun f => gm fs rest (mw m f), ?_⟩
  unfold gmTo
  rw [← List.flatMap_append, ← List.filter_append, List.take_length, List.take_append_drop]
theorem gmTo_len (hk : k ≤ fs.length) (h : c.h.k = 1) : (gmTo fs c rest m k).length ≤ (gm fs (c :: rest) m).length := by
  obtain ⟨r, e⟩ := gmTo_split (rest := rest) (m := m) hk h
  rw [e]; simp
end
/-- What is handed out: all, or the first one. -/
def proc (b : Bool) (l : List MT) : List MT := if b = true then l else l.take 1
theorem proc_true (l : List MT) : proc true l = l := rfl
theorem proc_nil (b : Bool) : proc b [] = [] := by cases b <;> rfl
theorem proc_first {a : List MT} (h : a.isEmpty = false) (r : List MT) : proc false (a ++ r) = proc false a := by
  cases a with
  | nil => cases h
  | cons x t => rfl
theorem proc_all {b : Bool} {l : List MT} (h : b = false → l = []) : proc b l = l := by
  cases b with
  | true => rfl
  | false => rw [h rfl]; rfl
theorem proc_empty {b : Bool} {l : List MT} (h : l.isEmpty = true) : proc b l = [] := by
  have : l = [] := by simpa using h
  rw [this]; exact proc_nil b
/-! ### tests whose fields are fields, at any depth -/
mutual
def okS : ST → Prop
  | .mk h s => (∀ x ∈ h.ts, OkT x) ∧ okSL s
def okSL : List ST → Prop
  | [] => True
  | c :: t => okS c ∧ okSL t
end
theorem okS_eq (c : ST) : okS c = ((∀ x ∈ c.h.ts, OkT x) ∧ okSL c.subs) := by cases c; rw [okS]; rfl
mutual
theorem okS_of : ∀ (c : CT) (ch : List CT), ch.length + size c ≤ 5000 → okS (stepOf ch c)
  | .mk h l, ch, hz => by
    rw [size] at hz
    have h1 := ok_stepOf (ch := ch) (c := .mk h l) (by omega)
    rw [okS_eq]
    refine ⟨h1, ?_⟩
    rw [stepOf]
    split
    · exact okSL_of l ch (by omega)
    · show okSL []
      rw [okSL]; trivial
theorem okSL_of : ∀ (l ch : List CT), ch.length + sizeL l ≤ 5000 → okSL (stepsOf ch l)
  | [], _, _ => by rw [stepsOf, okSL]; trivial
  | c :: t, ch, hz => by
    rw [sizeL] at hz
    have := size_pos c
    rw [stepsOf, okSL]
    exact ⟨okS_of c ch (by omega), okSL_of t (ch ++ [c]) (by simp; omega)⟩
end
theorem okSL_cons {c : ST} {t : List ST} (h : okSL (c :: t)) : ((∀ x ∈ c.h.ts, OkT x) ∧ okSL c.subs) ∧ okSL t := by
  rw [okSL, okS_eq] at h; exact h
theorem okSL_take : ∀ {l : List ST} (k : Nat), okSL l → okSL (l.take k)
  | [], k, h => by simpa using h
  | c :: t, 0, _ => by rw [List.take_zero, okSL]; trivial
  | c :: t, k + 1, h => by
    rw [okSL] at h
    rw [List.take_succ_cons, okSL]
    exact ⟨h.1, okSL_take k h.2⟩
/-- Matches with the values of their ids. -/
abbrev PaC (G : Ghost) (ms : List MT) (z : List (List Int × Value)) : Prop := (z.map Prod.fst = ms.map Prod.fst) ∧ ∀ q ∈ z, SlL G q.2 1 cI 0 q.1
theorem PaC.mono {G G' : Ghost} {ms : List MT} {z : List (List Int × Value)} (h : PaC G ms z) (hle : GLe G G') : PaC G' ms z := ⟨h.1, fun q hq => (h.2 q hq).mono hle⟩
theorem PaC.snoc {G : Ghost} {ms : List MT} {z : List (List Int × Value)} {m : MT} {v : Value} (h : PaC G ms z) (hl : SlL G v 1 cI 0 m.1) : PaC G (ms ++ [m]) (z ++ [(m.1, v)]) := by
  refine ⟨by rw [List.map_append, List.map_append, h.1]; rfl, fun q hq => ?_⟩
  rcases List.mem_append.1 hq with h1 | h1
  · exact h.2 q h1
  · rw [List.mem_singleton.1 h1]; exact hl
abbrev es14 : List Int × Value := ([], .slice none 0 0)
/-! ### without facts -/
theorem which_nil (k : Int) (key : Tri) (ts : List TD) (bs : List Tri) : which k key ts bs [] = [] := rfl
theorem gm_none : ∀ (l : List ST) (m : MT), gm [] l m = [] ∨ gm [] l m = [m]
  | [], m => .inr (by rw [gm])
  | c :: t, m => by
    rw [gm]
    split
    · exact .inl rfl
    · split
      · rw [if_pos (show (which c.h.k (sKey c.h) c.h.ts m.2 []).length = 0 from rfl)]; exact gm_none t m
      · split
        · exact gm_none t m
        · exact .inl rfl
theorem gm_none_pos : ∀ (l : List ST) (m : MT), (∃ c ∈ l, c.h.k = 1) → gm [] l m = []
  | [], _, h => by obtain ⟨c, hc, _⟩ := h; cases hc
  | c :: t, m, h => by
    obtain ⟨x, hx, hk⟩ := h
    rw [gm]
    split
    · rfl
    · rename_i h1
      have ht : ∃ c ∈ t, c.h.k = 1 := by
        rcases List.mem_cons.1 hx with rfl | hx
        · exact absurd hk h1
        · exact ⟨x, hx, hk⟩
      split
      · rw [if_pos (show (which c.h.k (sKey c.h) c.h.ts m.2 []).length = 0 from rfl)]; exact gm_none_pos t m ht
      · split
        · exact gm_none_pos t m ht
        · rfl
theorem gm_none_neg : ∀ (l : List ST) (m : MT), (∀ c ∈ l, c.h.k = 2) → gm [] l m = [m]
  | [], _, _ => by rw [gm]
  | c :: t, m, h => by
    have h2 := h c (by simp)
    rw [gm, if_neg (by omega), if_pos h2, if_pos (show (which c.h.k (sKey c.h) c.h.ts m.2 []).length = 0 from rfl)]
    exact gm_none_neg t m (fun x hx => h x (by simp [hx]))
theorem steps_kinds : ∀ (l ch : List CT), (stepsOf ch l).map (fun s => s.h.k) = l.map (fun c => c.h.k)
  | [], _ => by rw [stepsOf]; rfl
  | c :: t, ch => by
    rw [stepsOf, List.map_cons, List.map_cons, steps_kinds t]
    congr 1
    by_cases h : c.h.k = 3
    · rw [stepOf_ncc h]; rfl
    · rw [stepOf_other h]; rfl
end Go.Gx.T14
namespace Go.Gx.T14
open Go.Gx Go.Gx.T3 Go.Gx.T4 Go.Gx.T8 Go.Gx.T13
theorem ss_cons {l : List ST} {rs : List SVal} (hl : l = rs.map Prod.fst) (h : 0 < rs.length) : l = (rs.getD 0 s0).1 :: (rs.drop 1).map Prod.fst := by
  subst hl
  cases rs with
  | nil => simp at h
  | cons a t => simp
theorem ss_drop {G : Ghost} {v : Value} {rs : List SVal} (h : SlG G v (rs.length - 1) 6 (fun i => at_ (sC (rs.getD (1 + i) s0)))) (ht : ∀ p ∈ rs, SlL G p.2.1 3 tC t0 p.1.h.ts) (hs : ∀ p ∈ rs, Ss G p.2.2 p.1.subs) : Ss G v ((rs.drop 1).map Prod.fst) := by
  refine Ss.mk (rs.drop 1) ?_ (fun p hp => ht p (List.mem_of_mem_drop hp)) (fun p hp => hs p (List.mem_of_mem_drop hp))
  unfold SlL
  rw [List.length_drop]
  refine h.congr fun i hi j _ => ?_
  have e : (rs.drop 1).getD i s0 = rs.getD (1 + i) s0 := by unfold List.getD; rw [List.getElem?_drop]
  show at_ (sC (rs.getD (1 + i) s0)) j = _
  rw [← e]
theorem drop_lt {rs : List SVal} (h : 0 < rs.length) : SizeOf.sizeOf ((rs.drop 1).map Prod.fst) < SizeOf.sizeOf (rs.map Prod.fst) := by
  cases rs with
  | nil => simp at h
  | cons a t => simp; omega
theorem growP_stop {fs : List FD} {c : ST} {rest : List ST} {m : MT} {k : Nat} (hk : k < fs.length) (h1 : c.h.k = 1) (hM : meets c.h.k (sKey c.h) c.h.ts m.2 (fs.getD k f0).2 = true) (hno : gmTo fs c rest m k = []) (hE : (gm fs rest (mw m (fs.getD k f0))).isEmpty = false) :
    (gm fs (c :: rest) m).isEmpty = false ∧ proc false (gm fs (c :: rest) m) = proc false (gm fs rest (mw m (fs.getD k f0))) := by
  obtain ⟨r, e⟩ := gmTo_split (rest := rest) (m := m) (show k + 1 ≤ fs.length by omega) h1
  rw [gmTo_yes hk hM, hno, List.nil_append] at e
  rw [e]
  refine ⟨?_, proc_first hE r⟩
  cases h : gm fs rest (mw m (fs.getD k f0)) with
  | nil => rw [h] at hE; cases hE
  | cons a t => rfl
theorem proc_go {b : Bool} {l : List MT} (h : (b || l.isEmpty) = true) : proc b l = l := by
  cases b with
  | true => rfl
  | false =>
    have h2 : l = [] := by simpa using h
    rw [h2]; rfl
theorem go_nil {b : Bool} {l : List MT} (h : (b || l.isEmpty) = true) (hb : b = false) : l = [] := by
  subst hb; simpa using h
theorem proc_one (b : Bool) (m : MT) : proc b [m] = [m] := by cases b <;> rfl
theorem end_true {b : Bool} {l : List MT} (h : b = false → l = []) : (b || l.isEmpty) = true := by
  cases b with
  | true => rfl
  | false => rw [h rfl]; rfl
end Go.Gx.T14
namespace Go.Gx.T14
open Go.Gx Go.Gx.T3 Go.Gx.T4 Go.Gx.T6 Go.Gx.T8 Go.Gx.T13
/-- Slices of ids. -/
abbrev LI (G : Ghost) (v : Value) (l : List (List Int)) : Prop := Ls (fun G v l => SlL G v 1 cI 0 l) ([] : List Int) G v l
theorem fst_getD (qs : List (List Int × Value)) (k : Nat) : (qs.map Prod.fst).getD k [] = (qs.getD k es14).1 := mapfst_getD [] _ k
theorem same_ne {a b : List (List Int)} {qs qs2 : List (List Int × Value)} {k : Nat} (ha : a = qs.map Prod.fst) (hb : b = qs2.map Prod.fst) (h : (qs.getD k es14).1 ≠ (qs2.getD k es14).1) : a ≠ b := by
  intro e
  apply h
  rw [← fst_getD, ← fst_getD, ← ha, ← hb, e]
theorem same_len {a b : List (List Int)} {qs qs2 : List (List Int × Value)} (ha : a = qs.map Prod.fst) (hb : b = qs2.map Prod.fst) (h : qs.length ≠ qs2.length) : a ≠ b := by
  intro e
  apply h
  have := congrArg List.length e
  rw [ha, hb, List.length_map, List.length_map] at this
  exact this
theorem same_next {qs qs2 : List (List Int × Value)} {k : Nat} (h1 : k < qs.length) (h2 : k < qs2.length) (h : (qs.map Prod.fst).take k = (qs2.map Prod.fst).take k) (he : (qs.getD k es14).1 = (qs2.getD k es14).1) : (qs.map Prod.fst).take (k + 1) = (qs2.map Prod.fst).take (k + 1) :=
  take_eq_succ (d := []) (by simpa using h1) (by simpa using h2) h (by rw [fst_getD, fst_getD]; exact he)
theorem same_end {a b : List (List Int)} {qs qs2 : List (List Int × Value)} {k : Nat} (ha : a = qs.map Prod.fst) (hb : b = qs2.map Prod.fst) (hk : qs.length ≤ k) (hl : qs.length = qs2.length) (h : (qs.map Prod.fst).take k = (qs2.map Prod.fst).take k) : a = b := by
  rw [List.take_of_length_le (by simpa using hk), List.take_of_length_le (by simpa using (by omega : qs2.length ≤ k))] at h
  rw [ha, hb, h]
theorem ints_end {a b : List Int} {j : Nat} (hk : a.length ≤ j) (hl : a.length = b.length) (h : a.take j = b.take j) : a = b := by
  rw [List.take_of_length_le hk, List.take_of_length_le (by omega)] at h; exact h
abbrev A14 : CT := .mk ⟨1, true, 1, false, 9, true, 2⟩ []
abbrev B14 (k : Int) : CT := .mk ⟨k, true, 2, false, 9, true, 3⟩ []
abbrev F14 : List FD := [(1, (1, 9, 2)), (2, (2, 9, 3))]
theorem gm14a : (gm F14 (stepsOf [] [A14, B14 1]) ([], [])).map Prod.fst = [[1, 2]] := by decide +kernel
theorem gm14b : (gm F14 (stepsOf [] [A14, B14 2]) ([], [])).map Prod.fst = [[2]] := by decide +kernel
abbrev nilV : Value := .slice none 0 0
theorem no_ints {k : Int} {o : Nat} {n n' : Int} {m m' : IntKind} (h1 : (row (at_ (cvC (A14, nilV) ++ cvC (B14 k, nilV))) 0 16).toArray[o]? = some (.int m n)) (h2 : (row (at_ (cvC (A14, nilV) ++ cvC (B14 k, nilV))) 0 16).toArray[o + 1]? = some (.int m' n')) : False := by
  match o, h1, h2 with
  | 0, _, h2 => simp [row, cvC, at_, CT.h] at h2
  | 1, h1, _ => simp [row, cvC, at_, CT.h] at h1
  | 2, _, h2 => simp [row, cvC, at_, CT.h] at h2
  | 3, h1, _ => simp [row, cvC, at_, CT.h] at h1
  | 4, _, h2 => simp [row, cvC, at_, CT.h] at h2
  | 5, h1, _ => simp [row, cvC, at_, CT.h] at h1
  | 6, _, h2 => simp [row, cvC, at_, CT.h] at h2
  | 7, h1, _ => simp [row, cvC, at_, CT.h] at h1
  | 8, _, h2 => simp [row, cvC, at_, CT.h] at h2
  | 9, h1, _ => simp [row, cvC, at_, CT.h] at h1
  | 10, _, h2 => simp [row, cvC, at_, CT.h] at h2
  | 11, h1, _ => simp [row, cvC, at_, CT.h] at h1
  | 12, _, h2 => simp [row, cvC, at_, CT.h] at h2
  | 13, h1, _ => simp [row, cvC, at_, CT.h] at h1
  | 14, _, h2 => simp [row, cvC, at_, CT.h] at h2
  | o + 15, h1, _ =>
    cases o with
    | zero => simp [row, cvC, at_, CT.h] at h1
    | succ o => simp [row] at h1
end Go.Gx.T14
namespace Go.Gx.T14
open Go.Gx Go.Gx.T3 Go.Gx.T4 Go.Gx.T6 Go.Gx.T8 Go.Gx.T13
theorem LI.mono {G G' : Ghost} {v : Value} {l : List (List Int)} (h : LI G v l) (hle : GLe G G') : LI G' v l := by
  obtain ⟨rs, h1, h2, h3⟩ := h
  exact ⟨rs, h1.mono hle, fun p hp => (h2 p hp).mono hle, h3⟩
end Go.Gx.T14

/-
  GX: a function value that was handed in is called; an object of no blocks. Generic in the program.
-/
namespace Go.Gx
open Go.RowKit
/-- Nothing. -/
def empA : Asrt where
  holds _ F := ∀ b, ¬ F b
  frame := fun h _ => h
  dom := fun h hb => (h _ hb).elim
theorem evs_app {l : List (Nat × Value)} {cs : List Value} : ∀ {xs : List Operand} {us : List Value}, evs l xs = some us → evs l (xs ++ cs.map Operand.const) = some (us ++ cs)
  | [], us, h => by
    simp only [evs, Option.some.injEq] at h
    subst h
    rw [List.nil_append, List.nil_append]
    induction cs with
    | nil => rfl
    | cons c t ih => simp [evs, ih, ev]
  | x :: xs, us, h => by
    simp only [List.cons_append]
    unfold evs at h ⊢
    cases hx : ev l x with
    | none => simp [hx] at h
    | some u =>
      cases hr : evs l xs with
      | none => simp [hx, hr] at h
      | some r =>
        simp [hx, hr] at h
        subst h
        simp [evs_app hr]
section
variable {P : Program} {ops : Array Oper} {Q : Exit → Act → World → Prop} {N : Nat} {X : Nat → Prop} {w0 : World} {G : Ghost} {l : List (Nat × Value)} {L : List Asrt}
variable {rest : List Oper} {d : Nat} {ty : TypeId} {pos : String} {after : Array Edge} {gd : Option (Nat × Bool)}
theorem Mem.emp {w : World} (h : Mem X w0 G w L) : Mem X w0 G w (empA :: L) := ⟨h.since, h.has, (fun _ => False), fun _ hb => hb, fun _ hb => hb.elim, h.sep.mono (fun _ _ hb => ⟨hb, id⟩)⟩
theorem r_emp (h : Runs P ops Q N X w0 G rest l (empA :: L)) : Runs P ops Q N X w0 G rest l L := fun a w hS => h a w ⟨hS.fr, hS.mem.emp⟩
theorem c_emp {c : Code} (h : CRuns P c Q N X w0 G l (empA :: L)) : CRuns P c Q N X w0 G l L := fun a w hS => h a w ⟨hS.fr, hS.mem.emp⟩
theorem r_yield {τ : Type} {k : Nat} {f : FuncId} {y : Operand} {xs : List Operand} {us cs : List Value} {ats : Array TypeId} {A : Asrt} {B : τ → Asrt} {S : Ghost → Value → τ → Prop} (hw : Wt ops l gd) (hd : Nat.blt d N = true) (hy : ev l y = some (.func (.func f) #[] cs.toArray)) (hx : evs l xs = some us) (hf : Callable P f) (hL : L[k]? = some A)
    (hc : ∀ w F, Has G w → A.holds w F → (∀ b, F b → G b = none) → Calls P f (us ++ cs).toArray w (Ret fun r w' => ∃ G' z, GNew w F G G' ∧ Has G' w' ∧ S G' r z ∧ KeptG (B z) F G' w w'))
    (h : ∀ G' r z, GNew w0 X G G' → S G' r z → Runs P ops Q N X w0 G' rest ((d, r) :: l) (L.set k (B z))) : Runs P ops Q N X w0 G (⟨some d, .call ⟨.value y, xs.toArray, ats⟩, ty, pos, after, gd⟩ :: rest) l L :=
  r_fun hw hy (r_callox (vs := us ++ cs) hw hd hf (evs_app hx) hL hc h)
end
section
variable {P : Program} {ops : Array Oper} {Q : Exit → Act → World → Prop} {N : Nat} {X : Nat → Prop} {w0 : World} {G : Ghost} {l l0 : List (Nat × Value)} {L : List Asrt}
variable {brk : Nat → Bool} {G0 : Ghost} {L0 : List Asrt} {n : Nat} {listed : Array Bool} {o o' o2 : Oper}
/-- Either of three operations may come. -/
theorem d_eff3 (i j m : Nat) {ph : Bool} (hi : ops[i]? = some o) (hj : ops[j]? = some o') (hm : ops[m]? = some o2) (hr : Region.ready .any ops listed = [i, j, m])
    (h : (∀ K : Act → World → Prop, (∀ a w, (K a w ↔ ((brk i = false → Cls w0 G0 L0 w) ∧ wpAnyD P ops (Cls w0 G0 L0) brk Q n (listed.setIfInBounds i true) a w))) → Closed ops (listed.setIfInBounds i true) → Runs P ops (Exit.then K Q0) N X w0 G [o] l L))
    (h' : (∀ K : Act → World → Prop, (∀ a w, (K a w ↔ ((brk j = false → Cls w0 G0 L0 w) ∧ wpAnyD P ops (Cls w0 G0 L0) brk Q n (listed.setIfInBounds j true) a w))) → Closed ops (listed.setIfInBounds j true) → Runs P ops (Exit.then K Q0) N X w0 G [o'] l L))
    (h2 : (∀ K : Act → World → Prop, (∀ a w, (K a w ↔ ((brk m = false → Cls w0 G0 L0 w) ∧ wpAnyD P ops (Cls w0 G0 L0) brk Q n (listed.setIfInBounds m true) a w))) → Closed ops (listed.setIfInBounds m true) → Runs P ops (Exit.then K Q0) N X w0 G [o2] l L)) :
    DR P ops brk G0 L0 Q N X w0 G ph (n + 1) listed l L := by
  intro hcl a w hS hC
  refine ⟨fun h0 => (by rw [h0] at hr; cases hr), fun k hk => ?_⟩
  have hki : k = i ∨ k = j ∨ k = m := by rw [hr] at hk; simpa using hk
  have fin : ∀ (k : Nat) (o : Oper), ops[k]? = some o → k ∈ Region.ready .any ops listed →
      (∀ K : Act → World → Prop, (∀ a w, (K a w ↔ ((brk k = false → Cls w0 G0 L0 w) ∧ wpAnyD P ops (Cls w0 G0 L0) brk Q n (listed.setIfInBounds k true) a w))) → Closed ops (listed.setIfInBounds k true) → Runs P ops (Exit.then K Q0) N X w0 G [o] l L) →
      wpOp P ops Q0 k (fun a' w' => (brk k = false → Cls w0 G0 L0 w') ∧ wpAnyD P ops (Cls w0 G0 L0) brk Q n (listed.setIfInBounds k true) a' w') a w := by
    intro k o ho hk h
    have h1 := h (fun a w => ((brk k = false → Cls w0 G0 L0 w) ∧ wpAnyD P ops (Cls w0 G0 L0) brk Q n (listed.setIfInBounds k true) a w)) (fun _ _ => Iff.rfl) (hcl.set hk) a w hS
    unfold wpOp
    simp only [ho]
    unfold wpList at h1
    split
    · rename_i hw
      rw [if_pos hw] at h1
      rcases h1 with h1 | ⟨_, _, _, hf⟩
      · exact .inl (wp_Q0 (Q := Q0) (fun a w h => h) (wp_QX h1))
      · exact hf.elim
    · rename_i hw
      rw [if_neg hw] at h1
      exact h1
  rcases hki with rfl | rfl | rfl
  · exact fin _ _ hi hk h
  · exact fin _ _ hj hk h'
  · exact fin _ _ hm hk h2
end
section
variable {P : Program} {ops : Array Oper} {brk : Nat → Bool} {G0 : Ghost} {L0 : List Asrt} {Q : Exit → Act → World → Prop} {N : Nat} {X : Nat → Prop} {w0 : World} {G : Ghost} {l : List (Nat × Value)} {L : List Asrt}
variable {d n : Nat} {listed : Array Bool} {ty : TypeId} {pos : String} {after : Array Edge} {gd : Option (Nat × Bool)} {v : Value} {T E : TypeId} {m sz : Nat} {q : IntKind} {f : Nat → Nat → Value} {x o : Operand}
/-- A part of a slice, up to its end, in a drawn region. -/
theorem d_sliceL (i a : Nat) (hi : ops[i]? = some ⟨some d, .slice T x (some o) none none, ty, pos, after, gd⟩) (hb : brk i = false) (hf : firstB ops brk listed i = true) (hbig : ∀ j, ops.size ≤ j → brk j = false) (hw : Wt ops l gd) (hd : Nat.blt d N = true)
    (hT : P.underlying T = some (.slice E)) (hE : SzIs P E sz) (hx : ev l x = some v) (hs : SlG G0 v m sz f) (hlo : ev l o = some (.int q (a : Nat))) (han : a ≤ m)
    (h : ∀ v', SlG G0 v' (m - a) sz (fun i j => f (a + i) j) → DR P ops brk G0 L0 Q N X w0 G true n (listed.setIfInBounds i true) ((d, v') :: l) L) : DR P ops brk G0 L0 Q N X w0 G true (n + 1) listed l L := by
  obtain ⟨v', h1, h2⟩ := p_slice (P := P) (N := N) (X := aX) (w0 := w0) (l := l) (L := L0) (d := d) (ty := ty) (pos := pos) (after := after) (gd := gd) (q := q) (q' := .i64) (a := a) (b := m) hT hE hx hs (some o) none hlo rfl han (Nat.le_refl _)
  exact d_val1 i hi hb hf hbig hw hd h2 (h v' h1)
end
section
variable {P : Program} {ops : Array Oper} {brk : Nat → Bool} {G0 : Ghost} {L0 : List Asrt} {Q : Exit → Act → World → Prop} {N : Nat} {X : Nat → Prop} {w0 : World} {G : Ghost} {l : List (Nat × Value)} {L : List Asrt} {ph : Bool} {m : Nat} {listed : Array Bool}
theorem d_rowsl {E : TypeId} {k n sz : Nat} {v : Value} {xs : List Value} (hL : L[k]? = some (rowA v E sz n xs)) (h : ∀ a c, v = .slice a n c → DR P ops brk G0 L0 Q N X w0 G ph m listed l L) : DR P ops brk G0 L0 Q N X w0 G ph m listed l L := by
  intro hcl ac w hS hC
  obtain ⟨F, ⟨⟨hlen, hown⟩, _⟩, _, _⟩ := hS.mem.take hL
  rcases hown with ⟨rfl, h0⟩ | ⟨g, cap, cur, rfl, _⟩
  · exact h _ _ (by rw [h0]) hcl ac w hS hC
  · exact h _ _ rfl hcl ac w hS hC
end
end Go.Gx
namespace Go.Gx
open Go.RowKit
section
variable {P : Program} {ops : Array Oper} {Q : Exit → Act → World → Prop} {N : Nat} {X : Nat → Prop} {w0 : World} {G : Ghost} {l : List (Nat × Value)} {L : List Asrt}
variable {rest : List Oper} {d : Nat} {ty : TypeId} {pos : String} {after : Array Edge} {gd : Option (Nat × Bool)}
/-- A block of the call's own is read by a call whose result lies in memory of its own alone. -/
theorem r_callbm {f : FuncId} {xs : List Operand} {vs : List Value} {ats : Array TypeId} {k n b : Nat} {E : TypeId} {g : Nat → Value} {S : Ghost → Value → Prop} (hw : Wt ops l gd) (hd : Nat.blt d N = true) (hf : Callable P f) (hv : evs l xs = some vs) (hL : L[k]? = some (box b n E g))
    (hc : ∀ w, BoxAt w b n E g → Calls P f vs.toArray w (Ret fun r w' => ∃ H : Ghost, (∀ b, H b ≠ none → w.heap.size ≤ b) ∧ Has H w' ∧ S H r ∧ Since nX w w'))
    (h : ∀ G' r, GNew w0 X G G' → (∃ H, GLe H G' ∧ S H r) → Runs P ops Q N X w0 G' rest ((d, r) :: l) L) : Runs P ops Q N X w0 G (⟨some d, .call ⟨.value (.func f), xs.toArray, ats⟩, ty, pos, after, gd⟩ :: rest) l L := by
  refine Runs.step hw (fun a w hS => ?_)
  show Oper.upon P _ a _ Q _
  rw [run_call hS.fr hv hf, Oper.upon_enter]
  obtain ⟨F, ⟨hB, _⟩, _, _⟩ := hS.mem.take hL
  refine (hc w hB).mono (fun e w' hR => ?_)
  cases e with
  | returned r =>
    obtain ⟨H, hfresh, hh, hr, hs⟩ := hR
    have hnew : GNew w nX G (fun b => match G b with | some o => some o | none => H b) :=
      ⟨fun b o e => by simp [e], fun b e e' => .inl (hfresh b (by simpa [e] using e'))⟩
    refine h _ r (hnew.up hS.mem.since.size) ⟨H, fun b o e => ?_, hr⟩ _ _ ⟨hS.fr.put (by simpa using hd) _, hS.mem.callG hs hnew ?_⟩
    · have hge : w.heap.size ≤ b := hfresh b (by rw [e]; simp)
      have : G b = none := hS.mem.has.fresh hge
      simp [this, e]
    · intro b o e
      cases e2 : G b with
      | none => simp only [e2] at e; exact hh b o e
      | some o2 =>
        simp only [e2] at e
        cases e
        rw [hs.block b (hS.mem.has.lt e2) id]
        exact hS.mem.has b o e2
  | panicked c => exact hR.elim
  | outgrown => exact hR.elim
end
/-- What is known of one block. -/
def oneG (b : Nat) (o : Obj) : Ghost := fun x => if x = b then some o else none
theorem oneG_has {w : World} {b : Nat} {o : Obj} (h : w.heap[b]? = some o) : Has (oneG b o) w := fun x p e => by
  unfold oneG at e
  split at e
  · rename_i hx; subst hx; cases e; exact h
  · cases e
/-- A row that is known beside one block and lies elsewhere. -/
theorem RowAt.other {w : World} {G : Ghost} {b p o n : Nat} {ob : Obj} {g : Nat → Value} (hn : GNew w nX (oneG b ob) G) (h : RowAt G p o n g) (hne : p ≠ b) : RowAt (Gx.fr w G) p o n g := by
  refine h.fr ?_
  obtain ⟨c, T, f, h1, _⟩ := h
  have h2 : oneG b ob p = none := by unfold oneG; rw [if_neg hne]
  rcases hn.new p h2 (by rw [h1]; simp) with h3 | h3
  · exact h3
  · exact h3.elim
end Go.Gx
