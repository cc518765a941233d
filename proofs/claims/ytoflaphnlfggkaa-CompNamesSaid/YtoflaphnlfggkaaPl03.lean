/-
  Chapter 03, the plain side: terms, bindings as functions on numbers.
-/
import Derived.Test.YtoflaphnlfggkaaGxEq
namespace Go.Gx.T3

def cl (n : Int) : Nat := (min (max n 0) 32).toNat
theorem cl_lt (n : Int) : cl n < 33 := by unfold cl; omega
theorem cl_cast (n : Int) : ((cl n : Nat) : Int) = min (max n 0) 32 := by unfold cl; omega
def vi (b : Bool) : Int := if b then 1 else 0
def termRight (b : Bool) (n : Int) : Bool := decide (1 ≤ n ∧ n ≤ if b then 32 else 4096)
def tripleRight (a b c : Int) : Bool := decide ((1 ≤ a ∧ a ≤ 4096) ∧ (1 ≤ b ∧ b ≤ 4096) ∧ 1 ≤ c ∧ c ≤ 4096)
def updI (B : Nat → Int) (k : Nat) (t : Int) : Nat → Int := fun i => if i = k then t else B i
theorem upd_int (B : Nat → Int) (k : Nat) (t : Int) (i : Nat) : upd (fun i => Value.int .i64 (B i)) k (.int .i64 t) i = .int .i64 (updI B k t i) := by
  rw [upd_eq]; unfold updI; split <;> rfl
def heldTo (B : Nat → Int) (k : Nat) : Nat → Int := fun i => if i < k then min (max (B i) 0) 4096 else B i
def heldB (B : Nat → Int) : Nat → Int := fun i => if i = 0 then 0 else min (max (B i) 0) 4096
theorem held_next (B : Nat → Int) (k i : Nat) : upd (fun i => Value.int .i64 (heldTo B k i)) k (.int .i64 (min (max (heldTo B k k) 0) 4096)) i = .int .i64 (heldTo B (k + 1) i) := by
  rw [upd_eq]; unfold heldTo
  by_cases h : i = k
  · subst h; simp
  · rw [if_neg h]
    by_cases h2 : i < k
    · rw [if_pos h2, if_pos (by omega)]
    · rw [if_neg h2, if_neg (by omega)]

def fit1 (v : Bool) (n t : Int) (B : Nat → Int) : Option (Nat → Int) :=
  if v = true then (if B (cl n) = 0 then some (updI B (cl n) t) else if B (cl n) = t then some B else none) else if n = t then some B else none

def fitTo (v0 : Bool) (n0 : Int) (v1 : Bool) (n1 : Int) (v2 : Bool) (n2 : Int) (t0 t1 t2 : Int) (B : Nat → Int) : Nat → Option (Nat → Int)
  | 0 => some B
  | 1 => fit1 v0 n0 t0 B
  | 2 => (fit1 v0 n0 t0 B).bind (fit1 v1 n1 t1)
  | _ => ((fit1 v0 n0 t0 B).bind (fit1 v1 n1 t1)).bind (fit1 v2 n2 t2)

def fit (v0 : Bool) (n0 : Int) (v1 : Bool) (n1 : Int) (v2 : Bool) (n2 : Int) (t0 t1 t2 : Int) (B : Nat → Int) : Option (Nat → Int) :=
  ((fit1 v0 n0 t0 B).bind (fit1 v1 n1 t1)).bind (fit1 v2 n2 t2)

section
variable {v0 : Bool} {n0 : Int} {v1 : Bool} {n1 : Int} {v2 : Bool} {n2 t0 t1 t2 : Int} {B Bk : Nat → Int}
theorem fitTo_1 (h : fitTo v0 n0 v1 n1 v2 n2 t0 t1 t2 B 0 = some Bk) : fitTo v0 n0 v1 n1 v2 n2 t0 t1 t2 B 1 = fit1 v0 n0 t0 Bk := by
  simp only [fitTo, Option.some.injEq] at h ⊢; rw [h]
theorem fitTo_2 (h : fitTo v0 n0 v1 n1 v2 n2 t0 t1 t2 B 1 = some Bk) : fitTo v0 n0 v1 n1 v2 n2 t0 t1 t2 B 2 = fit1 v1 n1 t1 Bk := by
  simp only [fitTo] at h ⊢; rw [h]; rfl
theorem fitTo_3 (h : fitTo v0 n0 v1 n1 v2 n2 t0 t1 t2 B 2 = some Bk) : fitTo v0 n0 v1 n1 v2 n2 t0 t1 t2 B 3 = fit1 v2 n2 t2 Bk := by
  simp only [fitTo] at h ⊢; rw [h]; rfl
theorem fitNo_0 (h : fitTo v0 n0 v1 n1 v2 n2 t0 t1 t2 B 0 = some Bk) (h2 : fit1 v0 n0 t0 Bk = none) : fit v0 n0 v1 n1 v2 n2 t0 t1 t2 B = none := by
  simp only [fitTo, Option.some.injEq] at h; unfold fit; rw [h, h2]; rfl
theorem fitNo_1 (h : fitTo v0 n0 v1 n1 v2 n2 t0 t1 t2 B 1 = some Bk) (h2 : fit1 v1 n1 t1 Bk = none) : fit v0 n0 v1 n1 v2 n2 t0 t1 t2 B = none := by
  simp only [fitTo] at h; unfold fit; rw [h, Option.bind_some, h2]; rfl
theorem fitNo_2 (h : fitTo v0 n0 v1 n1 v2 n2 t0 t1 t2 B 2 = some Bk) (h2 : fit1 v2 n2 t2 Bk = none) : fit v0 n0 v1 n1 v2 n2 t0 t1 t2 B = none := by
  simp only [fitTo] at h; unfold fit; rw [h, Option.bind_some, h2]
end

def fine (v0 : Bool) (n0 : Int) (v1 : Bool) (n1 : Int) (v2 : Bool) (n2 : Int) : Bool := termRight v0 n0 && (termRight v1 n1 && termRight v2 n2)

def owns (v : Bool) (n : Int) (k : Nat) : Bool := v && decide (n = (k : Int))
def ownTo (v0 : Bool) (n0 : Int) (v1 : Bool) (n1 : Int) (v2 : Bool) (n2 : Int) (k : Nat) : Nat → Bool
  | 0 => false
  | 1 => owns v0 n0 k
  | 2 => owns v0 n0 k || owns v1 n1 k
  | _ => owns v0 n0 k || owns v1 n1 k || owns v2 n2 k

section
variable (v0 : Bool) (n0 : Int) (v1 : Bool) (n1 : Int) (v2 : Bool) (n2 : Int) (k : Nat)
theorem ownTo_1 : ownTo v0 n0 v1 n1 v2 n2 k 1 = (ownTo v0 n0 v1 n1 v2 n2 k 0 || owns v0 n0 k) := rfl
theorem ownTo_2 : ownTo v0 n0 v1 n1 v2 n2 k 2 = (ownTo v0 n0 v1 n1 v2 n2 k 1 || owns v1 n1 k) := rfl
theorem ownTo_3 : ownTo v0 n0 v1 n1 v2 n2 k 3 = (ownTo v0 n0 v1 n1 v2 n2 k 2 || owns v2 n2 k) := rfl
end

/-- One term: what stood for something stays; only the variable's place is new; the place holds something then. -/
theorem fit1_keeps {v : Bool} {n t : Int} {B C : Nat → Int} (h : fit1 v n t B = some C) (hr : termRight v n = true) (ht : 1 ≤ t) (k : Nat) :
    (B k ≠ 0 → C k = B k) ∧ (C k ≠ B k → owns v n k = true) ∧ (owns v n k = true → C k ≠ 0) := by
  unfold fit1 at h
  unfold termRight at hr
  unfold owns
  cases v with
  | false =>
    simp at h
    simp [← h.2]
  | true =>
    simp only [if_true] at h hr
    simp at hr
    have hcl : ∀ k : Nat, cl n = k ↔ n = (k : Int) := fun k => by unfold cl; omega
    split at h
    · rename_i h0
      simp at h
      subst h
      unfold updI
      by_cases e : k = cl n
      · subst e
        have := (hcl (cl n)).1 rfl
        simp [← this]
        omega
      · simp [e]
        intro e2
        exact absurd ((hcl k).2 e2).symm e
    · rename_i h0
      split at h
      · rename_i h1
        simp at h
        subst h
        simp
        intro e
        rw [← (hcl k).2 e]; exact h0
      · cases h

/-- One term that fitted fits again, and changes nothing. -/
theorem fit1_again {v : Bool} {n t : Int} {B C D : Nat → Int} (h : fit1 v n t B = some C) (ht : 1 ≤ t) (hD : ∀ k, C k ≠ 0 → D k = C k) : fit1 v n t D = some D := by
  unfold fit1 at *
  cases v with
  | false =>
    simp at h ⊢
    exact h.1
  | true =>
    simp only [if_true] at h ⊢
    have key : C (cl n) = t := by
      split at h
      · simp at h; subst h; simp [updI]
      · split at h
        · simp at h; subst h; assumption
        · cases h
    have := hD (cl n) (by omega)
    rw [if_neg (by omega), if_pos (by omega)]

theorem fit_keeps {v0 : Bool} {n0 : Int} {v1 : Bool} {n1 : Int} {v2 : Bool} {n2 t0 t1 t2 : Int} {B C : Nat → Int} (h : fit v0 n0 v1 n1 v2 n2 t0 t1 t2 B = some C) (hf : fine v0 n0 v1 n1 v2 n2 = true) (ht : tripleRight t0 t1 t2 = true) :
    (∀ k, (B k ≠ 0 → C k = B k) ∧ (C k ≠ B k → ownTo v0 n0 v1 n1 v2 n2 k 3 = true) ∧ (ownTo v0 n0 v1 n1 v2 n2 k 3 = true → C k ≠ 0)) ∧ fit v0 n0 v1 n1 v2 n2 t0 t1 t2 C = some C := by
  unfold fit at h
  unfold fine at hf
  unfold tripleRight at ht
  simp at hf ht
  obtain ⟨hf0, hf1, hf2⟩ := hf
  obtain ⟨ht0, ht1, ht2⟩ := ht
  cases e0 : fit1 v0 n0 t0 B with
  | none => simp [e0] at h
  | some B1 =>
    simp only [e0, Option.bind_some] at h
    cases e1 : fit1 v1 n1 t1 B1 with
    | none => simp [e1] at h
    | some B2 =>
      simp only [e1, Option.bind_some] at h
      have k0 := fit1_keeps e0 hf0 (by omega)
      have k1 := fit1_keeps e1 hf1 (by omega)
      have k2 := fit1_keeps h hf2 (by omega)
      refine ⟨fun k => ?_, ?_⟩
      · obtain ⟨a0, b0, c0⟩ := k0 k
        obtain ⟨a1, b1, c1⟩ := k1 k
        obtain ⟨a2, b2, c2⟩ := k2 k
        have e01 : B k ≠ 0 → C k = B k := fun hb => by
          have x0 := a0 hb
          have x1 := a1 (by rw [x0]; exact hb)
          have x2 := a2 (by rw [x1, x0]; exact hb)
          rw [x2, x1, x0]
        refine ⟨e01, fun hne => ?_, fun ho => ?_⟩
        · simp only [ownTo, Bool.or_eq_true]
          by_cases y0 : B1 k = B k
          · by_cases y1 : B2 k = B1 k
            · exact .inr (b2 (by rw [y1, y0]; exact hne))
            · exact .inl (.inr (b1 y1))
          · exact .inl (.inl (b0 y0))
        · simp only [ownTo, Bool.or_eq_true] at ho
          rcases ho with (ho | ho) | ho
          · have z0 := c0 ho
            have z1 := a1 z0
            have z2 := a2 (by rw [z1]; exact z0)
            rw [z2, z1]; exact z0
          · have z1 := c1 ho
            have z2 := a2 z1
            rw [z2]; exact z1
          · exact c2 ho
      · have s2 : ∀ k, B2 k ≠ 0 → C k = B2 k := fun k => (k2 k).1
        have s1 : ∀ k, B1 k ≠ 0 → C k = B1 k := fun k hk => by
          have x1 := (k1 k).1 hk
          rw [s2 k (by rw [x1]; exact hk), x1]
        unfold fit
        rw [fit1_again e0 (by omega) s1, Option.bind_some, fit1_again e1 (by omega) s2, Option.bind_some, fit1_again h (by omega) (fun k _ => rfl)]

theorem keeps_of {v0 : Bool} {n0 : Int} {v1 : Bool} {n1 : Int} {v2 : Bool} {n2 t0 t1 t2 : Int} (hf : fine v0 n0 v1 n1 v2 n2 = true) (ht : tripleRight t0 t1 t2 = true) (B : Nat → Int) (k : Nat) :
    (B k ≠ 0 → (fit v0 n0 v1 n1 v2 n2 t0 t1 t2 B).getD B k = B k) ∧ ((fit v0 n0 v1 n1 v2 n2 t0 t1 t2 B).getD B k ≠ B k → ownTo v0 n0 v1 n1 v2 n2 k 3 = true) ∧
    ((fit v0 n0 v1 n1 v2 n2 t0 t1 t2 B).isSome = true → ownTo v0 n0 v1 n1 v2 n2 k 3 = true → (fit v0 n0 v1 n1 v2 n2 t0 t1 t2 B).getD B k ≠ 0) := by
  cases e : fit v0 n0 v1 n1 v2 n2 t0 t1 t2 B with
  | none => simp
  | some C =>
    have := (fit_keeps e hf ht).1 k
    simpa using this

theorem again_of {v0 : Bool} {n0 : Int} {v1 : Bool} {n1 : Int} {v2 : Bool} {n2 t0 t1 t2 : Int} (hf : fine v0 n0 v1 n1 v2 n2 = true) (ht : tripleRight t0 t1 t2 = true) (B : Nat → Int) (h : (fit v0 n0 v1 n1 v2 n2 t0 t1 t2 B).isSome = true) :
    fit v0 n0 v1 n1 v2 n2 t0 t1 t2 ((fit v0 n0 v1 n1 v2 n2 t0 t1 t2 B).getD B) = some ((fit v0 n0 v1 n1 v2 n2 t0 t1 t2 B).getD B) := by
  cases e : fit v0 n0 v1 n1 v2 n2 t0 t1 t2 B with
  | none => rw [e] at h; cases h
  | some C => simpa using (fit_keeps e hf ht).2

theorem IsRow_ints (k : IntKind) (l : List Int) : IsRow (l.map (Value.int k)).toArray l.length (fun i => .int k (l.getD i 0)) :=
  ⟨by simp, fun i hi => by simp [hi]⟩

end Go.Gx.T3
