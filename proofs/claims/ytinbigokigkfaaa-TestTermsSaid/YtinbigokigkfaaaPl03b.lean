/- Plain laws of terms and bindings: what the document's pairs say, and how it puts; no program in sight. -/
import Derived.Test.YtinbigokigkfaaaPl03
import Derived.Test.YtinbigokigkfaaaGxJoin
namespace Go.Gx.T3
open Go.Gx

abbrev Pr := Int × Int
def pr (p : Pr) : List Value := [.int .i64 p.1, .int .i64 p.2]

def prs (B : Nat → Int) : Nat → List Pr
  | 0 => []
  | k + 1 => prs B k ++ (if 0 < (k : Int) ∧ 0 < B k then [((k : Int), B k)] else [])
theorem prs_yes {B : Nat → Int} {k : Nat} (h : 0 < (k : Int) ∧ 0 < B k) : prs B (k + 1) = prs B k ++ [((k : Int), B k)] := by rw [prs, if_pos h]
theorem prs_no {B : Nat → Int} {k : Nat} (h : ¬ (0 < (k : Int) ∧ 0 < B k)) : prs B (k + 1) = prs B k := by rw [prs, if_neg h, List.append_nil]
theorem prs_len (B : Nat → Int) : ∀ k, (prs B k).length ≤ k
  | 0 => by simp [prs]
  | k + 1 => by
    have := prs_len B k
    unfold prs
    split <;> simp <;> omega

def getP : List Pr → Int → Int
  | [], _ => 0
  | p :: t, v => if p.1 = v then p.2 else getP t v

theorem getP_append (l m : List Pr) (v : Int) : getP (l ++ m) v = bif l.any fun p => decide (p.1 = v) then getP l v else getP m v := by
  induction l with
  | nil => simp
  | cons p t ih =>
    simp only [List.cons_append, getP, List.any_cons]
    by_cases h : p.1 = v
    · simp [h]
    · rw [if_neg h, ih, decide_eq_false h, Bool.false_or, if_neg h]

theorem getP_none {l : List Pr} {v : Int} (h : (l.any fun p => decide (p.1 = v)) = false) : getP l v = 0 := by
  induction l with
  | nil => rfl
  | cons p t ih =>
    simp only [List.any_cons, Bool.or_eq_false_iff, decide_eq_false_iff_not] at h
    rw [getP, if_neg h.1, ih h.2]

theorem prs_any {B : Nat → Int} {k : Nat} {v : Int} (h : (k : Int) ≤ v) : ((prs B k).any fun p => decide (p.1 = v)) = false := by
  induction k with
  | zero => rfl
  | succ k ih =>
    unfold prs
    rw [List.any_append, ih (by omega)]
    split
    · simp; omega
    · rfl

theorem getP_prs {B : Nat → Int} (hB : ∀ i, 0 ≤ B i) {n : Nat} (h1 : 1 ≤ n) : ∀ {k : Nat}, n < k → getP (prs B k) n = B n := by
  intro k
  induction k with
  | zero => intro h; omega
  | succ k ih =>
    intro h
    by_cases hk : n = k
    · subst hk
      unfold prs
      rw [getP_append, prs_any (Int.le_refl _), cond_false]
      split
      · simp [getP]
      · have := hB n
        simp only [getP]
        omega
    · unfold prs
      rw [getP_append]
      cases h3 : ((prs B k).any fun p => decide (p.1 = (n : Int))) with
      | true => rw [cond_true, ih (by omega)]
      | false =>
        rw [cond_false]
        have h4 := getP_none h3
        rw [ih (by omega)] at h4
        split
        · simp only [getP]; rw [if_neg (by omega)]; exact h4.symm
        · simp only [getP]; exact h4.symm

/-- Get by rounds. -/
theorem getP_drop {l : List Pr} {i : Nat} {e : Pr} {v : Int} (h : i < l.length) : getP (l.drop i) v = if (l.getD i e).1 = v then (l.getD i e).2 else getP (l.drop (i + 1)) v := by
  have h1 : l.drop i = l.getD i e :: l.drop (i + 1) := by
    rw [List.drop_eq_getElem_cons h]; simp [List.getD, h]
  rw [h1, getP]

/-! ### putting -/

def rpv (v : Bool) (n : Int) (ps : List Pr) : Int := if v then getP ps n else n
def pv (v : Bool) (n : Int) (B : Nat → Int) : Int := if v then B (cl n) else n
def put1 (x : Int) (k : Nat) (T : Nat → Int) : Option (Nat → Int) := if x = 0 then none else some (updI T k x)
def upTo {α : Type} (f : Nat → α → Option α) (s : α) : Nat → Option α
  | 0 => some s
  | k + 1 => (upTo f s k).bind (f k)
theorem upTo_next {α : Type} {f : Nat → α → Option α} {s t : α} {k : Nat} (h : upTo f s k = some t) : upTo f s (k + 1) = f k t := by rw [upTo, h]; rfl
theorem upTo_no {α : Type} {f : Nat → α → Option α} {s t : α} {k : Nat} (h : upTo f s k = some t) (h2 : f k t = none) : ∀ {n : Nat}, k < n → upTo f s n = none := by
  intro n
  induction n with
  | zero => intro h; omega
  | succ n ih =>
    intro hk
    rw [upTo]
    by_cases e : k = n
    · subst e; rw [h]; exact h2
    · rw [ih (by omega)]; rfl
def sel3 (x0 x1 x2 : Int) : Nat → Int
  | 0 => x0
  | 1 => x1
  | _ => x2
def put (x0 x1 x2 : Int) : Nat → Option (Nat → Int) := upTo (fun k => put1 (sel3 x0 x1 x2 k) k) (fun _ => 0)

theorem heldB_nonneg (B : Nat → Int) (i : Nat) : 0 ≤ heldB B i := by
  unfold heldB; split <;> omega

theorem pv_rpv {v : Bool} {n : Int} {l : List Pr} (B : Nat → Int) (hl : ∀ k : Nat, 1 ≤ k → k < 33 → getP l k = B k) (h : termRight v n = true) : rpv v n l = pv v n B := by
  cases v with
  | false => rfl
  | true =>
    have h0 : 1 ≤ n ∧ n ≤ 32 := by simpa [termRight] using h
    have h1 : ((cl n : Nat) : Int) = n := by rw [cl_cast]; omega
    have h3 : cl n < 33 := cl_lt n
    have := hl (cl n) (by omega) h3
    rw [h1] at this
    exact this

theorem prs_held (B : Nat → Int) (k : Nat) (h1 : 1 ≤ k) (h2 : k < 33) : getP (prs (heldB B) 33) k = heldB B k := getP_prs (heldB_nonneg B) h1 h2

theorem fine_split {v0 : Bool} {n0 : Int} {v1 : Bool} {n1 : Int} {v2 : Bool} {n2 : Int} (h : fine v0 n0 v1 n1 v2 n2 = true) : termRight v0 n0 = true ∧ termRight v1 n1 = true ∧ termRight v2 n2 = true := by
  simpa [fine] using h

theorem put_rput {v0 : Bool} {n0 : Int} {v1 : Bool} {n1 : Int} {v2 : Bool} {n2 : Int} (B : Nat → Int) (h : fine v0 n0 v1 n1 v2 n2 = true) :
    put (rpv v0 n0 (prs (heldB B) 33)) (rpv v1 n1 (prs (heldB B) 33)) (rpv v2 n2 (prs (heldB B) 33)) 3 = put (pv v0 n0 (heldB B)) (pv v1 n1 (heldB B)) (pv v2 n2 (heldB B)) 3 := by
  obtain ⟨h0, h1, h2⟩ := fine_split h
  rw [pv_rpv (heldB B) (prs_held B) h0, pv_rpv (heldB B) (prs_held B) h1, pv_rpv (heldB B) (prs_held B) h2]

/-! ### fitting, as the document says it -/

def rfit1 (v : Bool) (n t : Int) (ps : List Pr) : Option (List Pr) :=
  if v = true then (if getP ps n = 0 then some (ps ++ [(n, t)]) else if getP ps n = t then some ps else none) else if n = t then some ps else none

def selB (v0 v1 v2 : Bool) : Nat → Bool
  | 0 => v0
  | 1 => v1
  | _ => v2

def rfit (v0 : Bool) (n0 : Int) (v1 : Bool) (n1 : Int) (v2 : Bool) (n2 : Int) (t0 t1 t2 : Int) (ps : List Pr) : Nat → Option (List Pr) :=
  upTo (fun k => rfit1 (selB v0 v1 v2 k) (sel3 n0 n1 n2 k) (sel3 t0 t1 t2 k)) ps

theorem rfit1_len {v : Bool} {n t : Int} {ps qs : List Pr} (h : rfit1 v n t ps = some qs) : qs.length ≤ ps.length + 1 := by
  unfold rfit1 at h
  repeat' split at h
  all_goals simp at h
  all_goals subst h
  all_goals simp

theorem rfit_len {v0 : Bool} {n0 : Int} {v1 : Bool} {n1 : Int} {v2 : Bool} {n2 : Int} {t0 t1 t2 : Int} {ps : List Pr} : ∀ {k : Nat} {qs : List Pr}, rfit v0 n0 v1 n1 v2 n2 t0 t1 t2 ps k = some qs → qs.length ≤ ps.length + k := by
  intro k
  induction k with
  | zero => intro qs h; simp [rfit, upTo] at h; subst h; simp
  | succ k ih =>
    intro qs h
    unfold rfit at h ih
    rw [upTo] at h
    cases hk : upTo (fun k => rfit1 (selB v0 v1 v2 k) (sel3 n0 n1 n2 k) (sel3 t0 t1 t2 k)) ps k with
    | none => rw [hk] at h; cases h
    | some rs =>
      rw [hk] at h
      have h1 := ih hk
      have h2 := rfit1_len (show rfit1 _ _ _ rs = some qs from h)
      omega

/-- What the pairs say is what the binding says. -/
structure Agree (ps : List Pr) (B : Nat → Int) : Prop where
  nz : ∀ p ∈ ps, p.2 ≠ 0
  eq : ∀ k : Nat, 1 ≤ k → k < 33 → getP ps k = B k

theorem getP_nz {ps : List Pr} {v : Int} (h : ∀ p ∈ ps, p.2 ≠ 0) (h0 : getP ps v = 0) : (ps.any fun p => decide (p.1 = v)) = false := by
  induction ps with
  | nil => rfl
  | cons p t ih =>
    rw [getP] at h0
    by_cases hp : p.1 = v
    · rw [if_pos hp] at h0
      exact absurd h0 (h p (by simp))
    · rw [if_neg hp] at h0
      rw [List.any_cons, decide_eq_false hp, Bool.false_or]
      exact ih (fun q hq => h q (by simp [hq])) h0

theorem fit1_agree {v : Bool} {n t : Int} {ps : List Pr} {B : Nat → Int} (ha : Agree ps B) (hr : termRight v n = true) (ht : 1 ≤ t) :
    match fit1 v n t B, rfit1 v n t ps with
    | some C, some qs => Agree qs C ∧ (C 0 = B 0)
    | none, none => True
    | _, _ => False := by
  unfold fit1 rfit1
  cases v with
  | false => by_cases h : n = t <;> simp [h, ha]
  | true =>
    have h0 : 1 ≤ n ∧ n ≤ 32 := by simpa [termRight] using hr
    have h1 : ((cl n : Nat) : Int) = n := by rw [cl_cast]; omega
    have h2 : 1 ≤ cl n := by omega
    have h4 := ha.eq (cl n) h2 (cl_lt n)
    rw [h1] at h4
    simp only [if_true, h4]
    by_cases h5 : B (cl n) = 0
    · simp only [h5, if_true]
      rw [h5] at h4
      have hno := getP_nz ha.nz h4
      refine ⟨⟨fun p hp => ?_, fun k hk1 hk2 => ?_⟩, by simp [updI]; omega⟩
      · rcases List.mem_append.1 hp with hp | hp
        · exact ha.nz p hp
        · simp at hp; subst hp; show t ≠ 0; omega
      · rw [getP_append]
        by_cases hk : k = cl n
        · subst hk
          rw [h1, hno, cond_false]
          simp [getP, updI]
        · simp only [updI, hk, if_false]
          cases h6 : (ps.any fun p => decide (p.1 = (k : Int))) with
          | true => rw [cond_true, ha.eq k hk1 hk2]
          | false =>
            rw [cond_false, getP, if_neg (by simp; omega), getP, ← ha.eq k hk1 hk2, getP_none h6]
    · rw [if_neg h5, if_neg h5]
      by_cases h6 : B (cl n) = t
      · rw [if_pos h6, if_pos h6]; exact ⟨ha, rfl⟩
      · rw [if_neg h6, if_neg h6]; trivial

theorem prs_nz (B : Nat → Int) : ∀ k, ∀ p ∈ prs B k, p.2 ≠ 0
  | 0, p, h => by simp [prs] at h
  | k + 1, p, h => by
    unfold prs at h
    rcases List.mem_append.1 h with h | h
    · exact prs_nz B k p h
    · split at h
      · simp at h; subst h; show B k ≠ 0; omega
      · simp at h

theorem held_agree (B : Nat → Int) : Agree (prs (heldB B) 33) (heldB B) := ⟨prs_nz _ _, prs_held B⟩

def Rel (x : Option (Nat → Int)) (y : Option (List Pr)) : Prop :=
  match x, y with
  | some C, some qs => Agree qs C ∧ C 0 = 0
  | none, none => True
  | _, _ => False

theorem Rel.bind {x : Option (Nat → Int)} {y : Option (List Pr)} (h : Rel x y) {v : Bool} {n t : Int} (hr : termRight v n = true) (ht : 1 ≤ t) : Rel (x.bind (fit1 v n t)) (y.bind (rfit1 v n t)) := by
  cases x with
  | none => cases y with
    | none => exact h
    | some _ => exact h.elim
  | some C => cases y with
    | none => exact h.elim
    | some qs =>
      obtain ⟨h1, h2⟩ := h
      have := fit1_agree h1 hr ht
      show Rel (fit1 v n t C) (rfit1 v n t qs)
      unfold Rel
      cases h3 : fit1 v n t C <;> cases h4 : rfit1 v n t qs <;> simp only [h3, h4] at this ⊢
      exact ⟨this.1, by rw [this.2, h2]⟩

theorem tripleRight_ge {t0 t1 t2 : Int} (ht : tripleRight t0 t1 t2 = true) : 1 ≤ t0 ∧ 1 ≤ t1 ∧ 1 ≤ t2 := by
  have ht' : (1 ≤ t0 ∧ t0 ≤ 4096) ∧ (1 ≤ t1 ∧ t1 ≤ 4096) ∧ 1 ≤ t2 ∧ t2 ≤ 4096 := by simpa [tripleRight] using ht
  omega

theorem fit_agree {v0 : Bool} {n0 : Int} {v1 : Bool} {n1 : Int} {v2 : Bool} {n2 : Int} {t0 t1 t2 : Int} (B : Nat → Int) (hf : fine v0 n0 v1 n1 v2 n2 = true) (ht : tripleRight t0 t1 t2 = true) :
    Rel (fit v0 n0 v1 n1 v2 n2 t0 t1 t2 (heldB B)) (rfit v0 n0 v1 n1 v2 n2 t0 t1 t2 (prs (heldB B) 33) 3) := by
  obtain ⟨hf0, hf1, hf2⟩ := fine_split hf
  obtain ⟨g0, g1, g2⟩ := tripleRight_ge ht
  have h : Rel (some (heldB B)) (some (prs (heldB B) 33)) := ⟨held_agree B, rfl⟩
  exact ((h.bind hf0 g0).bind hf1 g1).bind hf2 g2

/-- What fits is put. -/
theorem fit1_put {v : Bool} {n t : Int} {B C : Nat → Int} (h : fit1 v n t B = some C) (hr : termRight v n = true) (ht : 1 ≤ t) : pv v n C = t := by
  unfold fit1 at h
  cases v with
  | false =>
    simp only [Bool.false_eq_true, if_false] at h
    split at h
    · rename_i e; simp [pv, e]
    · cases h
  | true =>
    simp only [if_true] at h
    split at h
    · simp at h; subst h; simp [pv, updI]
    · split at h
      · rename_i e; simp at h; subst h; simp [pv, e]
      · cases h

theorem pv_keeps {v : Bool} {n t : Int} {B C : Nat → Int} (h : pv v n B = t) (ht : 1 ≤ t) (hk : ∀ k, B k ≠ 0 → C k = B k) : pv v n C = t := by
  unfold pv at h ⊢
  cases v with
  | false => exact h
  | true =>
    simp only [if_true] at h ⊢
    rw [hk (cl n) (by omega), h]

theorem fit_put {v0 : Bool} {n0 : Int} {v1 : Bool} {n1 : Int} {v2 : Bool} {n2 : Int} {t0 t1 t2 : Int} {B C : Nat → Int} (h : fit v0 n0 v1 n1 v2 n2 t0 t1 t2 B = some C) (hf : fine v0 n0 v1 n1 v2 n2 = true) (ht : tripleRight t0 t1 t2 = true) :
    put (pv v0 n0 C) (pv v1 n1 C) (pv v2 n2 C) 3 = some (updI (updI (updI (fun _ => 0) 0 t0) 1 t1) 2 t2) := by
  obtain ⟨hf0, hf1, hf2⟩ := fine_split hf
  obtain ⟨g0, g1, g2⟩ := tripleRight_ge ht
  unfold fit at h
  cases h1 : fit1 v0 n0 t0 B with
  | none => rw [h1] at h; cases h
  | some B1 =>
    rw [h1, Option.bind_some] at h
    cases h2 : fit1 v1 n1 t1 B1 with
    | none => rw [h2] at h; cases h
    | some B2 =>
      rw [h2, Option.bind_some] at h
      have k2 := fun k => (fit1_keeps h2 hf1 g1 k).1
      have k3 := fun k => (fit1_keeps h hf2 g2 k).1
      have e0 : pv v0 n0 C = t0 := pv_keeps (pv_keeps (fit1_put h1 hf0 g0) g0 k2) g0 k3
      have e1 : pv v1 n1 C = t1 := pv_keeps (fit1_put h2 hf1 g1) g1 k3
      have e2 : pv v2 n2 C = t2 := fit1_put h hf2 g2
      rw [e0, e1, e2]
      simp only [put, upTo, put1, sel3, Option.bind_some]
      have z : ∀ (t : Int) (k : Nat) (T : Nat → Int), 1 ≤ t → put1 t k T = some (updI T k t) := fun t k T h => by rw [put1, if_neg (by omega)]
      rw [if_neg (by omega), Option.bind_some, z _ _ _ g1, Option.bind_some, z _ _ _ g2]

theorem flat_pr (l : List Pr) : ∀ (m i : Nat), i + m = l.length → flat (fun i => at_ (pr (l.getD i (0, 0)))) 2 i m = (l.drop i).flatMap pr
  | 0, i, h => by rw [List.drop_eq_nil_of_le (by omega)]; rfl
  | m + 1, i, h => by
    have h1 : l.drop i = l.getD i (0, 0) :: l.drop (i + 1) := by
      rw [List.drop_eq_getElem_cons (by omega)]; simp [List.getD, show i < l.length by omega]
    rw [flat, flat_pr l m (i + 1) (by omega), h1, List.flatMap_cons]
    rfl
theorem flat_pr0 (l : List Pr) : flat (fun i => at_ (pr (l.getD i (0, 0)))) 2 0 l.length = l.flatMap pr := flat_pr l l.length 0 (by omega)

section
variable {v0 : Bool} {n0 : Int} {v1 : Bool} {n1 : Int} {v2 : Bool} {n2 : Int} {t0 t1 t2 : Int} (B : Nat → Int) (hf : fine v0 n0 v1 n1 v2 n2 = true) (ht : tripleRight t0 t1 t2 = true)
include hf ht

theorem fits_1 : (rfit v0 n0 v1 n1 v2 n2 t0 t1 t2 (prs (heldB B) 33) 3).isSome = (fit v0 n0 v1 n1 v2 n2 t0 t1 t2 (heldB B)).isSome := by
  have h := fit_agree B hf ht
  unfold Rel at h
  cases h1 : fit v0 n0 v1 n1 v2 n2 t0 t1 t2 (heldB B) <;> cases h2 : rfit v0 n0 v1 n1 v2 n2 t0 t1 t2 (prs (heldB B) 33) 3 <;> simp only [h1, h2] at h ⊢ <;> rfl

theorem fits_2 {k : Nat} (h1 : 0 < (k : Int)) (h2 : (k : Int) < 33) : getP ((rfit v0 n0 v1 n1 v2 n2 t0 t1 t2 (prs (heldB B) 33) 3).getD (prs (heldB B) 33)) k = (fit v0 n0 v1 n1 v2 n2 t0 t1 t2 (heldB B)).getD (heldB B) k := by
  have h := fit_agree B hf ht
  unfold Rel at h
  cases h3 : fit v0 n0 v1 n1 v2 n2 t0 t1 t2 (heldB B) <;> cases h4 : rfit v0 n0 v1 n1 v2 n2 t0 t1 t2 (prs (heldB B) 33) 3 <;> simp only [h3, h4, Option.getD_some, Option.getD_none] at h ⊢
  · exact (held_agree B).eq k (by omega) (by omega)
  · exact h.1.eq k (by omega) (by omega)

theorem fits_3 : (fit v0 n0 v1 n1 v2 n2 t0 t1 t2 (heldB B)).getD (heldB B) 0 = 0 := by
  have h := fit_agree B hf ht
  unfold Rel at h
  cases h3 : fit v0 n0 v1 n1 v2 n2 t0 t1 t2 (heldB B) <;> cases h4 : rfit v0 n0 v1 n1 v2 n2 t0 t1 t2 (prs (heldB B) 33) 3 <;> simp only [h3, h4, Option.getD_some, Option.getD_none] at h ⊢
  · rfl
  · exact h.2

theorem fits_4 (h : (fit v0 n0 v1 n1 v2 n2 t0 t1 t2 (heldB B)).isSome = true) :
    put (pv v0 n0 ((fit v0 n0 v1 n1 v2 n2 t0 t1 t2 (heldB B)).getD (heldB B))) (pv v1 n1 ((fit v0 n0 v1 n1 v2 n2 t0 t1 t2 (heldB B)).getD (heldB B))) (pv v2 n2 ((fit v0 n0 v1 n1 v2 n2 t0 t1 t2 (heldB B)).getD (heldB B))) 3 = some (updI (updI (updI (fun _ => 0) 0 t0) 1 t1) 2 t2) := by
  obtain ⟨C, hC⟩ := Option.isSome_iff_exists.1 h
  have := fit_put hC hf ht
  rw [hC]
  exact this
omit hf ht in
theorem fits_5 (h : (fit v0 n0 v1 n1 v2 n2 t0 t1 t2 (heldB B)).isSome = false) : (fit v0 n0 v1 n1 v2 n2 t0 t1 t2 (heldB B)).getD (heldB B) = heldB B := by
  cases hC : fit v0 n0 v1 n1 v2 n2 t0 t1 t2 (heldB B) with
  | none => rfl
  | some C => rw [hC] at h; cases h
end

end Go.Gx.T3
