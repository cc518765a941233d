/- Plain laws of terms and bindings: what the document's pairs say, and how it puts; no program in sight. -/
import Derived.Test.YtjgdkahblhpinaaPl03
import Derived.Test.YtjgdkahblhpinaaGxJoin
namespace Go.Gx.T3
open Go.Gx

abbrev Pr := Int × Int
def pr (p : Pr) : List Value := [.int .i64 p.1, .int .i64 p.2]

def prs (B : Nat → Int) : Nat → List Pr
  | 0 => []
  | k + 1 => prs B k ++ (if 0 < (k : Int) ∧ 0 < B k then [((k : Int), B k)] else [])
theorem prs_yes {B : Nat → Int} {k : Nat} (h : 0 < (k : Int) ∧ 0 < B k) : prs B (k + 1) = prs B k ++ [((k : Int), B k)] := by rw [prs, if_pos h]
theorem prs_no {B : Nat → Int} {k : Nat} (h : ¬ (0 < (k : Int) ∧ 0 < B k)) : prs B (k + 1) = prs B k := by rw [prs, if_neg h, List.append_nil]
theorem prs_len (B : Nat → Int) : ∀ k, (prs B k).length ≤ k
  | 0 => by simp [prs]
  | k + 1 => by
    have := prs_len B k
    unfold prs
    split <;> simp <;> omega

def getP : List Pr → Int → Int
  | [], _ => 0
  | p :: t, v => if p.1 = v then p.2 else getP t v

theorem getP_append (l m : List Pr) (v : Int) : getP (l ++ m) v = bif l.any fun p => decide (p.1 = v) then getP l v else getP m v := by
  induction l with
  | nil => simp
  | cons p t ih =>
    simp only [List.cons_append, getP, List.any_cons]
    by_cases h : p.1 = v
    · simp [h]
    · rw [if_neg h, ih, decide_eq_false h, Bool.false_or, if_neg h]

theorem getP_none {l : List Pr} {v : Int} (h : (l.any fun p => decide (p.1 = v)) = false) : getP l v = 0 := by
  induction l with
  | nil => rfl
  | cons p t ih =>
    simp only [List.any_cons, Bool.or_eq_false_iff, decide_eq_false_iff_not] at h
    rw [getP, if_neg h.1, ih h.2]

theorem prs_any {B : Nat → Int} {k : Nat} {v : Int} (h : (k : Int) ≤ v) : ((prs B k).any fun p => decide (p.1 = v)) = false := by
  induction k with
  | zero => rfl
  | succ k ih =>
    unfold prs
    rw [List.any_append, ih (by omega)]
    split
    · simp; omega
    · rfl

theorem getP_prs {B : Nat → Int} (hB : ∀ i, 0 ≤ B i) {n : Nat} (h1 : 1 ≤ n) : ∀ {k : Nat}, n < k → getP (prs B k) n = B n := by
  intro k
  induction k with
  | zero => intro h; omega
  | succ k ih =>
    intro h
    by_cases hk : n = k
    · subst hk
      unfold prs
      rw [getP_append, prs_any (Int.le_refl _), cond_false]
      split
      · simp [getP]
      · have := hB n
        simp only [getP]
        omega
    · unfold prs
      rw [getP_append]
      cases h3 : ((prs B k).any fun p => decide (p.1 = (n : Int))) with
      | true => rw [cond_true, ih (by omega)]
      | false =>
        rw [cond_false]
        have h4 := getP_none h3
        rw [ih (by omega)] at h4
        split
        · simp only [getP]; rw [if_neg (by omega)]; exact h4.symm
        · simp only [getP]; exact h4.symm

/-- Get by rounds. -/
theorem getP_drop {l : List Pr} {i : Nat} {e : Pr} {v : Int} (h : i < l.length) : getP (l.drop i) v = if (l.getD i e).1 = v then (l.getD i e).2 else getP (l.drop (i + 1)) v := by
  have h1 : l.drop i = l.getD i e :: l.drop (i + 1) := by
    rw [List.drop_eq_getElem_cons h]; simp [List.getD, h]
  rw [h1, getP]

/-! ### putting -/

def rpv (v : Bool) (n : Int) (ps : List Pr) : Int := if v then getP ps n else n
def pv (v : Bool) (n : Int) (B : Nat → Int) : Int := if v then B (cl n) else n
def put1 (x : Int) (k : Nat) (T : Nat → Int) : Option (Nat → Int) := if x = 0 then none else some (updI T k x)
def upTo {α : Type} (f : Nat → α → Option α) (s : α) : Nat → Option α
  | 0 => some s
  | k + 1 => (upTo f s k).bind (f k)
theorem upTo_next {α : Type} {f : Nat → α → Option α} {s t : α} {k : Nat} (h : upTo f s k = some t) : upTo f s (k + 1) = f k t := by rw [upTo, h]; rfl
theorem upTo_no {α : Type} {f : Nat → α → Option α} {s t : α} {k : Nat} (h : upTo f s k = some t) (h2 : f k t = none) : ∀ {n : Nat}, k < n → upTo f s n = none := by
  intro n
  induction n with
  | zero => intro h; omega
  | succ n ih =>
    intro hk
    rw [upTo]
    by_cases e : k = n
    · subst e; rw [h]; exact h2
    · rw [ih (by omega)]; rfl
def sel3 (x0 x1 x2 : Int) : Nat → Int
  | 0 => x0
  | 1 => x1
  | _ => x2
def put (x0 x1 x2 : Int) : Nat → Option (Nat → Int) := upTo (fun k => put1 (sel3 x0 x1 x2 k) k) (fun _ => 0)

theorem heldB_nonneg (B : Nat → Int) (i : Nat) : 0 ≤ heldB B i := by
  unfold heldB; split <;> omega

theorem pv_rpv {v : Bool} {n : Int} {l : List Pr} (B : Nat → Int) (hl : ∀ k : Nat, 1 ≤ k → k < 33 → getP l k = B k) (h : termRight v n = true) : rpv v n l = pv v n B := by
  cases v with
  | false => rfl
  | true =>
    have h0 : 1 ≤ n ∧ n ≤ 32 := by simpa [termRight] using h
    have h1 : ((cl n : Nat) : Int) = n := by rw [cl_cast]; omega
    have h3 : cl n < 33 := cl_lt n
    have := hl (cl n) (by omega) h3
    rw [h1] at this
    exact this

theorem prs_held (B : Nat → Int) (k : Nat) (h1 : 1 ≤ k) (h2 : k < 33) : getP (prs (heldB B) 33) k = heldB B k := getP_prs (heldB_nonneg B) h1 h2

theorem fine_split {v0 : Bool} {n0 : Int} {v1 : Bool} {n1 : Int} {v2 : Bool} {n2 : Int} (h : fine v0 n0 v1 n1 v2 n2 = true) : termRight v0 n0 = true ∧ termRight v1 n1 = true ∧ termRight v2 n2 = true := by
  simpa [fine] using h

theorem put_rput {v0 : Bool} {n0 : Int} {v1 : Bool} {n1 : Int} {v2 : Bool} {n2 : Int} (B : Nat → Int) (h : fine v0 n0 v1 n1 v2 n2 = true) :
    put (rpv v0 n0 (prs (heldB B) 33)) (rpv v1 n1 (prs (heldB B) 33)) (rpv v2 n2 (prs (heldB B) 33)) 3 = put (pv v0 n0 (heldB B)) (pv v1 n1 (heldB B)) (pv v2 n2 (heldB B)) 3 := by
  obtain ⟨h0, h1, h2⟩ := fine_split h
  rw [pv_rpv (heldB B) (prs_held B) h0, pv_rpv (heldB B) (prs_held B) h1, pv_rpv (heldB B) (prs_held B) h2]

end Go.Gx.T3
