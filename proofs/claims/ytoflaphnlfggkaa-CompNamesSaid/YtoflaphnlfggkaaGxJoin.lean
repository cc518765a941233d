/-
  GX: short-circuits and ifs whose two ways come together again, walked without doubling what stands behind. Generic in the program.
-/
import Derived.Test.YtoflaphnlfggkaaGxMisc
namespace Go.Gx
open Go.RowKit

theorem bite_t {p : Prop} [Decidable p] {a b : Bool} : ((if p then a else b) = true) ↔ (p ∧ a = true) ∨ (¬ p ∧ b = true) := by by_cases h : p <;> simp [h]
theorem bite_f {p : Prop} [Decidable p] {a b : Bool} : ((if p then a else b) = false) ↔ (p ∧ a = false) ∨ (¬ p ∧ b = false) := by by_cases h : p <;> simp [h]


/-- How truths are said as propositions: all rules in one. -/
theorem norms : (∀ a b : Bool, ((a && b) = true) = (a = true ∧ b = true)) ∧ (∀ a b : Bool, ((a || b) = true) = (a = true ∨ b = true)) ∧ (∀ a b : Bool, ((a && b) = false) = (a = false ∨ b = false)) ∧
    (∀ a b : Bool, ((a || b) = false) = (a = false ∧ b = false)) ∧ (∀ (p : Prop) [Decidable p], (decide p = true) = p) ∧ (∀ (p : Prop) [Decidable p], (decide p = false) = ¬ p) ∧
    (∀ b : Bool, ((!b) = true) = (b = false)) ∧ (∀ b : Bool, ((!b) = false) = (b = true)) ∧ (∀ (α : Type) (a b : α), (a ≠ b) = ¬ (a = b)) ∧ (∀ p : Prop, [Decidable p] → (¬ ¬ p) = p) ∧
    (∀ (p : Prop) [Decidable p] (a b : Bool), ((if p then a else b) = true) = ((p ∧ a = true) ∨ (¬ p ∧ b = true))) ∧ (∀ (p : Prop) [Decidable p] (a b : Bool), ((if p then a else b) = false) = ((p ∧ a = false) ∨ (¬ p ∧ b = false))) ∧
    ((true = false) = False) ∧ ((false = true) = False) ∧ (∀ p : Prop, (p ∧ False) = False) ∧ (∀ p : Prop, (False ∧ p) = False) ∧ (∀ p : Prop, (p ∨ False) = p) ∧ (∀ p : Prop, (False ∨ p) = p) ∧ (∀ p : Prop, (p ∧ True) = p) ∧ (∀ p : Prop, (True ∧ p) = p) := by
  refine ⟨by simp, by simp, by simp, by simp, by simp, by simp, by simp, by simp, by simp, by simp, fun p _ a b => propext bite_t, fun p _ a b => propext bite_f, by simp, by simp, by simp, by simp, by simp, by simp, by simp, by simp⟩

/-- Frame l is l0 with slots put in front that l0 doesn't speak of (but for slot d). -/
inductive Ext (d : Nat) (l0 : List (Nat × Value)) : List (Nat × Value) → Prop
  | refl : Ext d l0 l0
  | put {e : Nat} {v : Value} {l : List (Nat × Value)} : (bif Nat.beq e d then false else l0.any fun p => Nat.beq p.1 e) = false → Ext d l0 l → Ext d l0 ((e, v) :: l)
  | say {e : Nat} {v : Value} {l : List (Nat × Value)} : lk l e = some v → Ext d l0 l → Ext d l0 ((e, v) :: l)
  | say2 {e : Nat} {b b' : Bool} {l : List (Nat × Value)} : lk l e = some (.bool b) → b = b' → Ext d l0 l → Ext d l0 ((e, .bool b') :: l)

theorem lk_any {l : List (Nat × Value)} {i : Nat} {v : Value} (h : lk l i = some v) : (l.any fun p => Nat.beq p.1 i) = true := by
  induction l with
  | nil => simp [lk] at h
  | cons p t ih =>
    obtain ⟨e, u⟩ := p
    rw [lk_cons] at h
    by_cases hi : e = i
    · subst hi; simp
    · rw [if_neg hi] at h; simp [ih h]

theorem Ext.lk {d : Nat} {l0 l : List (Nat × Value)} (h : Ext d l0 l) {i : Nat} {v : Value} (hi : ¬ i = d) (e : Gx.lk l0 i = some v) : Gx.lk l i = some v := by
  induction h with
  | refl => exact e
  | @put k u l h1 _ ih =>
    rw [lk_cons]
    by_cases hk : k = i
    · subst hk
      rw [beq_no hi] at h1
      have := lk_any e
      simp only [cond_false] at h1
      rw [h1] at this; cases this
    · rw [if_neg hk]; exact ih
  | @say k u l h1 _ ih =>
    rw [lk_cons]
    by_cases hk : k = i
    · subst hk; rw [if_pos rfl, ← h1]; exact ih
    · rw [if_neg hk]; exact ih
  | @say2 k b b' l h1 hb _ ih =>
    subst hb
    rw [lk_cons]
    by_cases hk : k = i
    · subst hk; rw [if_pos rfl, ← h1]; exact ih
    · rw [if_neg hk]; exact ih

theorem Fr.back {N d : Nat} {a : Act} {l0 l : List (Nat × Value)} {v : Value} (h : Fr N a l) (he : Ext d l0 l) (hd : lk l d = some v) : Fr N a ((d, v) :: l0) := by
  refine ⟨h.size, h.nod, fun i u e => ?_⟩
  rw [lk_cons] at e
  by_cases hi : d = i
  · subst hi; simp only [if_true, Option.some.injEq] at e; subst e; exact h.get _ _ hd
  · rw [if_neg hi] at e; exact h.get i u (he.lk (fun x => hi x.symm) e)

theorem Fr.unsay {N c d : Nat} {a : Act} {l : List (Nat × Value)} {v : Value} {b b' : Bool} (h : Fr N a ((d, v) :: (c, .bool b') :: l)) (hc : lk l c = some (.bool b)) (hb : b = b') : Fr N a ((d, v) :: l) := by
  subst hb
  refine ⟨h.size, h.nod, fun i u e => h.get i u ?_⟩
  rw [lk_cons] at e ⊢
  by_cases hi : d = i
  · rw [if_pos hi] at e ⊢; exact e
  · rw [if_neg hi] at e ⊢
    rw [lk_cons]
    by_cases hj : c = i
    · subst hj; rw [if_pos rfl, ← hc]; exact e
    · rw [if_neg hj]; exact e

section
variable {P : Program} {ops : Array Oper} {Q : Exit → Act → World → Prop} {N : Nat} {X : Nat → Prop} {w0 : World} {G : Ghost} {l l0 : List (Nat × Value)} {L : List Asrt}
variable {rest xs ys : List Oper} {c d : Nat} {v : Value} {e : Exit} {g p : Bool}

theorem e_fin (hQ : ERuns Q .normal N X w0 G ((d, v) :: l0) L) (hd : lk l d = some v) (hx : Ext d l0 l) : ERuns Q .normal N X w0 G l L :=
  fun a w hS => hQ a w ⟨hS.fr.back hx hd, hS.mem⟩

def toRest (P : Program) (ops : Array Oper) (Q : Exit → Act → World → Prop) (ys : List Oper) : Exit → Act → World → Prop
  | .normal, a, w => wpList P ops Q ys a w
  | e, a, w => Q e a w

theorem wpList_append : ∀ (xs ys : List Oper) (a : Act) (w : World), wpList P ops (toRest P ops Q ys) xs a w → wpList P ops Q (xs ++ ys) a w
  | [], _, _, _, h => h
  | o :: xs, ys, a, w, h => by
    unfold wpList at h
    rw [List.cons_append]
    unfold wpList
    split
    · rename_i hw
      rw [if_pos hw] at h
      rcases h with h | h
      · refine .inl ?_
        unfold Oper.wp at *
        generalize (execOp a.eval o).run P w = r at *
        cases r with
        | ok n w' =>
          cases n <;> simp only [Oper.upon] at h ⊢ <;>
            first
              | exact wpList_append xs ys _ _ h
              | exact Calls.mono h (fun e w'' he => by cases e <;> first | exact wpList_append xs ys _ _ he | exact he | (obtain ⟨x, y, z⟩ := he; exact ⟨x, y, z⟩))
              | exact Rows.mono h (fun _ _ he => wpList_append xs ys _ _ he)
        | halt x w' => cases x <;> simp only [Oper.upon] at h ⊢ <;> exact h
      · exact .inr h
    · rename_i hw
      rw [if_neg hw] at h
      exact wpList_append xs ys _ _ h

/-- x && y -/
theorem r_and (xs : List Oper) (hc : lk l c = some (.bool g))
    (h1 : g = true → ∀ Q', ERuns Q' .normal N X w0 G ((d, .bool p) :: (c, .bool true) :: l) L → Runs P ops Q' N X w0 G xs ((c, .bool true) :: l) L)
    (h2 : g = false → ∀ Q', ERuns Q' .normal N X w0 G ((d, .bool false) :: (c, .bool false) :: l) L → Runs P ops Q' N X w0 G xs ((c, .bool false) :: l) L)
    (h : Runs P ops Q N X w0 G ys ((d, .bool (g && p)) :: l) L) : Runs P ops Q N X w0 G (xs ++ ys) l L := by
  intro a w hS
  refine wpList_append xs ys a w ?_
  cases g with
  | true => exact h1 rfl _ (fun a' w' hS' => h a' w' ⟨hS'.fr.unsay hc rfl, hS'.mem⟩) a w ⟨hS.fr.say hc, hS.mem⟩
  | false => exact h2 rfl _ (fun a' w' hS' => h a' w' ⟨hS'.fr.unsay hc rfl, hS'.mem⟩) a w ⟨hS.fr.say hc, hS.mem⟩

/-- x || y -/
theorem r_or (xs : List Oper) (hc : lk l c = some (.bool g))
    (h1 : g = false → ∀ Q', ERuns Q' .normal N X w0 G ((d, .bool p) :: (c, .bool false) :: l) L → Runs P ops Q' N X w0 G xs ((c, .bool false) :: l) L)
    (h2 : g = true → ∀ Q', ERuns Q' .normal N X w0 G ((d, .bool true) :: (c, .bool true) :: l) L → Runs P ops Q' N X w0 G xs ((c, .bool true) :: l) L)
    (h : Runs P ops Q N X w0 G ys ((d, .bool (g || p)) :: l) L) : Runs P ops Q N X w0 G (xs ++ ys) l L := by
  intro a w hS
  refine wpList_append xs ys a w ?_
  cases g with
  | false => exact h1 rfl _ (fun a' w' hS' => h a' w' ⟨hS'.fr.unsay hc rfl, hS'.mem⟩) a w ⟨hS.fr.say hc, hS.mem⟩
  | true => exact h2 rfl _ (fun a' w' hS' => h a' w' ⟨hS'.fr.unsay hc rfl, hS'.mem⟩) a w ⟨hS.fr.say hc, hS.mem⟩

theorem wpQuiet_append {C : World → Prop} {R : Act → Prop} : ∀ (xs ys : List Oper) (a : Act), wpQuiet P ops C (wpQuiet P ops C R ys) xs a → wpQuiet P ops C R (xs ++ ys) a
  | [], _, _, h => h
  | o :: xs, ys, a, h => by
    unfold wpQuiet at h
    rw [List.cons_append]
    unfold wpQuiet
    split
    · rename_i hw
      rw [if_pos hw] at h
      obtain ⟨v, h1, h2⟩ := h
      exact ⟨v, h1, wpQuiet_append xs ys _ h2⟩
    · rename_i hw
      rw [if_neg hw] at h
      exact wpQuiet_append xs ys _ h

theorem wpQuiet_void {C : World → Prop} {R : Act → Prop} (hC : ∀ w, ¬ C w) (hR : ∀ a, R a) : ∀ (xs : List Oper) (a : Act), wpQuiet P ops C R xs a
  | [], a => hR a
  | o :: xs, a => by
    unfold wpQuiet
    split
    · exact ⟨undef, fun w hw => (hC w hw).elim, wpQuiet_void hC hR xs _⟩
    · exact wpQuiet_void hC hR xs _

theorem wpQuiet_mono {C : World → Prop} {R R' : Act → Prop} (hR : ∀ a, R a → R' a) : ∀ (xs : List Oper) (a : Act), wpQuiet P ops C R xs a → wpQuiet P ops C R' xs a
  | [], a, h => hR a h
  | o :: xs, a, h => by
    unfold wpQuiet at h ⊢
    split
    · rename_i hw
      rw [if_pos hw] at h
      obtain ⟨v, h1, h2⟩ := h
      exact ⟨v, h1, wpQuiet_mono hR xs _ h2⟩
    · rename_i hw
      rw [if_neg hw] at h
      exact wpQuiet_mono hR xs _ h

theorem wpQuiet_cut {C : World → Prop} {R : Act → Prop} (hR : (∀ w, ¬ C w) → ∀ a, R a) (xs ys : List Oper) (a : Act) (h : wpQuiet P ops C (fun a => ∀ w, C w → wpQuiet P ops C R ys a) xs a) : wpQuiet P ops C R (xs ++ ys) a := by
  refine wpQuiet_append xs ys a ?_
  by_cases hC : ∃ w, C w
  · obtain ⟨w, hw⟩ := hC
    exact wpQuiet_mono (fun a h => h w hw) xs a h
  · have hC' : ∀ w, ¬ C w := fun w hw => hC ⟨w, hw⟩
    exact wpQuiet_void hC' (fun a => wpQuiet_void hC' (hR hC') ys a) xs a

theorem q_and (xs : List Oper) (hc : lk l c = some (.bool g))
    (h1 : g = true → ∀ Q', ERuns Q' .normal N X w0 G ((d, .bool p) :: (c, .bool true) :: l) L → Quiets P ops Q' N X w0 G xs ((c, .bool true) :: l) L)
    (h2 : g = false → ∀ Q', ERuns Q' .normal N X w0 G ((d, .bool false) :: (c, .bool false) :: l) L → Quiets P ops Q' N X w0 G xs ((c, .bool false) :: l) L)
    (h : Quiets P ops Q N X w0 G ys ((d, .bool (g && p)) :: l) L) : Quiets P ops Q N X w0 G (xs ++ ys) l L := by
  intro a hF
  refine wpQuiet_cut (fun hC a w hw => (hC w hw).elim) xs ys a ?_
  cases g with
  | true => exact h1 rfl (fun _ a _ => wpQuiet P ops (fun w => Mem X w0 G w L) (fun a' => ∀ w', Mem X w0 G w' L → Q .normal a' w') ys a) (fun a' w' hS' => h a' (hS'.fr.unsay hc rfl)) a (hF.say hc)
  | false => exact h2 rfl (fun _ a _ => wpQuiet P ops (fun w => Mem X w0 G w L) (fun a' => ∀ w', Mem X w0 G w' L → Q .normal a' w') ys a) (fun a' w' hS' => h a' (hS'.fr.unsay hc rfl)) a (hF.say hc)

theorem q_or (xs : List Oper) (hc : lk l c = some (.bool g))
    (h1 : g = false → ∀ Q', ERuns Q' .normal N X w0 G ((d, .bool p) :: (c, .bool false) :: l) L → Quiets P ops Q' N X w0 G xs ((c, .bool false) :: l) L)
    (h2 : g = true → ∀ Q', ERuns Q' .normal N X w0 G ((d, .bool true) :: (c, .bool true) :: l) L → Quiets P ops Q' N X w0 G xs ((c, .bool true) :: l) L)
    (h : Quiets P ops Q N X w0 G ys ((d, .bool (g || p)) :: l) L) : Quiets P ops Q N X w0 G (xs ++ ys) l L := by
  intro a hF
  refine wpQuiet_cut (fun hC a w hw => (hC w hw).elim) xs ys a ?_
  cases g with
  | false => exact h1 rfl (fun _ a _ => wpQuiet P ops (fun w => Mem X w0 G w L) (fun a' => ∀ w', Mem X w0 G w' L → Q .normal a' w') ys a) (fun a' w' hS' => h a' (hS'.fr.unsay hc rfl)) a (hF.say hc)
  | true => exact h2 rfl (fun _ a _ => wpQuiet P ops (fun w => Mem X w0 G w L) (fun a' => ∀ w', Mem X w0 G w' L → Q .normal a' w') ys a) (fun a' w' hS' => h a' (hS'.fr.unsay hc rfl)) a (hF.say hc)

/-! ### an if whose two ways go on together -/

/-- What a slot holds, by the truth g. -/
inductive Mrg (g : Bool) : Value → Value → Value → Prop
  | int {k : IntKind} {a b : Int} : Mrg g (.int k a) (.int k b) (.int k (if g = true then a else b))
  | bool {a b : Bool} : Mrg g (.bool a) (.bool b) (.bool (if g = true then a else b))
  | string {a b : ByteArray} : Mrg g (.string a) (.string b) (.string (if g = true then a else b))
  | same {v : Value} : Mrg g v v v

theorem Mrg.t {u v x : Value} (h : Mrg true u v x) : x = u := by cases h <;> rfl
theorem Mrg.f {u v x : Value} (h : Mrg false u v x) : x = v := by cases h <;> rfl

inductive Mrgs (g : Bool) : List (Nat × Value) → List (Nat × Value) → List (Nat × Value) → Prop
  | nil : Mrgs g [] [] []
  | cons {d : Nat} {u v x : Value} {A B C : List (Nat × Value)} : Mrg g u v x → Mrgs g A B C → Mrgs g ((d, u) :: A) ((d, v) :: B) ((d, x) :: C)

theorem Mrgs.t {A B C : List (Nat × Value)} (h : Mrgs true A B C) : C = A := by
  induction h with
  | nil => rfl
  | cons h1 _ ih => rw [h1.t, ih]
theorem Mrgs.f {A B C : List (Nat × Value)} (h : Mrgs false A B C) : C = B := by
  induction h with
  | nil => rfl
  | cons h1 _ ih => rw [h1.f, ih]

/-- Frame l, at least as much as l0 with the slots of D told anew. -/
inductive ExtD (D l0 : List (Nat × Value)) : List (Nat × Value) → Prop
  | refl : ExtD D l0 l0
  | put {e : Nat} {v : Value} {l : List (Nat × Value)} : (bif D.any fun p => Nat.beq p.1 e then false else l0.any fun p => Nat.beq p.1 e) = false → ExtD D l0 l → ExtD D l0 ((e, v) :: l)
  | say {e : Nat} {b b' : Bool} {l : List (Nat × Value)} : lk l e = some (.bool b) → b = b' → ExtD D l0 l → ExtD D l0 ((e, .bool b') :: l)

theorem ExtD.lk {D l0 l : List (Nat × Value)} (h : ExtD D l0 l) {i : Nat} {v : Value} (hi : (D.any fun p => Nat.beq p.1 i) = false) (e : Gx.lk l0 i = some v) : Gx.lk l i = some v := by
  induction h with
  | refl => exact e
  | @put k u l h1 _ ih =>
    rw [lk_cons]
    by_cases hk : k = i
    · subst hk
      rw [hi] at h1
      have := lk_any e
      simp only [cond_false] at h1
      rw [h1] at this; cases this
    · rw [if_neg hk]; exact ih
  | @say k b b' l h1 hb _ ih =>
    subst hb
    rw [lk_cons]
    by_cases hk : k = i
    · subst hk; rw [if_pos rfl, ← h1]; exact ih
    · rw [if_neg hk]; exact ih

theorem lk_append (D l : List (Nat × Value)) (i : Nat) : lk (D ++ l) i = if (D.any fun p => Nat.beq p.1 i) = true then lk D i else lk l i := by
  induction D with
  | nil => simp
  | cons p D ih =>
    obtain ⟨e, v⟩ := p
    rw [List.cons_append, lk_cons, lk_cons, ih]
    by_cases hi : e = i
    · subst hi; simp
    · rw [if_neg hi, if_neg hi, List.any_cons, beq_no hi, Bool.false_or]

theorem Fr.backD {N : Nat} {a : Act} {D l0 l : List (Nat × Value)} (h : Fr N a l) (he : ExtD D l0 l) (hd : sub l D) : Fr N a (D ++ l0) := by
  refine ⟨h.size, h.nod, fun i u e => ?_⟩
  rw [lk_append] at e
  split at e
  · exact (h.weaken hd).get i u e
  · rename_i hi
    exact h.get i u (he.lk (by cases hb : (D.any fun p => Nat.beq p.1 i) with
      | false => rfl
      | true => exact absurd hb hi) e)

theorem e_finD {D : List (Nat × Value)} (hQ : ERuns Q .normal N X w0 G (D ++ l0) L) (hd : sub l D) (hx : ExtD D l0 l) : ERuns Q .normal N X w0 G l L :=
  fun a w hS => hQ a w ⟨hS.fr.backD hx hd, hS.mem⟩

theorem Fr.unsayD {N c : Nat} {a : Act} {D l : List (Nat × Value)} {b b' : Bool} (h : Fr N a (D ++ (c, .bool b') :: l)) (hc : lk l c = some (.bool b)) (hb : b = b') : Fr N a (D ++ l) := by
  subst hb
  refine ⟨h.size, h.nod, fun i u e => h.get i u ?_⟩
  rw [lk_append] at e ⊢
  split
  · rename_i hi; rw [if_pos hi] at e; exact e
  · rename_i hi
    rw [if_neg hi] at e
    rw [lk_cons]
    by_cases hj : c = i
    · subst hj; rw [if_pos rfl, ← hc]; exact e
    · rw [if_neg hj]; exact e

theorem c_join {A B : Code} {D1 D2 D : List (Nat × Value)} (hc : lk l c = some (.bool g)) (hm : Mrgs g D1 D2 D)
    (h1 : g = true → ERuns Q .normal N X w0 G (D1 ++ (c, .bool true) :: l) L → CRuns P A Q N X w0 G ((c, .bool true) :: l) L)
    (h2 : g = false → ERuns Q .normal N X w0 G (D2 ++ (c, .bool false) :: l) L → CRuns P B Q N X w0 G ((c, .bool false) :: l) L)
    (h : ERuns Q .normal N X w0 G (D ++ l) L) : CRuns P (.cond (.tmp c) A B) Q N X w0 G l L := by
  intro a w hS
  cases g with
  | true =>
    have hD := hm.t
    subst hD
    refine wp_cond_true (hS.fr.eval (x := .tmp c) hc) (h1 rfl (fun a w hS => h a w ⟨hS.fr.unsayD hc rfl, hS.mem⟩) a w ⟨hS.fr.say hc, hS.mem⟩)
  | false =>
    have hD := hm.f
    subst hD
    refine wp_cond_false (hS.fr.eval (x := .tmp c) hc) (h2 rfl (fun a w hS => h a w ⟨hS.fr.unsayD hc rfl, hS.mem⟩) a w ⟨hS.fr.say hc, hS.mem⟩)


/-! ### in a drawn region: either of two operations may come -/

section
variable {brk : Nat → Bool} {G0 : Ghost} {L0 : List Asrt} {i j n : Nat} {listed : Array Bool} {o o' : Oper}

theorem d_eff2 (i j : Nat) {ph : Bool} (hi : ops[i]? = some o) (hj : ops[j]? = some o') (hr : Region.ready .any ops listed = [i, j])
    (h : (∀ K : Act → World → Prop, (∀ a w, (K a w ↔ ((brk i = false → Cls w0 G0 L0 w) ∧ wpAnyD P ops (Cls w0 G0 L0) brk Q n (listed.setIfInBounds i true) a w))) → Closed ops (listed.setIfInBounds i true) → Runs P ops (Exit.then K Q0) N X w0 G [o] l L))
    (h' : (∀ K : Act → World → Prop, (∀ a w, (K a w ↔ ((brk j = false → Cls w0 G0 L0 w) ∧ wpAnyD P ops (Cls w0 G0 L0) brk Q n (listed.setIfInBounds j true) a w))) → Closed ops (listed.setIfInBounds j true) → Runs P ops (Exit.then K Q0) N X w0 G [o'] l L)) :
    DR P ops brk G0 L0 Q N X w0 G ph (n + 1) listed l L := by
  intro hcl a w hS hC
  refine ⟨fun h0 => (by rw [h0] at hr; cases hr), fun k hk => ?_⟩
  have hki : k = i ∨ k = j := by rw [hr] at hk; simpa using hk
  have fin : ∀ (k : Nat) (o : Oper), ops[k]? = some o → k ∈ Region.ready .any ops listed →
      (∀ K : Act → World → Prop, (∀ a w, (K a w ↔ ((brk k = false → Cls w0 G0 L0 w) ∧ wpAnyD P ops (Cls w0 G0 L0) brk Q n (listed.setIfInBounds k true) a w))) → Closed ops (listed.setIfInBounds k true) → Runs P ops (Exit.then K Q0) N X w0 G [o] l L) →
      wpOp P ops Q0 k (fun a' w' => (brk k = false → Cls w0 G0 L0 w') ∧ wpAnyD P ops (Cls w0 G0 L0) brk Q n (listed.setIfInBounds k true) a' w') a w := by
    intro k o ho hk h
    have h1 := h (fun a w => ((brk k = false → Cls w0 G0 L0 w) ∧ wpAnyD P ops (Cls w0 G0 L0) brk Q n (listed.setIfInBounds k true) a w)) (fun _ _ => Iff.rfl) (hcl.set hk) a w hS
    unfold wpOp
    simp only [ho]
    unfold wpList at h1
    split
    · rename_i hw
      rw [if_pos hw] at h1
      rcases h1 with h1 | ⟨_, _, _, hf⟩
      · exact .inl (wp_Q0 (Q := Q0) (fun a w h => h) (wp_QX h1))
      · exact hf.elim
    · rename_i hw
      rw [if_neg hw] at h1
      exact h1
  rcases hki with rfl | rfl
  · exact fin _ _ hi hk h
  · exact fin _ _ hj hk h'

end
end
end Go.Gx
