/- Plain laws of names of variables that are turned about; no program in sight. -/
import Derived.Test.YtoflaphnlfggkaaPl08d
namespace Go.Gx.T8
open Go.Gx Go.Gx.T3 Go.Gx.T4
def tnV (y : Int) (b : Bool) (n : Int) : Int := if b = true then (n - 1 + y) % 32 + 1 else n
def tnH (y : Int) (h : Hd) : Hd := ⟨h.k, h.v0, tnV y h.v0 h.n0, h.v1, tnV y h.v1 h.n1, h.v2, tnV y h.v2 h.n2⟩
mutual
/-- A condition with other names. -/
def tn (y : Int) : CT → CT
  | .mk h l => .mk (tnH y h) (tnL y l)
def tnL (y : Int) : List CT → List CT
  | [] => []
  | c :: t => tn y c :: tnL y t
end
theorem tn_eq (y : Int) (c : CT) : tn y c = .mk (tnH y c.h) (tnL y c.subs) := by cases c; rw [tn]; rfl
theorem tnL_append (y : Int) (a b : List CT) : tnL y (a ++ b) = tnL y a ++ tnL y b := by
  induction a with
  | nil => rfl
  | cons c t ih => simp [tnL, ih]
theorem tnL_take {y : Int} {rs : List (CT × Value)} {k : Nat} (hk : k < rs.length) : tnL y ((rs.map Prod.fst).take (k + 1)) = tnL y ((rs.map Prod.fst).take k) ++ [tn y (rs.getD k d0).1] := by
  rw [map_take (d := d0) hk, tnL_append]; simp [tnL]
theorem tnL_len (y : Int) : ∀ l : List CT, (tnL y l).length = l.length
  | [] => rfl
  | c :: t => by simp [tnL, tnL_len y t]
mutual
theorem tn_size (y : Int) : ∀ c : CT, size (tn y c) = size c
  | .mk h l => by rw [tn, size, size, tnL_size y l]
theorem tnL_size (y : Int) : ∀ l : List CT, sizeL (tnL y l) = sizeL l
  | [] => rfl
  | c :: t => by rw [tnL, sizeL, sizeL, tn_size y c, tnL_size y t]
end
def okV (b : Bool) (n : Int) : Prop := b = true → 1 ≤ n ∧ n ≤ 32
def okH (h : Hd) : Prop := okV h.v0 h.n0 ∧ okV h.v1 h.n1 ∧ okV h.v2 h.n2
mutual
/-- Names that may be, at any depth. -/
def okC : CT → Prop
  | .mk h l => okH h ∧ okCL l
def okCL : List CT → Prop
  | [] => True
  | c :: t => okC c ∧ okCL t
end
theorem okC_eq (c : CT) : okC c = (okH c.h ∧ okCL c.subs) := by cases c; rw [okC]; rfl
theorem okCL_mem : ∀ {l : List CT} {c : CT}, okCL l → c ∈ l → okC c
  | x :: t, c, h, hc => by
    rw [okCL] at h
    rcases List.mem_cons.1 hc with rfl | hc
    · exact h.1
    · exact okCL_mem h.2 hc
theorem okCL_append : ∀ {a b : List CT}, okCL a → okCL b → okCL (a ++ b)
  | [], _, _, h => h
  | x :: t, b, h, h2 => by
    rw [okCL] at h
    rw [List.cons_append, okCL]
    exact ⟨h.1, okCL_append h.2 h2⟩
theorem okH_head {h : Hd} (e : headOk h = true) : okH h := by
  simp only [headOk, Bool.and_eq_true] at e
  have f : ∀ b n, termRight b n = true → okV b n := by
    intro b n e hb
    subst hb
    simpa [termRight] using e
  exact ⟨f _ _ e.1, f _ _ e.2.1, f _ _ e.2.2⟩
theorem okH_none {h : Hd} (e : headNone h = true) : okH h := by
  simp only [headNone, Bool.and_eq_true, Bool.not_eq_true', decide_eq_true_eq] at e
  obtain ⟨⟨⟨a0, _⟩, a1, _⟩, a2, _⟩ := e
  exact ⟨fun hb => by (rw [a0] at hb; cases hb), fun hb => by (rw [a1] at hb; cases hb), fun hb => by (rw [a2] at hb; cases hb)⟩
mutual
theorem ok_check : ∀ (c : CT) (d : Int), check c d = 0 → okC c
  | .mk h l, d, hc => by
    rw [okC]
    rw [check] at hc
    by_cases c1 : 3 < max d 1
    · rw [if_pos c1] at hc; omega
    rw [if_neg c1] at hc
    by_cases c2 : h.k = 3
    · rw [if_pos c2] at hc
      by_cases c3 : headNone h = false
      · rw [if_pos c3] at hc; omega
      rw [if_neg c3] at hc
      by_cases c4 : l.length = 0
      · rw [if_pos c4] at hc; omega
      rw [if_neg c4] at hc
      exact ⟨okH_none (by simpa using c3), ok_checkL l _ hc⟩
    · rw [if_neg c2] at hc
      by_cases c3 : h.k ≠ 1 ∧ h.k ≠ 2
      · rw [if_pos c3] at hc; omega
      rw [if_neg c3] at hc
      by_cases c4 : headOk h = false ∨ 0 < l.length
      · rw [if_pos c4] at hc; omega
      have hl : l = [] := List.eq_nil_of_length_eq_zero (by omega)
      subst hl
      refine ⟨okH_head ?_, by rw [okCL]; trivial⟩
      cases e : headOk h with
      | true => rfl
      | false => exact absurd (.inl e) c4
theorem ok_checkL : ∀ (l : List CT) (d : Int), checkL l d = 0 → okCL l
  | [], _, _ => by rw [okCL]; trivial
  | c :: t, d, hc => by
    rw [checkL] at hc
    rw [okCL]
    by_cases h : check c d = 0
    · rw [if_pos h] at hc
      exact ⟨ok_check c d h, ok_checkL t d hc⟩
    · rw [if_neg h] at hc; exact absurd hc h
end
theorem ok_all : ∀ {l : List CT}, (∀ c ∈ l, check c 1 = 0) → okCL l
  | [], _ => by rw [okCL]; trivial
  | c :: t, h => by rw [okCL]; exact ⟨ok_check c 1 (h c (by simp)), ok_all (fun x hx => h x (by simp [hx]))⟩
theorem tnV_inj {y : Int} {b : Bool} {n m : Int} (hn : okV b n) (hm : okV b m) : tnV y b n = tnV y b m ↔ n = m := by
  cases b with
  | false => simp [tnV]
  | true =>
    have h1 := hn rfl
    have h2 := hm rfl
    simp only [tnV, if_true]
    omega
theorem tnH_v (y : Int) (h : Hd) (f : Nat) : vF (tnH y h) f = vF h f := by
  match f with
  | 0 => rfl
  | 1 => rfl
  | _ + 2 => rfl
theorem tnH_n (y : Int) (h : Hd) (f : Nat) : nF (tnH y h) f = tnV y (vF h f) (nF h f) := by
  match f with
  | 0 => rfl
  | 1 => rfl
  | _ + 2 => rfl
theorem okH_at {h : Hd} (e : okH h) (f : Nat) : okV (vF h f) (nF h f) := by
  match f with
  | 0 => exact e.1
  | 1 => exact e.2.1
  | _ + 2 => exact e.2.2
theorem tn_sameF {y : Int} {h : Hd} (e : okH h) (g f : Nat) : sameF (tnH y h) g f = sameF h g f := by
  unfold sameF
  rw [tnH_v, tnH_v, tnH_n, tnH_n]
  by_cases hv : vF h g = vF h f
  · have h1 := okH_at e g
    have h2 := okH_at e f
    rw [hv] at h1 ⊢
    simp only [tnV_inj h1 h2]
  · rw [decide_eq_false hv, Bool.false_and, Bool.false_and]
theorem tn_dupF {y : Int} {h : Hd} (e : okH h) (f : Nat) : dupF (tnH y h) f = dupF h f := by
  unfold dupF
  rw [tn_sameF e, tn_sameF e]
theorem tn_firstF {y : Int} {h : Hd} {v : Int} (e : okH h) (hv : okV true v) : firstF (tnH y h) (tnV y true v) = firstF h v := by
  have f : ∀ b n, okV b n → ((b = true ∧ tnV y b n = tnV y true v) ↔ (b = true ∧ n = v)) := by
    intro b n hn
    constructor
    · rintro ⟨rfl, h2⟩; exact ⟨rfl, (tnV_inj hn hv).1 h2⟩
    · rintro ⟨rfl, h2⟩; exact ⟨rfl, (tnV_inj hn hv).2 h2⟩
  unfold firstF
  have h0 := f _ _ e.1
  have h1 := f _ _ e.2.1
  have h2 := f _ _ e.2.2
  simp only [tnH, h0, h1, h2]
theorem tn_bound {y : Int} {v : Int} (hv : okV true v) : ∀ {l : List CT} {b : Int}, okCL l → bound (tnV y true v) (tnL y l) b = bound v l b
  | [], _, _ => rfl
  | .mk h s :: t, b, e => by
    rw [okCL, okC] at e
    rw [tnL, tn, bound, bound]
    have h1 : (CT.mk (tnH y h) (tnL y s)).h = tnH y h := rfl
    have h2 : (CT.mk h s).h = h := rfl
    rw [h1, h2, tn_firstF e.1.1 hv, tn_bound hv e.2, tn_bound hv e.2]
    rfl
theorem tn_testF {y : Int} {ch : List CT} {h : Hd} (hc : okCL ch) (e : okH h) (f : Nat) : testF (tnL y ch) (tnH y h) f = testF ch h f := by
  unfold testF
  rw [tnH_v, tnH_n, tn_dupF e]
  by_cases hv : vF h f = true
  · have h1 := okH_at e f
    rw [hv] at h1 ⊢
    rw [tn_bound h1 hc]
  · rw [if_neg hv, if_neg hv]
theorem tn_testsTo {y : Int} {ch : List CT} {h : Hd} (hc : okCL ch) (e : okH h) : ∀ f, testsTo (tnL y ch) (tnH y h) f = testsTo ch h f
  | 0 => rfl
  | f + 1 => by rw [testsTo, testsTo, tn_testsTo hc e f, tn_testF hc e]
theorem tn_keyTo (y : Int) (h : Hd) (f i : Nat) : keyTo (tnH y h) f i = keyTo h f i := by
  unfold keyTo
  rw [tnH_v, tnH_n]
  by_cases hv : i < f ∧ vF h i = false
  · rw [if_pos hv, if_pos hv, hv.2]; simp [tnV]
  · rw [if_neg hv, if_neg hv]
mutual
theorem tn_step {y : Int} : ∀ (c : CT) (ch : List CT), okCL ch → okC c → stepOf (tnL y ch) (tn y c) = stepOf ch c
  | .mk h l, ch, hc, e => by
    rw [okC] at e
    rw [tn, stepOf, stepOf]
    have hk : (tnH y h).k = h.k := rfl
    rw [hk, tn_steps l ch hc e.2, tn_keyTo, tn_keyTo, tn_keyTo, tn_testsTo hc e.1]
theorem tn_steps {y : Int} : ∀ (l ch : List CT), okCL ch → okCL l → stepsOf (tnL y ch) (tnL y l) = stepsOf ch l
  | [], _, _, _ => by rw [tnL, stepsOf, stepsOf]
  | c :: t, ch, hc, e => by
    rw [okCL] at e
    rw [tnL, stepsOf, stepsOf, tn_step c ch hc e.1]
    have h1 : tnL y ch ++ [tn y c] = tnL y (ch ++ [c]) := by rw [tnL_append]; simp [tnL]
    rw [h1, tn_steps t (ch ++ [c]) (okCL_append hc (by rw [okCL]; exact ⟨e.1, by rw [okCL]; trivial⟩)) e.2]
end
/-- Conditions with other names have the same steps. -/
theorem tn_same {y : Int} {l : List CT} (h : ∀ c ∈ l, check c 1 = 0) : stepsOf [] (tnL y l) = stepsOf [] l := tn_steps (y := y) l [] (by rw [okCL]; trivial) (ok_all h)
theorem okCL_at {rs : List (CT × Value)} {k : Nat} (h : okCL (rs.map Prod.fst)) (hk : k < rs.length) : okC (rs.getD k d0).1 := okCL_mem h (List.mem_map.2 ⟨_, getD_mem hk, rfl⟩)
theorem okV_r {b : Bool} {n : Int} (h : okV b n) (hb : b = true) : 1 ≤ n ∧ n ≤ 32 := h hb
end Go.Gx.T8
namespace Go.Gx.T8
open Go.Gx Go.Gx.T3 Go.Gx.T4
/-- A name, when the first f terms are turned. -/
def tnF (y : Int) (h : Hd) (f i : Nat) : Int := if i < f then tnV y (vF h i) (nF h i) else nF h i
theorem tnF_set {y : Int} {h : Hd} {f : Nat} (hv : vF h f = true) : tnF y h (f + 1) f = (nF h f - 1 + y) % 32 + 1 := by
  unfold tnF tnV
  rw [if_pos (by omega), if_pos hv]
theorem tnF_not {y : Int} {h : Hd} {f : Nat} (hv : vF h f = false) : tnF y h (f + 1) f = tnF y h f f := by
  unfold tnF tnV
  rw [if_pos (Nat.lt_succ_self f), if_neg (by rw [hv]; decide), if_neg (Nat.lt_irrefl f)]
theorem tnF_else {y : Int} {h : Hd} {f i : Nat} (hi : i ≠ f) : tnF y h (f + 1) i = tnF y h f i := by
  unfold tnF
  by_cases e : i < f
  · rw [if_pos e, if_pos (by omega)]
  · rw [if_neg e, if_neg (by omega)]
end Go.Gx.T8
