/- Texts of this work, laid together: a logic of steps, plain laws, and walks of Go functions, each without a condition but those that its theorems name. -/
import Derived.Test.YtoflaphnlfggkaaKCompRight1
import Derived.Test.YtoflaphnlfggkaaRows
import Derived.Shelf.Small.Bits
import Derived.Shelf.SlSortCmp.WholeK
import Derived.Shelf.SlSortCmp.NoneTotal
import Derived.Ground.SlsfProg
import Derived.Shelf.Small.Wraps
import Derived.Shelf.Strconv.Itoa0
import Derived.Ground.Names2Prog
import Derived.Shelf.Slices.SearchI
import Derived.Test.YtoflaphnlfggkaaProg
/- Plain laws of steps that may be; few steps; steps of right conditions are right; no program in sight. -/
namespace Go.Gx.T8
open Go.Gx Go.Gx.T3 Go.Gx.T4 Go.Gx.T6
/-- May tests be, behind a field? -/
def tsRight : List TD → Int → Bool
  | [], _ => true
  | t :: r, last => if ((((t.1 ≤ last ∨ 2 < t.1) ∨ t.2.1 < -1) ∨ 16 ≤ t.2.1) ∨ t.2.2 < 0 ∨ 2 < t.2.2) ∨ (t.2.1 < 0 ∧ t.1 ≤ t.2.2) then false else tsRight r t.1
def tBad (t : TD) (last : Int) : Prop := ((((t.1 ≤ last ∨ 2 < t.1) ∨ t.2.1 < -1) ∨ 16 ≤ t.2.1) ∨ t.2.2 < 0 ∨ 2 < t.2.2) ∨ (t.2.1 < 0 ∧ t.1 ≤ t.2.2)
theorem tsRight_bad {ts : List TD} {k : Nat} {last : Int} (hk : k < ts.length) (h : tBad (ts.getD k t0) last) : tsRight (ts.drop k) last = false := by
  rw [List.drop_eq_getElem_cons hk, tsRight]
  have e : ts.getD k t0 = ts[k] := by simp [List.getD, hk]
  rw [e] at h
  exact if_pos h
theorem tsRight_next {ts : List TD} {k : Nat} {last : Int} (hk : k < ts.length) (h : ¬ tBad (ts.getD k t0) last) : tsRight (ts.drop k) last = tsRight (ts.drop (k + 1)) (ts.getD k t0).1 := by
  rw [List.drop_eq_getElem_cons hk, tsRight]
  have e : ts.getD k t0 = ts[k] := by simp [List.getD, hk]
  rw [e] at h ⊢
  exact if_neg h
def lastF (ts : List TD) : Nat → Int
  | 0 => -1
  | k + 1 => (ts.getD k t0).1
def keyOk (h : SH) : Bool := decide ((0 ≤ h.k0 ∧ h.k0 ≤ 4096) ∧ (0 ≤ h.k1 ∧ h.k1 ≤ 4096) ∧ 0 ≤ h.k2 ∧ h.k2 ≤ 4096)
def keyNone (h : SH) : Bool := csEq [.int .i64 h.k0, .int .i64 h.k1, .int .i64 h.k2] [.int .i64 0, .int .i64 0, .int .i64 0]
theorem keyNone_iff (h : SH) : keyNone h = true ↔ h.k0 = 0 ∧ h.k1 = 0 ∧ h.k2 = 0 := by simp [keyNone, csEq, cEq, and_assoc]
mutual
/-- The program's answer, and how many it has counted. -/
def cR : ST → Int → Int → Bool × Int
  | .mk h l, d, n => if 16 < n + 1 ∨ 3 < d then (false, n + 1) else if h.k = 1 ∨ h.k = 2 then (keyOk h && (decide (l.length = 0) && tsRight h.ts (-1)), n + 1) else if ((h.k ≠ 3 ∨ keyNone h = false) ∨ 0 < h.ts.length) ∨ l.length = 0 then (false, n + 1) else cRL l (d + 1) (n + 1)
def cRL : List ST → Int → Int → Bool × Int
  | [], _, n => (true, n)
  | c :: t, d, n => if (cR c d n).1 = true then cRL t d (cR c d n).2 else (false, (cR c d n).2)
end
theorem cR_eq (s : ST) (d n : Int) : cR s d n = if 16 < n + 1 ∨ 3 < d then (false, n + 1) else if s.h.k = 1 ∨ s.h.k = 2 then (keyOk s.h && (decide (s.subs.length = 0) && tsRight s.h.ts (-1)), n + 1) else if ((s.h.k ≠ 3 ∨ keyNone s.h = false) ∨ 0 < s.h.ts.length) ∨ s.subs.length = 0 then (false, n + 1) else cRL s.subs (d + 1) (n + 1) := by
  cases s; rw [cR]; rfl
theorem cRL_yes {c : ST} {t : List ST} {d n : Int} (h : (cR c d n).1 = true) : cRL (c :: t) d n = cRL t d (cR c d n).2 := by rw [cRL, if_pos h]
theorem cRL_no {c : ST} {t : List ST} {d n : Int} (h : (cR c d n).1 = false) : cRL (c :: t) d n = (false, (cR c d n).2) := by rw [cRL, if_neg (by simp [h])]
mutual
def ssize : ST → Nat
  | .mk _ l => 1 + ssizeL l
def ssizeL : List ST → Nat
  | [] => 0
  | c :: t => ssize c + ssizeL t
end
theorem ssize_eq (s : ST) : ssize s = 1 + ssizeL s.subs := by cases s; rw [ssize]; rfl
theorem ssizeL_append (a b : List ST) : ssizeL (a ++ b) = ssizeL a + ssizeL b := by
  induction a with
  | nil => simp [ssizeL]
  | cons c t ih => simp only [List.cons_append, ssizeL, ih]; omega
theorem ssizeL_take {rs : List SVal} {k : Nat} (hk : k < rs.length) : ssizeL ((rs.map Prod.fst).take (k + 1)) = ssizeL ((rs.map Prod.fst).take k) + ssize (rs.getD k s0).1 := by
  rw [sv_take hk, ssizeL_append]; simp [ssizeL]
theorem ssizeL_take_le : ∀ (l : List ST) (k : Nat), ssizeL (l.take k) ≤ ssizeL l
  | [], k => by simp
  | c :: t, 0 => by simp [ssizeL]
  | c :: t, k + 1 => by have := ssizeL_take_le t k; simp only [List.take_succ_cons, ssizeL]; omega
mutual
theorem ssize_le : ∀ s : ST, ssize s ≤ ssz s
  | .mk h l => by have := ssizeL_le l; rw [ssize, ssz]; omega
theorem ssizeL_le : ∀ l : List ST, ssizeL l ≤ sszL l
  | [] => Nat.le_refl _
  | c :: t => by have h1 := ssize_le c; have h2 := ssizeL_le t; rw [ssizeL, sszL]; omega
end
theorem ssizeL_mem : ∀ {l : List ST} {x : ST}, x ∈ l → ssize x ≤ ssizeL l
  | c :: t, x, h => by
    rw [ssizeL]
    rcases List.mem_cons.1 h with rfl | h
    · omega
    · have := ssizeL_mem h; omega
mutual
/-- The document's answer. -/
def rR : ST → Int → Bool
  | .mk h l, d => if ((3 < d ∨ h.k < 1) ∨ 3 < h.k) ∨ 16 < 1 + ssizeL l then false else if h.k = 3 then (if (keyNone h = false ∨ 0 < h.ts.length) ∨ l.length = 0 then false else rRL l (d + 1)) else if keyOk h = false ∨ 0 < l.length then false else tsRight h.ts (-1)
def rRL : List ST → Int → Bool
  | [], _ => true
  | c :: t, d => rR c d && rRL t d
end
theorem rR_eq (s : ST) (d : Int) : rR s d = if ((3 < d ∨ s.h.k < 1) ∨ 3 < s.h.k) ∨ 16 < ssize s then false else if s.h.k = 3 then (if (keyNone s.h = false ∨ 0 < s.h.ts.length) ∨ s.subs.length = 0 then false else rRL s.subs (d + 1)) else if keyOk s.h = false ∨ 0 < s.subs.length then false else tsRight s.h.ts (-1) := by
  cases s; rw [rR, ssize]; rfl
theorem rRL_no {rs : List SVal} {k : Nat} {d : Int} (hk : k < rs.length) (h : rR (rs.getD k s0).1 d = false) : rRL ((rs.map Prod.fst).drop k) d = false := by
  rw [sv_drop hk, rRL, h, Bool.false_and]
theorem rRL_yes {rs : List SVal} {k : Nat} {d : Int} (hk : k < rs.length) (h : rR (rs.getD k s0).1 d = true) : rRL ((rs.map Prod.fst).drop k) d = rRL ((rs.map Prod.fst).drop (k + 1)) d := by
  rw [sv_drop hk, rRL, h, Bool.true_and]
mutual
/-- May it be, but for how many there are? -/
def sR : ST → Int → Bool
  | .mk h l, d => if ((3 < d ∨ h.k < 1) ∨ 3 < h.k) then false else if h.k = 3 then (if (keyNone h = false ∨ 0 < h.ts.length) ∨ l.length = 0 then false else sRL l (d + 1)) else if keyOk h = false ∨ 0 < l.length then false else tsRight h.ts (-1)
def sRL : List ST → Int → Bool
  | [], _ => true
  | c :: t, d => sR c d && sRL t d
end
mutual
theorem rR_s : ∀ (s : ST) (d : Int), rR s d = (sR s d && decide (ssize s ≤ 16))
  | .mk h l, d => by
    rw [rR, sR, ssize]
    by_cases c0 : (3 < d ∨ h.k < 1) ∨ 3 < h.k
    · rw [if_pos (.inl c0), if_pos c0, Bool.false_and]
    rw [if_neg c0]
    by_cases c1 : 16 < 1 + ssizeL l
    · rw [if_pos (.inr c1), decide_eq_false (by omega), Bool.and_false]
    rw [if_neg (by omega), decide_eq_true (show 1 + ssizeL l ≤ 16 by omega), Bool.and_true]
    by_cases c2 : h.k = 3
    · rw [if_pos c2, if_pos c2]
      by_cases c3 : (keyNone h = false ∨ 0 < h.ts.length) ∨ l.length = 0
      · rw [if_pos c3, if_pos c3]
      · rw [if_neg c3, if_neg c3, rRL_s l (d + 1) (by omega)]
    · rw [if_neg c2, if_neg c2]
theorem rRL_s : ∀ (l : List ST) (d : Int), ssizeL l ≤ 16 → rRL l d = sRL l d
  | [], _, _ => by rw [rRL, sRL]
  | c :: t, d, h => by
    rw [ssizeL] at h
    rw [rRL, sRL, rR_s c d, rRL_s t d (by omega), decide_eq_true (show ssize c ≤ 16 by omega), Bool.and_true]
end
mutual
theorem cR_s : ∀ (s : ST) (d n : Int), (cR s d n).1 = (sR s d && decide (n + ssize s ≤ 16)) ∧ ((cR s d n).1 = true → (cR s d n).2 = n + ssize s)
  | .mk h l, d, n => by
    rw [cR, sR, ssize]
    by_cases c1 : 16 < n + 1 ∨ 3 < d
    · rw [if_pos c1]
      refine ⟨?_, fun h => by cases h⟩
      rcases c1 with c1 | c1
      · rw [decide_eq_false (by omega), Bool.and_false]
      · rw [if_pos (.inl (.inl c1)), Bool.false_and]
    rw [if_neg c1]
    by_cases c2 : h.k = 1 ∨ h.k = 2
    · rw [if_pos c2, if_neg (by omega), if_neg (by omega)]
      by_cases c3 : l = []
      · subst c3
        have e1 : decide (n + ((1 + ssizeL ([] : List ST) : Nat) : Int) ≤ 16) = true := decide_eq_true (by rw [ssizeL]; omega)
        rw [e1, Bool.and_true]
        refine ⟨?_, fun _ => by rw [ssizeL]; simp⟩
        cases e : keyOk h <;> simp
      · have c4 : 0 < l.length := by cases l <;> simp_all
        rw [if_pos (.inr c4), decide_eq_false (show ¬ l.length = 0 by omega), Bool.false_and, Bool.and_false]
        exact ⟨rfl, fun h => by cases h⟩
    rw [if_neg c2]
    by_cases c3 : h.k = 3
    · rw [if_neg (show ¬ ((3 < d ∨ h.k < 1) ∨ 3 < h.k) by omega), if_pos c3]
      by_cases c4 : (keyNone h = false ∨ 0 < h.ts.length) ∨ l.length = 0
      · have c5 : ((h.k ≠ 3 ∨ keyNone h = false) ∨ 0 < h.ts.length) ∨ l.length = 0 := by
          rcases c4 with (c4 | c4) | c4
          · exact .inl (.inl (.inr c4))
          · exact .inl (.inr c4)
          · exact .inr c4
        rw [if_pos c4, if_pos c5, Bool.false_and]
        exact ⟨rfl, fun h => by cases h⟩
      · have c5 : ¬ (((h.k ≠ 3 ∨ keyNone h = false) ∨ 0 < h.ts.length) ∨ l.length = 0) := by
          rintro (((c5 | c5) | c5) | c5)
          · exact c5 c3
          · exact c4 (.inl (.inl c5))
          · exact c4 (.inl (.inr c5))
          · exact c4 (.inr c5)
        rw [if_neg c4, if_neg c5]
        have h1 := cRL_s l (d + 1) (n + 1) (by omega)
        refine ⟨?_, fun h => ?_⟩
        · rw [h1.1]
          congr 1
          exact decide_eq_decide.2 (by omega)
        · rw [h1.2 h]; omega
    · have c5 : ((h.k ≠ 3 ∨ keyNone h = false) ∨ 0 < h.ts.length) ∨ l.length = 0 := .inl (.inl (.inl c3))
      rw [if_pos c5, if_pos (by omega), Bool.false_and]
      exact ⟨rfl, fun h => by cases h⟩
theorem cRL_s : ∀ (l : List ST) (d n : Int), n ≤ 16 → (cRL l d n).1 = (sRL l d && decide (n + ssizeL l ≤ 16)) ∧ ((cRL l d n).1 = true → (cRL l d n).2 = n + ssizeL l)
  | [], d, n, hn => by
    rw [cRL, sRL, ssizeL]
    simp [hn]
  | c :: t, d, n, hn => by
    have h1 := cR_s c d n
    rw [cRL, sRL, ssizeL]
    by_cases e : (cR c d n).1 = true
    · rw [if_pos e]
      have h3 := h1.2 e
      have h4 := h1.1
      rw [e] at h4
      have h5 := (Bool.and_eq_true _ _).mp h4.symm
      have h6 := of_decide_eq_true h5.2
      have h2 := cRL_s t d (cR c d n).2 (by omega)
      refine ⟨?_, fun h => ?_⟩
      · rw [h2.1, h5.1, Bool.true_and, h3]
        congr 1
        exact decide_eq_decide.2 (by omega)
      · rw [h2.2 h, h3]; omega
    · rw [if_neg e]
      refine ⟨?_, fun h => by cases h⟩
      have h4 := h1.1
      rw [Bool.eq_false_iff.2 e] at h4
      by_cases e2 : sR c d = true
      · rw [e2, Bool.true_and] at h4
        have h5 := of_decide_eq_false h4.symm
        rw [decide_eq_false (by omega), Bool.and_false]
      · rw [Bool.eq_false_iff.2 e2, Bool.false_and, Bool.false_and]
end
/-- The program's answer is the document's. -/
theorem cR_right (s : ST) : (cR s 1 0).1 = rR s 1 := by
  rw [(cR_s s 1 0).1, rR_s]
  congr 1
  exact decide_eq_decide.2 (by omega)
mutual
theorem cR_bd : ∀ (s : ST) (d n : Int), 0 ≤ n → n ≤ 16 → n ≤ (cR s d n).2 ∧ (cR s d n).2 ≤ 17 ∧ ((cR s d n).1 = true → (cR s d n).2 ≤ 16)
  | .mk h l, d, n, h0, h1 => by
    rw [cR]
    by_cases c1 : 16 < n + 1 ∨ 3 < d
    · rw [if_pos c1]; exact ⟨by omega, by omega, fun h => by cases h⟩
    rw [if_neg c1]
    by_cases c2 : h.k = 1 ∨ h.k = 2
    · rw [if_pos c2]; exact ⟨by omega, by omega, fun _ => by omega⟩
    rw [if_neg c2]
    by_cases c5 : ((h.k ≠ 3 ∨ keyNone h = false) ∨ 0 < h.ts.length) ∨ l.length = 0
    · rw [if_pos c5]; exact ⟨by omega, by omega, fun h => by cases h⟩
    rw [if_neg c5]
    have := cRL_bd l (d + 1) (n + 1) (by omega) (by omega)
    exact ⟨by omega, this.2.1, this.2.2⟩
theorem cRL_bd : ∀ (l : List ST) (d n : Int), 0 ≤ n → n ≤ 16 → n ≤ (cRL l d n).2 ∧ (cRL l d n).2 ≤ 17 ∧ ((cRL l d n).1 = true → (cRL l d n).2 ≤ 16)
  | [], d, n, h0, h1 => by rw [cRL]; exact ⟨Int.le_refl _, by simp; omega, fun _ => h1⟩
  | c :: t, d, n, h0, h1 => by
    have hc := cR_bd c d n h0 h1
    rw [cRL]
    split
    · rename_i hy
      have := cRL_bd t d (cR c d n).2 (by omega) (hc.2.2 hy)
      exact ⟨by omega, this.2.1, this.2.2⟩
    · exact ⟨hc.1, hc.2.1, fun h => by cases h⟩
end
/-! ### few -/
mutual
def fw : ST → Int → Int → Bool × Int
  | .mk h l, deep, n => if 90 < n + (1 + h.ts.length) ∨ deep < 0 then (false, n + (1 + h.ts.length)) else fwL l (deep - 1) (n + (1 + h.ts.length))
def fwL : List ST → Int → Int → Bool × Int
  | [], _, n => (true, n)
  | c :: t, deep, n => if (fw c deep n).1 = true then fwL t deep (fw c deep n).2 else (false, (fw c deep n).2)
end
theorem fw_eq (s : ST) (deep n : Int) : fw s deep n = if 90 < n + (1 + s.h.ts.length) ∨ deep < 0 then (false, n + (1 + s.h.ts.length)) else fwL s.subs (deep - 1) (n + (1 + s.h.ts.length)) := by
  cases s; rw [fw]; rfl
theorem fwL_yes {c : ST} {t : List ST} {d n : Int} (h : (fw c d n).1 = true) : fwL (c :: t) d n = fwL t d (fw c d n).2 := by rw [fwL, if_pos h]
theorem fwL_no {c : ST} {t : List ST} {d n : Int} (h : (fw c d n).1 = false) : fwL (c :: t) d n = (false, (fw c d n).2) := by rw [fwL, if_neg (by simp [h])]
mutual
theorem fw_ssz : ∀ (s : ST) (deep n : Int), (fw s deep n).1 = true → (fw s deep n).2 = n + ssz s ∧ n + ssz s ≤ 90
  | .mk h l, deep, n, hs => by
    rw [fw] at hs ⊢
    rw [ssz]
    split at hs
    · cases hs
    · rename_i hc
      rw [if_neg hc]
      have := fwL_ssz l (deep - 1) _ (by omega) hs
      omega
theorem fwL_ssz : ∀ (l : List ST) (deep n : Int), n ≤ 90 → (fwL l deep n).1 = true → (fwL l deep n).2 = n + sszL l ∧ n + sszL l ≤ 90
  | [], _, n, hn, _ => by rw [fwL, sszL]; simp; exact hn
  | c :: t, deep, n, hn, hs => by
    rw [fwL] at hs ⊢
    rw [sszL]
    split at hs
    · rename_i hc
      have h1 := fw_ssz c deep n hc
      rw [if_pos hc]
      have h2 := fwL_ssz t deep _ (by omega) hs
      omega
    · cases hs
end
theorem fw_few {s : ST} (h : (fw s 5 0).1 = true) : ssz s ≤ 90 := by have := fw_ssz s 5 0 h; omega
mutual
theorem fw_ge : ∀ (s : ST) (deep n : Int), n ≤ (fw s deep n).2
  | .mk h l, deep, n => by
    rw [fw]
    split
    · simp; omega
    · have := fwL_ge l (deep - 1) (n + (1 + h.ts.length)); omega
theorem fwL_ge : ∀ (l : List ST) (deep n : Int), n ≤ (fwL l deep n).2
  | [], _, n => by rw [fwL]; simp
  | c :: t, deep, n => by
    have h1 := fw_ge c deep n
    have h2 := fwL_ge t deep (fw c deep n).2
    rw [fwL]
    split
    · omega
    · exact h1
end
/-! ### the steps of right conditions are right -/
theorem ts_app : ∀ {a : List TD} {b : List TD} {l m : Int}, tsRight a l = true → (∀ t ∈ a, t.1 ≤ m) → l ≤ m → (∀ l', l' ≤ m → tsRight b l' = true) → tsRight (a ++ b) l = true
  | [], b, l, m, _, _, hl, hb => hb l hl
  | t :: r, b, l, m, h, hm, hl, hb => by
    rw [tsRight] at h
    split at h
    · cases h
    · rename_i h1
      rw [List.cons_append, tsRight, if_neg h1]
      exact ts_app h (fun x hx => hm x (by simp [hx])) (hm t (by simp)) hb
theorem dupF_bd {h : Hd} {f : Nat} {g : Int} (hf : f < 3) (e : dupF h f = some g) : 0 ≤ g ∧ g < f ∧ g ≤ 2 := by
  unfold dupF at e
  split at e
  · rename_i h1; simp only [Option.some.injEq] at e; omega
  · split at e
    · rename_i h1; simp only [Option.some.injEq] at e; omega
    · cases e
theorem testF_ok {ch : List CT} {h : Hd} {f : Nat} (hf : f < 3) (hc : ch.length ≤ 16) : ∀ l : Int, l ≤ (f : Int) - 1 → tsRight (testF ch h f) l = true := by
  intro l hl
  unfold testF
  split
  · split
    · rename_i x hx
      have hb := bound_lt hx
      rw [tsRight, if_neg (by dsimp only; omega), tsRight]
    · split
      · rename_i g hg
        have hd := dupF_bd hf hg
        rw [tsRight, if_neg (by dsimp only; omega), tsRight]
      · rw [tsRight]
  · rw [tsRight]
theorem testF_fst {ch : List CT} {h : Hd} {f : Nat} : ∀ t ∈ testF ch h f, t.1 = (f : Int) := by
  intro t ht
  unfold testF at ht
  split at ht
  · split at ht
    · rw [List.mem_singleton.1 ht]
    · split at ht
      · rw [List.mem_singleton.1 ht]
      · cases ht
  · cases ht
theorem testsTo_fst {ch : List CT} {h : Hd} : ∀ (f : Nat), ∀ t ∈ testsTo ch h f, t.1 ≤ (f : Int) - 1
  | 0, t, ht => by cases ht
  | f + 1, t, ht => by
    rw [testsTo] at ht
    rcases List.mem_append.1 ht with ht | ht
    · have := testsTo_fst f t ht; omega
    · have := testF_fst t ht; omega
theorem testsTo_ok {ch : List CT} {h : Hd} (hc : ch.length ≤ 16) : ∀ (f : Nat), f ≤ 3 → tsRight (testsTo ch h f) (-1) = true
  | 0, _ => rfl
  | f + 1, hf => by
    rw [testsTo]
    exact ts_app (m := (f : Int) - 1) (testsTo_ok hc f (by omega)) (testsTo_fst f) (by omega) (testF_ok (by omega) hc)
theorem termRight_bd {b : Bool} {n : Int} (h : termRight b n = true) : 1 ≤ n ∧ n ≤ 4096 := by
  cases b <;> simp [termRight] at h <;> omega
theorem keyTo_bd {h : Hd} (e : headOk h = true) (i : Nat) : 0 ≤ keyTo h 3 i ∧ keyTo h 3 i ≤ 4096 := by
  simp only [headOk, Bool.and_eq_true] at e
  have e0 := termRight_bd e.1
  have e1 := termRight_bd e.2.1
  have e2 := termRight_bd e.2.2
  unfold keyTo
  split
  · match i with
    | 0 => show 0 ≤ h.n0 ∧ h.n0 ≤ 4096; omega
    | 1 => show 0 ≤ h.n1 ∧ h.n1 ≤ 4096; omega
    | _ + 2 => show 0 ≤ h.n2 ∧ h.n2 ≤ 4096; omega
  · omega
mutual
theorem sR_of : ∀ (c : CT) (ch : List CT) (d : Int), 1 ≤ d → check c d = 0 → ch.length + size c ≤ 17 → sR (stepOf ch c) d = true
  | .mk h l, ch, d, hd, hc, hz => by
    have hm : max d 1 = d := by omega
    rw [check, hm] at hc
    rw [size] at hz
    by_cases c1 : 3 < d
    · rw [if_pos c1] at hc; omega
    rw [if_neg c1] at hc
    rw [stepOf]
    by_cases c2 : h.k = 3
    · rw [if_pos c2] at hc
      rw [if_pos c2, sR]
      by_cases c3 : headNone h = false
      · rw [if_pos c3] at hc; omega
      rw [if_neg c3] at hc
      by_cases c4 : l.length = 0
      · rw [if_pos c4] at hc; omega
      rw [if_neg c4] at hc
      rw [if_neg (by dsimp only; omega), if_pos c2, if_neg (by
        rw [stepsOf_len]
        rintro ((h1 | h1) | h1)
        · have : keyNone ⟨h.k, 0, 0, 0, []⟩ = true := (keyNone_iff _).2 ⟨rfl, rfl, rfl⟩
          rw [this] at h1; cases h1
        · simp at h1
        · exact c4 h1)]
      exact sRL_of l ch (d + 1) (by omega) hc (by omega)
    · rw [if_neg c2] at hc
      rw [if_neg c2, sR]
      by_cases c3 : h.k ≠ 1 ∧ h.k ≠ 2
      · rw [if_pos c3] at hc; omega
      rw [if_neg c3] at hc
      by_cases c4 : headOk h = false ∨ 0 < l.length
      · rw [if_pos c4] at hc; omega
      have c5 : headOk h = true := by
        cases e : headOk h with
        | true => rfl
        | false => exact absurd (.inl e) c4
      rw [if_neg (by dsimp only; omega), if_neg c2, if_neg (by
        rintro (h1 | h1)
        · have : keyOk ⟨h.k, keyTo h 3 0, keyTo h 3 1, keyTo h 3 2, testsTo ch h 3⟩ = true := decide_eq_true ⟨keyTo_bd c5 0, keyTo_bd c5 1, keyTo_bd c5 2⟩
          rw [this] at h1; cases h1
        · simp at h1)]
      exact testsTo_ok (by omega) 3 (Nat.le_refl _)
theorem sRL_of : ∀ (l ch : List CT) (d : Int), 1 ≤ d → checkL l d = 0 → ch.length + sizeL l ≤ 16 → sRL (stepsOf ch l) d = true
  | [], _, _, _, _, _ => by rw [stepsOf, sRL]
  | c :: t, ch, d, hd, hc, hz => by
    rw [checkL] at hc
    rw [sizeL] at hz
    have h1 := size_pos c
    by_cases h : check c d = 0
    · rw [if_pos h] at hc
      rw [stepsOf, sRL, sR_of c ch d hd h (by omega), sRL_of t (ch ++ [c]) d hd hc (by simp; omega)]; rfl
    · rw [if_neg h] at hc; exact absurd hc h
end
mutual
theorem ssize_of : ∀ (c : CT) (ch : List CT), ssize (stepOf ch c) ≤ size c
  | .mk h l, ch => by
    rw [stepOf, size]
    split
    · have := ssizeL_of l ch; rw [ssize]; omega
    · rw [ssize, ssizeL]; omega
theorem ssizeL_of : ∀ (l ch : List CT), ssizeL (stepsOf ch l) ≤ sizeL l
  | [], _ => by simp [stepsOf, ssizeL]
  | c :: t, ch => by
    have h1 := ssize_of c ch
    have h2 := ssizeL_of t (ch ++ [c])
    rw [stepsOf, ssizeL, sizeL]; omega
end
/-! ### how many Pos -/
def posS (l : List ST) : Nat := l.countP fun s => decide (s.h.k = 1)
end Go.Gx.T8
namespace Go.Gx.T8
open Go.Gx Go.Gx.T3 Go.Gx.T4
theorem lastF_or (ts : List TD) (k : Nat) : (k = 0 ∧ lastF ts k = -1) ∨ (0 < k ∧ lastF ts k = (ts.getD (k - 1) t0).1) := by
  cases k with
  | zero => exact .inl ⟨rfl, rfl⟩
  | succ k => exact .inr ⟨by omega, rfl⟩
theorem cR_big {s : ST} {d n : Int} (h : 16 < n + 1 ∨ 3 < d) : cR s d n = (false, n + 1) := by rw [cR_eq, if_pos h]
theorem cR_posneg {s : ST} {d n : Int} (h : ¬ (16 < n + 1 ∨ 3 < d)) (hk : s.h.k = 1 ∨ s.h.k = 2) : cR s d n = (keyOk s.h && (decide (s.subs.length = 0) && tsRight s.h.ts (-1)), n + 1) := by rw [cR_eq, if_neg h, if_pos hk]
theorem cR_bad {s : ST} {d n : Int} (h : ¬ (16 < n + 1 ∨ 3 < d)) (hk : ¬ (s.h.k = 1 ∨ s.h.k = 2)) (hb : ((s.h.k ≠ 3 ∨ keyNone s.h = false) ∨ 0 < s.h.ts.length) ∨ s.subs.length = 0) : cR s d n = (false, n + 1) := by rw [cR_eq, if_neg h, if_neg hk, if_pos hb]
theorem cR_in {s : ST} {d n : Int} (h : ¬ (16 < n + 1 ∨ 3 < d)) (hk : ¬ (s.h.k = 1 ∨ s.h.k = 2)) (hb : ¬ (((s.h.k ≠ 3 ∨ keyNone s.h = false) ∨ 0 < s.h.ts.length) ∨ s.subs.length = 0)) : cR s d n = cRL s.subs (d + 1) (n + 1) := by rw [cR_eq, if_neg h, if_neg hk, if_neg hb]
end Go.Gx.T8
namespace Go.Gx.T8
open Go.Gx Go.Gx.T3 Go.Gx.T4
mutual
/-- Each step's tests take no more than may be. -/
def ltS : ST → Prop
  | .mk h l => h.ts.length * 24 ≤ 140737488351232 ∧ ltL l
def ltL : List ST → Prop
  | [] => True
  | c :: t => ltS c ∧ ltL t
end
theorem ltL_iff : ∀ {l : List ST}, ltL l ↔ ∀ c ∈ l, ltS c
  | [] => by simp [ltL]
  | c :: t => by rw [ltL, ltL_iff]; simp
theorem ltS_mk {h : SH} {l : List ST} (h1 : h.ts.length * 24 ≤ 140737488351232) (h2 : ∀ c ∈ l, ltS c) : ltS (.mk h l) := by rw [ltS]; exact ⟨h1, ltL_iff.2 h2⟩
theorem ltS_len {c : ST} (h : ltS c) : c.h.ts.length * 24 ≤ 140737488351232 := by cases c; rw [ltS] at h; exact h.1
theorem ltS_at {c : ST} {rs : List SVal} {k : Nat} (hl : c.subs = rs.map Prod.fst) (h : ltS c) (hk : k < rs.length) : ltS (rs.getD k s0).1 := by
  have : (rs.getD k s0).1 ∈ c.subs := by rw [hl]; exact sv_mem hk
  cases c; rw [ltS] at h; exact ltL_iff.1 h.2 _ this
end Go.Gx.T8

/-
  GX: an assertion is brought to the front. Generic in the program.
-/
namespace Go.Gx
theorem Sep.front {w : World} : ∀ {L : List Asrt} {k : Nat} {A : Asrt} {U : Nat → Prop}, L[k]? = some A → Sep w L U → Sep w (A :: L.eraseIdx k) U
  | [], _, _, _, h, _ => by simp at h
  | B :: L, 0, A, U, h, hS => by
    simp at h; subst h; simpa using hS
  | B :: L, k + 1, A, U, h, ⟨F, hB, hF, hL⟩ => by
    simp at h
    obtain ⟨F2, hA, hF2, hR⟩ := Sep.front h hL
    refine ⟨F2, hA, fun b hb => (hF2 b hb).1, ?_⟩
    rw [List.eraseIdx_cons_succ]
    exact ⟨F, hB, fun b hb => ⟨hF b hb, fun h2 => (hF2 b h2).2 hb⟩, hR.mono (fun b _ hb => ⟨⟨hb.1.1, hb.2⟩, hb.1.2⟩)⟩
theorem Mem.front {X : Nat → Prop} {w0 w : World} {G : Ghost} {L : List Asrt} {k : Nat} {A : Asrt} (h : Mem X w0 G w L) (hL : L[k]? = some A) : Mem X w0 G w (A :: L.eraseIdx k) := ⟨h.since, h.has, h.sep.front hL⟩
section
variable {P : Program} {ops : Array Oper} {Q : Exit → Act → World → Prop} {N : Nat} {X : Nat → Prop} {w0 : World} {G : Ghost} {l : List (Nat × Value)} {L : List Asrt} {rest : List Oper} {k : Nat} {A : Asrt}
end
end Go.Gx
namespace Go.Gx
open Go.RowKit
section
variable {P : Program} {N : Nat} {X : Nat → Prop} {w0 : World} {G : Ghost} {l : List (Nat × Value)} {L : List Asrt} {d : Nat} {ty : TypeId} {pos : String} {after : Array Edge} {gd : Option (Nat × Bool)} {x : Operand}
end
end Go.Gx
namespace Go.Gx
open Go.RowKit
section
variable {P : Program} {N : Nat} {X : Nat → Prop} {w0 : World} {G : Ghost} {l : List (Nat × Value)} {L : List Asrt} {d : Nat} {ty : TypeId} {pos : String} {after : Array Edge} {gd : Option (Nat × Bool)} {x : Operand}
end
end Go.Gx

/- Walks: what Go functions of this chapter come to, each as a function on plain data; no condition but those that each theorem names. Printed by a program of this work (gen.py). -/
namespace Go.Proofs.Ytoflaphnlfggkaa
open Go.Gx Go.Gx.T3 Go.Gx.T4 Go.Gx.T3
theorem mixed : Try.prog.follows .mixedOrders = true := by
 kernel_rfl
theorem sz3 : SzIs Try.prog 3 1 := by
 unfold SzIs
 kernel_rfl
theorem sz4 : SzIs Try.prog 4 1 := by
 unfold SzIs
 kernel_rfl
theorem sz22 : SzIs Try.prog 22 1 := by
 unfold SzIs
 kernel_rfl
theorem sz35 : SzIs Try.prog 35 2 := by
 unfold SzIs
 kernel_rfl
theorem sz36 : SzIs Try.prog 36 6 := by
 unfold SzIs
 kernel_rfl
theorem sz38 : SzIs Try.prog 38 8 := by
 unfold SzIs
 kernel_rfl
theorem zr3 : ZeroIs Try.prog 3 (Value.int .i64 0) := by
 unfold ZeroIs
 kernel_rfl
theorem zr35 : ZeroIs Try.prog 35 (Value.agg #[Value.bool false, Value.int .i64 0]) := by
 unfold ZeroIs
 kernel_rfl
theorem zr38 : ZeroIs Try.prog 38 (Value.agg #[Value.int .i64 0, Value.bool false, Value.int .i64 0, Value.bool false, Value.int .i64 0, Value.bool false, Value.int .i64 0, Value.slice none 0 0]) := by
 unfold ZeroIs
 kernel_rfl
def RcheckIs (n : Nat) : Prop := ∀ (c : CT) (sv : Value) (d : Int) (G : Ghost) (w : World), SizeOf.sizeOf c ≤ n → 1 ≤ d → Rs G sv c.subs → Has G w → Calls Try.prog 39 #[Value.agg #[Value.int .i64 c.h.k, Value.int .i64 (vi c.h.v0), Value.int .i64 c.h.n0, Value.int .i64 (vi c.h.v1), Value.int .i64 c.h.n1, Value.int .i64 (vi c.h.v2), Value.int .i64 c.h.n2, sv], Value.int .i64 d] w (Ret fun r w' => r = Value.int .i64 (check c d) ∧ Since nX w w')
def SmallIs (n : Nat) : Prop := ∀ (c : CT) (sv : Value) (deep m x : Int) (p : Nat) (G : Ghost) (F : Nat → Prop) (w : World), SizeOf.sizeOf c ≤ n → 0 ≤ x ∧ x ≤ m ∧ m ≤ 1000 ∧ deep ≤ 5 ∧ -1 ≤ deep → Cs G sv c.subs → Has G w → (cntA 3 p x).holds w F → (∀ b, F b → G b = none) → Calls Try.prog 58 #[Value.agg #[Value.int .i64 c.h.k, Value.bool c.h.v0, Value.int .i64 c.h.n0, Value.bool c.h.v1, Value.int .i64 c.h.n1, Value.bool c.h.v2, Value.int .i64 c.h.n2, sv], Value.int .i64 deep, Value.int .i64 m, Value.pointer (some ⟨p, 0, none⟩)] w (Ret fun r w' => r = Value.bool (small m c deep x).1 ∧ Kept (cntA 3 p (small m c deep x).2) F w w')
def RefIs (n : Nat) : Prop := ∀ (c : CT) (sv : Value) (G : Ghost) (w : World), SizeOf.sizeOf c ≤ n → size c ≤ 1000 → Cs G sv c.subs → Has G w → Calls Try.prog 19 #[Value.agg #[Value.int .i64 c.h.k, Value.bool c.h.v0, Value.int .i64 c.h.n0, Value.bool c.h.v1, Value.int .i64 c.h.n1, Value.bool c.h.v2, Value.int .i64 c.h.n2, sv]] w (Ret fun r w' => ∃ G', GNew w nX G G' ∧ Has G' w' ∧ (∃ u, r = Value.agg #[Value.int .i64 c.h.k, Value.int .i64 (vi c.h.v0), Value.int .i64 c.h.n0, Value.int .i64 (vi c.h.v1), Value.int .i64 c.h.n1, Value.int .i64 (vi c.h.v2), Value.int .i64 c.h.n2, u] ∧ Rs G' u c.subs) ∧ Since nX w w')
def RsizeIs (n : Nat) : Prop := ∀ (c : CT) (sv : Value) (G : Ghost) (w : World), SizeOf.sizeOf c ≤ n → size c ≤ 1000 → Rs G sv c.subs → Has G w → Calls Try.prog 18 #[Value.agg #[Value.int .i64 c.h.k, Value.int .i64 (vi c.h.v0), Value.int .i64 c.h.n0, Value.int .i64 (vi c.h.v1), Value.int .i64 c.h.n1, Value.int .i64 (vi c.h.v2), Value.int .i64 c.h.n2, sv]] w (Ret fun r w' => r = Value.int .i64 (size c : Nat) ∧ Since nX w w')
end Go.Proofs.Ytoflaphnlfggkaa

/- Walks: what Go functions of this chapter come to, each as a function on plain data; no condition but those that each theorem names. Printed by a program of this work (gen.py). -/
namespace Go.Proofs.Ytoflaphnlfggkaa
open Go.Gx Go.Gx.T3 Go.Gx.T4 Go.Gx.T3 Go.Gx.T8 Go.Gx.T4 Go.Gx.T3
end Go.Proofs.Ytoflaphnlfggkaa

/- Walks: what Go functions of this chapter come to, each as a function on plain data; no condition but those that each theorem names. Printed by a program of this work (gen.py). -/
namespace Go.Proofs.Ytoflaphnlfggkaa
open Go.Gx Go.Gx.T3 Go.Gx.T4 Go.Gx.T3 Go.Gx.T8 Go.Gx.T4 Go.Gx.T3
theorem sz48 : SzIs Try.prog 48 1 := by
 unfold SzIs
 kernel_rfl
theorem sz60 : SzIs Try.prog 60 3 := by
 unfold SzIs
 kernel_rfl
theorem sz68 : SzIs Try.prog 68 1 := by
 unfold SzIs
 kernel_rfl
theorem sz70 : SzIs Try.prog 70 6 := by
 unfold SzIs
 kernel_rfl
theorem zr70 : ZeroIs Try.prog 70 (Value.agg #[Value.int .i64 0, Value.int .i64 0, Value.int .i64 0, Value.int .i64 0, Value.slice none 0 0, Value.slice none 0 0]) := by
 unfold ZeroIs
 kernel_rfl
theorem bl96_0i1_1i1_2i1 (x0 : Int) (x1 : Int) (x2 : Int) : Program.built Try.prog 96 [(0, Value.int .i64 x0), (1, Value.int .i64 x1), (2, Value.int .i64 x2)] = some #[Value.int .i64 x0, Value.int .i64 x1, Value.int .i64 x2] := by
 kernel_rfl
theorem bs70_10a6 (a0 a1 a2 a3 a4 a5 : Value) : Instr.fill (fun i => some (i * 6, 6)) ((Array.range (1 * 6)).map ((Value.agg #[Value.int .i64 0, Value.int .i64 0, Value.int .i64 0, Value.int .i64 0, Value.slice none 0 0, Value.slice none 0 0]).cells[· % (Value.agg #[Value.int .i64 0, Value.int .i64 0, Value.int .i64 0, Value.int .i64 0, Value.slice none 0 0, Value.slice none 0 0]).cells.size]!)) [(0, Value.agg #[a0, a1, a2, a3, a4, a5])] = some #[a0, a1, a2, a3, a4, a5] := by
 kernel_rfl
theorem bs96_10a3 (a0 a1 a2 : Value) : Instr.fill (fun i => some (i * 3, 3)) ((Array.range (1 * 3)).map ((Value.agg #[Value.int .i64 0, Value.int .i64 0, Value.int .i64 0]).cells[· % (Value.agg #[Value.int .i64 0, Value.int .i64 0, Value.int .i64 0]).cells.size]!)) [(0, Value.agg #[a0, a1, a2])] = some #[a0, a1, a2] := by
 kernel_rfl
theorem el70 : ElemIs Try.prog 70 6 80 (Value.agg #[Value.int .i64 0, Value.int .i64 0, Value.int .i64 0, Value.int .i64 0, Value.slice none 0 0, Value.slice none 0 0]) := by
 unfold ElemIs
 kernel_rfl
theorem el96 : ElemIs Try.prog 96 3 24 (Value.agg #[Value.int .i64 0, Value.int .i64 0, Value.int .i64 0]) := by
 unfold ElemIs
 kernel_rfl
def OfIs (n : Nat) : Prop := ∀ (c : CT) (sv va : Value) (l : List CT) (G : Ghost) (w : World), SizeOf.sizeOf c ≤ n → l.length + size c ≤ 1000 → Rs G sv c.subs → Rs G va l → Has G w → Calls Try.prog 34 #[va, Value.agg #[Value.int .i64 c.h.k, Value.int .i64 (vi c.h.v0), Value.int .i64 c.h.n0, Value.int .i64 (vi c.h.v1), Value.int .i64 c.h.n1, Value.int .i64 (vi c.h.v2), Value.int .i64 c.h.n2, sv]] w (Ret fun r w' => ∃ G', GNew w nX G G' ∧ Has G' w' ∧ (∃ tv uv, r = Value.agg #[Value.int .i64 (stepOf l c).h.k, Value.int .i64 (stepOf l c).h.k0, Value.int .i64 (stepOf l c).h.k1, Value.int .i64 (stepOf l c).h.k2, tv, uv] ∧ SlL G' tv 3 tC t0 (stepOf l c).h.ts ∧ Ss G' uv (stepOf l c).subs) ∧ Since nX w w')
end Go.Proofs.Ytoflaphnlfggkaa

/- Walks: what Go functions of this chapter come to, each as a function on plain data; no condition but those that each theorem names. Printed by a program of this work (gen.py). -/
namespace Go.Proofs.Ytoflaphnlfggkaa
open Go.Gx Go.Gx.T3 Go.Gx.T4 Go.Gx.T3 Go.Gx.T8 Go.Gx.T4 Go.Gx.T3
theorem sz62 : SzIs Try.prog 62 1 := by
 unfold SzIs
 kernel_rfl
theorem sz64 : SzIs Try.prog 64 6 := by
 unfold SzIs
 kernel_rfl
theorem sz96 : SzIs Try.prog 96 3 := by
 unfold SzIs
 kernel_rfl
theorem zr64 : ZeroIs Try.prog 64 (Value.agg #[Value.int .i64 0, Value.int .i64 0, Value.int .i64 0, Value.int .i64 0, Value.slice none 0 0, Value.slice none 0 0]) := by
 unfold ZeroIs
 kernel_rfl
theorem zr96 : ZeroIs Try.prog 96 (Value.agg #[Value.int .i64 0, Value.int .i64 0, Value.int .i64 0]) := by
 unfold ZeroIs
 kernel_rfl
theorem bl92_0i1_1i1_2i1 (x0 : Int) (x1 : Int) (x2 : Int) : Program.built Try.prog 92 [(0, Value.int .i64 x0), (1, Value.int .i64 x1), (2, Value.int .i64 x2)] = some #[Value.int .i64 x0, Value.int .i64 x1, Value.int .i64 x2] := by
 kernel_rfl
theorem bs64_10a6 (a0 a1 a2 a3 a4 a5 : Value) : Instr.fill (fun i => some (i * 6, 6)) ((Array.range (1 * 6)).map ((Value.agg #[Value.int .i64 0, Value.int .i64 0, Value.int .i64 0, Value.int .i64 0, Value.slice none 0 0, Value.slice none 0 0]).cells[· % (Value.agg #[Value.int .i64 0, Value.int .i64 0, Value.int .i64 0, Value.int .i64 0, Value.slice none 0 0, Value.slice none 0 0]).cells.size]!)) [(0, Value.agg #[a0, a1, a2, a3, a4, a5])] = some #[a0, a1, a2, a3, a4, a5] := by
 kernel_rfl
theorem bs92_10a3 (a0 a1 a2 : Value) : Instr.fill (fun i => some (i * 3, 3)) ((Array.range (1 * 3)).map ((Value.agg #[Value.int .i64 0, Value.int .i64 0, Value.int .i64 0]).cells[· % (Value.agg #[Value.int .i64 0, Value.int .i64 0, Value.int .i64 0]).cells.size]!)) [(0, Value.agg #[a0, a1, a2])] = some #[a0, a1, a2] := by
 kernel_rfl
theorem el64 : ElemIs Try.prog 64 6 80 (Value.agg #[Value.int .i64 0, Value.int .i64 0, Value.int .i64 0, Value.int .i64 0, Value.slice none 0 0, Value.slice none 0 0]) := by
 unfold ElemIs
 kernel_rfl
theorem el92 : ElemIs Try.prog 92 3 24 (Value.agg #[Value.int .i64 0, Value.int .i64 0, Value.int .i64 0]) := by
 unfold ElemIs
 kernel_rfl
def StepsIs (n : Nat) : Prop := ∀ (v : Value) (l : List ST) (G : Ghost) (w : World), SizeOf.sizeOf l ≤ n → sszL l ≤ 5000 → Ss G v l → Has G w → Calls Try.prog 27 #[v] w (Ret fun r w' => ∃ G', GNew w nX G G' ∧ Has G' w' ∧ Ss G' r l ∧ Since nX w w')
end Go.Proofs.Ytoflaphnlfggkaa

/- Walks: what Go functions of this chapter come to, each as a function on plain data; no condition but those that each theorem names. Printed by a program of this work (gen.py). -/
namespace Go.Proofs.Ytoflaphnlfggkaa
open Go.Gx Go.Gx.T4 Go.Gx.T3 Go.Gx.T6 Go.Gx.T8 Go.Gx.T4 Go.Gx.T3 Go.Gx.T8 Go.Gx.T4 Go.Gx.T3
theorem el38 : ElemIs Try.prog 38 8 80 (Value.agg #[Value.int .i64 0, Value.bool false, Value.int .i64 0, Value.bool false, Value.int .i64 0, Value.bool false, Value.int .i64 0, Value.slice none 0 0]) := by
 unfold ElemIs
 kernel_rfl
theorem c_cloneC_a (a : Option Addr) (cap : Nat) (rs : List (CT × Value)) {G : Ghost} (hr : SlL G (Value.slice a rs.length cap) 8 cvC d0 rs) (hlen : rs.length ≤ 1000) (hp : ∀ p ∈ rs, Cs G p.2 p.1.subs) (w : World) (hG : Has G w) :
  Calls Try.prog 44 #[Value.slice a rs.length cap] w (Ret fun r w' => Since nX w w' ∧ ∃ F', (rowA r 38 8 (rs).length ((rs).flatMap cvC)).holds w' F' ∧ ∀ b, F' b → w.heap.size ≤ b) := by
 refine enter (args := [_]) (X := nX) (G := G) (l := [(0, Value.slice a rs.length cap)]) Try.func44 rfl Try.ntmps44 hG ⟨rfl, trivial⟩ (Nat.le_of_ble_eq_true rfl) ?_
 refine c_seq ?_
 refine c_region ?_
 refine r_val .none rfl (p_assign rfl) ?_
 refine r_nil ?_
 refine e_next ?_
 refine c_seq ?_
 refine c_seq ?_
 refine c_region ?_
 refine r_val .none rfl (p_move rfl) ?_
 refine r_val .none rfl (p_eqnil Try.underlying22 rfl rfl) ?_
 refine r_nil ?_
 refine e_next ?_
 refine c_split (d := 4) rfl (fun h_1 => ?_) (fun h_1 => ?_)
 ·
  have hrs : rs = [] := by cases a with | none => exact nil_rs hr | some x => cases h_1
  refine c_cond_t rfl ?_
  refine c_seq ?_
  refine c_region ?_
  refine r_val .none rfl (p_assign rfl) ?_
  refine r_nilrow 38 8 ?_
  refine r_nil ?_
  refine e_next ?_
  refine c_ret ?_
  refine e_ret_then ?_
  refine e_ret1 Try.results44 (.tmp rfl .nil) (fun w hm => hm.made [rowA (.slice none 0 0) 38 8 (rs).length ((rs).flatMap cvC)] (.keep (fun _ _ h => rowA_congr (by rw [hrs]; rfl) (by rw [hrs]; rfl) _ _ h) (.nil)) _ (fun F' h => starL_one h))
 ·
  refine c_cond_f rfl ?_
  refine c_skip ?_
  refine e_next ?_
  refine c_seq ?_
  refine c_region ?_
  refine r_bslice0 .none rfl Try.underlying22 el38 (fun v_2 => ?_)
  refine r_val .none rfl (p_move rfl) ?_
  refine r_append_g (k := 0) .none rfl Try.underlying22 el38 rfl (by decide) rfl rfl rfl hr (fun _ hi _ hj => cv_ones hp _ hi _ hj) (by simp only [maxLen]; omega) (by omega) (fun v_3 => ?_)
  refine r_row1 (k := 0) rfl (fun o_4 => ?_)
  refine r_val .none rfl (p_assign rfl) ?_
  refine r_nil ?_
  refine e_next ?_
  refine c_ret ?_
  refine e_ret1 Try.results44 (.tmp rfl .nil) (fun w hm => hm.made [rowA v_3 38 8 (rs).length ((rs).flatMap cvC)] (.keep (fun _ _ h => rowA_congr (by omega) (by rw [flat_all (cells := cvC) (fun _ => rfl)]; rfl) _ _ h) (.nil)) _ (fun F' h => starL_one h))
theorem c_cloneC (v : Value) (rs : List (CT × Value)) {G : Ghost} (hr : SlL G v 8 cvC d0 rs) (hlen : rs.length ≤ 1000) (hp : ∀ p ∈ rs, Cs G p.2 p.1.subs) (w : World) (hG : Has G w) : Calls Try.prog 44 #[v] w (Ret fun r w' => Since nX w w' ∧ ∃ F', (rowA r 38 8 (rs).length ((rs).flatMap cvC)).holds w' F' ∧ ∀ b, F' b → w.heap.size ≤ b) := by
 obtain ⟨a, cap, rfl⟩ := SlG.len hr
 exact c_cloneC_a a cap rs hr hlen hp w hG
end Go.Proofs.Ytoflaphnlfggkaa

/- Walks: what Go functions of this chapter come to, each as a function on plain data; no condition but those that each theorem names. Printed by a program of this work (gen.py). -/
namespace Go.Proofs.Ytoflaphnlfggkaa
open Go.Gx Go.Gx.T4 Go.Gx.T3 Go.Gx.T6 Go.Gx.T8 Go.Gx.T4 Go.Gx.T3 Go.Gx.T8 Go.Gx.T4 Go.Gx.T3
theorem cl44 : Callable Try.prog 44 := callable Try.func44 (by kernel_rfl) rfl
theorem bs38_10a8 (a0 a1 a2 a3 a4 a5 a6 a7 : Value) : Instr.fill (fun i => some (i * 8, 8)) ((Array.range (1 * 8)).map ((Value.agg #[Value.int .i64 0, Value.bool false, Value.int .i64 0, Value.bool false, Value.int .i64 0, Value.bool false, Value.int .i64 0, Value.slice none 0 0]).cells[· % (Value.agg #[Value.int .i64 0, Value.bool false, Value.int .i64 0, Value.bool false, Value.int .i64 0, Value.bool false, Value.int .i64 0, Value.slice none 0 0]).cells.size]!)) [(0, Value.agg #[a0, a1, a2, a3, a4, a5, a6, a7])] = some #[a0, a1, a2, a3, a4, a5, a6, a7] := by
 kernel_rfl
def GrowIs (n : Nat) : Prop := ∀ (va vl : Value) (ah l : List CT) (p : Nat) (z0 : List (List CT × Value)) (G : Ghost) (F : Nat → Prop) (w : World), SizeOf.sizeOf l ≤ n → ah.length + sizeL l ≤ 1000 → z0.length + sizeL l ≤ 3000 → Cs G va ah → Cs G vl l → ChC G z0 → Has G w → (outA 25 22 p (z0)).holds w F → (∀ b, F b → G b = none) → Calls Try.prog 42 #[va, vl, Value.func (.func 43) #[] #[.pointer (some ⟨p, 0, none⟩)]] w (Ret fun r w' => ∃ G' z', GNew w F G G' ∧ Has G' w' ∧ (r = .tuple #[] ∧ z'.map Prod.fst = z0.map Prod.fst ++ chains ah l ∧ ChC G' z') ∧ KeptG (outA 25 22 p (z')) F G' w w')
end Go.Proofs.Ytoflaphnlfggkaa

/- Walks: what Go functions of this chapter come to, each as a function on plain data; no condition but those that each theorem names. Printed by a program of this work (gen.py). -/
namespace Go.Proofs.Ytoflaphnlfggkaa
open Go.Gx Go.Gx.T3 Go.Gx.T4 Go.Gx.T3 Go.Gx.T6 Go.Gx.T8 Go.Gx.T4 Go.Gx.T3 Go.Gx.T8 Go.Gx.T4 Go.Gx.T3
def SizeIs (n : Nat) : Prop := ∀ (c : CT) (sv : Value) (G : Ghost) (w : World), SizeOf.sizeOf c ≤ n → size c ≤ 1000 → Cs G sv c.subs → Has G w → Calls Try.prog 46 #[Value.agg #[Value.int .i64 c.h.k, Value.bool c.h.v0, Value.int .i64 c.h.n0, Value.bool c.h.v1, Value.int .i64 c.h.n1, Value.bool c.h.v2, Value.int .i64 c.h.n2, sv]] w (Ret fun r w' => r = Value.int .i64 (size c : Nat) ∧ Since nX w w')
def RsameIs (n : Nat) : Prop := ∀ (c c2 : CT) (sv sv2 : Value) (G : Ghost) (w : World), SizeOf.sizeOf c ≤ n → Rs G sv c.subs → Rs G sv2 c2.subs → Has G w → Calls Try.prog 45 #[Value.agg #[Value.int .i64 c.h.k, Value.int .i64 (vi c.h.v0), Value.int .i64 c.h.n0, Value.int .i64 (vi c.h.v1), Value.int .i64 c.h.n1, Value.int .i64 (vi c.h.v2), Value.int .i64 c.h.n2, sv], Value.agg #[Value.int .i64 c2.h.k, Value.int .i64 (vi c2.h.v0), Value.int .i64 c2.h.n0, Value.int .i64 (vi c2.h.v1), Value.int .i64 c2.h.n1, Value.int .i64 (vi c2.h.v2), Value.int .i64 c2.h.n2, sv2]] w (Ret fun r w' => r = Value.bool (ceq c c2) ∧ Since nX w w')
end Go.Proofs.Ytoflaphnlfggkaa

/- Walks: what Go functions of this chapter come to, each as a function on plain data; no condition but those that each theorem names. Printed by a program of this work (gen.py). -/
namespace Go.Proofs.Ytoflaphnlfggkaa
open Go.Gx Go.Gx.T4 Go.Gx.T3 Go.Gx.T6 Go.Gx.T8 Go.Gx.T4 Go.Gx.T3 Go.Gx.T8 Go.Gx.T4 Go.Gx.T3
def RchIs (n : Nat) : Prop := ∀ (va vl : Value) (es : List (CT × Value)) (l : List CT) (G : Ghost) (F : Nat → Prop) (w : World), SizeOf.sizeOf l ≤ n → es.length + sizeL l ≤ 1000 → (∀ p ∈ es, Rs G p.2 p.1.subs) → Rs G vl l → Has G w → (rowA va 44 8 es.length (es.flatMap rvC)).holds w F → (∀ b, F b → G b = none) → Calls Try.prog 14 #[va, vl] w (Ret fun r w' => ∃ G', GNew w F G G' ∧ Has G' w' ∧ Ls (fun G v l => Rs G v l) ([] : List CT) G' r (chains (es.map Prod.fst) l) ∧ KeptG (rowA va 44 8 es.length (es.flatMap rvC)) F G' w w')
end Go.Proofs.Ytoflaphnlfggkaa

/-
  DERIVED: THE SHELF's CONTRACTS AT THIS DUMP, IN PLAIN WORDS (tools/lay-plain.mjs out of 'TryShelf.lean', which tools/lay-shelf.mjs wrote): THE SAME DECLARATIONS UNDER THE SAME NAMES: 'import', 'namespace', 'open', 'def', 'theorem' AND NOTHING ELSE: no command of the shelf's: FOR A HAND-IN. Each laying: the table of numbers ('.._ren') and one theorem, a field a fact of the dump's own or the kernel's comparison; each contract: ONE APPLICATION.
-/
namespace Go.Proofs
open Go.Shelf
def Try.lays128_ren : Go.Shelf.Ren := ⟨fun | 128 => 83 | n => n, fun | 51 => 134 | 3 => 3 | 4 => 4 | 46 => 121 | 5 => 5 | 9 => 9 | n => n, fun | n => n⟩
def Try.lays125_ren : Go.Shelf.Ren := ⟨fun | 125 => 72 | 128 => 83 | 129 => 84 | n => n, fun | 46 => 121 | 3 => 3 | 51 => 134 | 53 => 136 | 4 => 4 | 5 => 5 | 9 => 9 | n => n, fun | n => n⟩
def Try.lays215_ren : Go.Shelf.Ren := ⟨fun | 215 => 73 | n => n, fun | 3 => 3 | 4 => 4 | n => n, fun | n => n⟩
def Try.lays122_ren : Go.Shelf.Ren := ⟨fun | 122 => 64 | 215 => 73 | n => n, fun | 3 => 3 | 4 => 4 | n => n, fun | n => n⟩
theorem Try.lays122 : Go.Proofs.Lays.n122 Try.prog Try.lays122_ren := {
  mixed := by kernel_rfl
  f122 := Try.func64.trans (congrArg some (by kernel_rfl))
  f215 := Try.func73.trans (congrArg some (by kernel_rfl))
  t3 := Try.underlying3
  a3 := Try.isAgg3
  z3 := Try.sizeOf3
  v3 := Try.zeroValue3
  t4 := Try.underlying4
  a4 := Try.isAgg4
  z4 := Try.sizeOf4
  v4 := Try.zeroValue4 }
open Go.RowKit in
/-- cmp.Compare at int: "Compare returns -1 if x is less than y, 0 if x equals y, +1 if x is greater than y.": IT RETURNS 'Lib.compareInt x y'; the world is as it was. (LAID: no walk: one application.) -/
theorem Try.cmp_Compare_int (x y : Int) (w : World) :
    Calls Try.prog 64 #[.int .i64 x, .int .i64 y] w fun e w' => e = .returned (.int .i64 (Lib.compareInt x y)) ∧ w' = w := Any.cmp_Compare_int Try.lays122 x y w
def Try.lays129_ren : Go.Shelf.Ren := ⟨fun | 129 => 84 | n => n, fun | 53 => 136 | 3 => 3 | 4 => 4 | 46 => 121 | 5 => 5 | 9 => 9 | n => n, fun | n => n⟩
def Try.laysNm237_ren : Go.Shelf.Ren := ⟨fun | 37 => 73 | n => n, fun | 3 => 3 | 4 => 4 | n => n, fun | n => n⟩
def Try.sortP_ren : Go.Shelf.Ren := ⟨fun | 6 => 62 | 15 => 72 | 14 => 71 | 28 => 83 | 29 => 84 | 20 => 75 | 21 => 76 | 22 => 77 | 23 => 78 | 24 => 79 | 25 => 80 | 26 => 81 | 27 => 82 | 46 => 85 | 47 => 86 | 48 => 87 | 49 => 88 | 50 => 89 | 57 => 90 | n => n, fun | 22 => 81 | 24 => 84 | 25 => 112 | 3 => 3 | 39 => 121 | 0 => 0 | 53 => 134 | 55 => 136 | 4 => 4 | 46 => 127 | 45 => 126 | 50 => 131 | 5 => 5 | 9 => 9 | 66 => 137 | 70 => 76 | 76 => 142 | 77 => 143 | n => n, fun | n => n⟩
theorem Try.sortP : Go.Proofs.SlLaysF0.n6 Try.prog Try.sortP_ren := {
  mixed := by kernel_rfl
  f6 := ⟨Try.f62.name, by decide, Try.func62.trans (congrArg some (by kernel_rfl))⟩
  f14 := ⟨Try.f71.name, by decide, Try.func71.trans (congrArg some (by kernel_rfl))⟩
  f15 := Try.func72.trans (congrArg some (by kernel_rfl))
  f20 := ⟨Try.f75.name, by decide, Try.func75.trans (congrArg some (by kernel_rfl))⟩
  f21 := ⟨Try.f76.name, by decide, Try.func76.trans (congrArg some (by kernel_rfl))⟩
  f22 := ⟨Try.f77.name, by decide, Try.func77.trans (congrArg some (by kernel_rfl))⟩
  f23 := ⟨Try.f78.name, by decide, Try.func78.trans (congrArg some (by kernel_rfl))⟩
  f24 := ⟨Try.f79.name, by decide, Try.func79.trans (congrArg some (by kernel_rfl))⟩
  f25 := ⟨Try.f80.name, by decide, Try.func80.trans (congrArg some (by kernel_rfl))⟩
  f26 := ⟨Try.f81.name, by decide, Try.func81.trans (congrArg some (by kernel_rfl))⟩
  f27 := ⟨Try.f82.name, by decide, Try.func82.trans (congrArg some (by kernel_rfl))⟩
  f28 := Try.func83.trans (congrArg some (by kernel_rfl))
  f29 := Try.func84.trans (congrArg some (by kernel_rfl))
  f46 := ⟨Try.f85.name, by decide, Try.func85.trans (congrArg some (by kernel_rfl))⟩
  f47 := Try.func86.trans (congrArg some (by kernel_rfl))
  f48 := Try.func87.trans (congrArg some (by kernel_rfl))
  f49 := ⟨Try.f88.name, by decide, Try.func88.trans (congrArg some (by kernel_rfl))⟩
  f50 := ⟨Try.f89.name, by decide, Try.func89.trans (congrArg some (by kernel_rfl))⟩
  f57 := ⟨Try.f90.name, by decide, Try.func90.trans (congrArg some (by kernel_rfl))⟩
  t0 := Try.underlying0
  a0 := Try.isAgg0
  z0 := Try.sizeOf0
  v0 := Try.zeroValue0
  t3 := Try.underlying3
  a3 := Try.isAgg3
  z3 := Try.sizeOf3
  v3 := Try.zeroValue3
  t4 := Try.underlying4
  a4 := Try.isAgg4
  z4 := Try.sizeOf4
  v4 := Try.zeroValue4
  t5 := Try.underlying5
  a5 := Try.isAgg5
  z5 := Try.sizeOf5
  v5 := Try.zeroValue5
  t9 := Try.underlying9
  a9 := Try.isAgg9
  z9 := Try.sizeOf9
  v9 := Try.zeroValue9
  t22 := Try.underlying81
  a22 := Try.isAgg81
  z22 := Try.sizeOf81
  v22 := Try.zeroValue81
  t25 := Try.underlying112
  a25 := Try.isAgg112
  z25 := Try.sizeOf112
  v25 := Try.zeroValue112
  t39 := Try.underlying121
  a39 := Try.isAgg121
  z39 := Try.sizeOf121
  v39 := Try.zeroValue121
  t45 := Try.underlying126
  a45 := Try.isAgg126
  z45 := Try.sizeOf126
  v45 := Try.zeroValue126
  t46 := Try.underlying127
  a46 := Try.isAgg127
  z46 := Try.sizeOf127
  v46 := Try.zeroValue127
  t50 := Try.underlying131
  a50 := Try.isAgg131
  z50 := Try.sizeOf131
  v50 := Try.zeroValue131
  t53 := Try.underlying134
  a53 := Try.isAgg134
  z53 := Try.sizeOf134
  v53 := Try.zeroValue134
  t55 := Try.underlying136
  a55 := Try.isAgg136
  z55 := Try.sizeOf136
  v55 := Try.zeroValue136
  t66 := Try.underlying137
  a66 := Try.isAgg137
  z66 := Try.sizeOf137
  v66 := Try.zeroValue137
  t70 := Try.underlying76
  a70 := Try.isAgg76
  z70 := Try.sizeOf76
  v70 := Try.zeroValue76
  t76 := Try.underlying142
  a76 := Try.isAgg142
  z76 := Try.sizeOf142
  v76 := Try.zeroValue142
  t77 := Try.underlying143
  a77 := Try.isAgg143
  z77 := Try.sizeOf143
  v77 := Try.zeroValue143 }
end Go.Proofs

/- Walks: what Go functions of this chapter come to, each as a function on plain data; no condition but those that each theorem names. Printed by a program of this work (gen.py). -/
namespace Go.Proofs.Ytoflaphnlfggkaa
open Go.Gx Go.Gx.T4 Go.Gx.T3 Go.Gx.T6 Go.Gx.T8 Go.Gx.T4 Go.Gx.T3 Go.Gx.T8 Go.Gx.T4 Go.Gx.T3
theorem sz84 : SzIs Try.prog 84 3 := by
 unfold SzIs
 kernel_rfl
theorem cl60 : Callable Try.prog 60 := callable Try.func60 (by kernel_rfl) rfl
theorem cl61 : Callable Try.prog 61 := callable Try.func61 (by kernel_rfl) rfl
theorem cl62 : Callable Try.prog 62 := callable Try.func62 (by kernel_rfl) rfl
theorem cl66 : Callable Try.prog 66 := callable Try.func66 (by kernel_rfl) rfl
theorem bl84_0i1_1i1_2i1 (x0 : Int) (x1 : Int) (x2 : Int) : Program.built Try.prog 84 [(0, Value.int .i64 x0), (1, Value.int .i64 x1), (2, Value.int .i64 x2)] = some #[Value.int .i64 x0, Value.int .i64 x1, Value.int .i64 x2] := by
 kernel_rfl
theorem bs84_10a3 (a0 a1 a2 : Value) : Instr.fill (fun i => some (i * 3, 3)) ((Array.range (1 * 3)).map ((Value.agg #[Value.int .i64 0, Value.int .i64 0, Value.int .i64 0]).cells[· % (Value.agg #[Value.int .i64 0, Value.int .i64 0, Value.int .i64 0]).cells.size]!)) [(0, Value.agg #[a0, a1, a2])] = some #[a0, a1, a2] := by
 kernel_rfl
theorem el84 : ElemIs Try.prog 84 3 24 (Value.agg #[Value.int .i64 0, Value.int .i64 0, Value.int .i64 0]) := by
 unfold ElemIs
 kernel_rfl
theorem c_bnd1 (x : PL) (b : Bool) (n : Int) (p : Nat) {G : Ghost} (hR : RowAt G p 0 2 (at_ [Value.bool b, Value.int .i64 n])) (w : World) (hG : Has G w) :
  Calls Try.prog 61 #[Value.agg #[Value.int .i64 x.1, Value.int .i64 x.2.1, Value.int .i64 x.2.2], Value.pointer (some ⟨p, 0, none⟩)] w (Ret fun r w' => r = Value.bool (isV n x) ∧ Since nX w w') := by
 refine enter (args := [_, _]) (X := nX) (G := G) (l := [(0, Value.agg #[Value.int .i64 x.1, Value.int .i64 x.2.1, Value.int .i64 x.2.2]), (1, Value.pointer (some ⟨p, 0, none⟩))]) Try.func61 rfl Try.ntmps61 hG ⟨rfl, rfl, trivial⟩ (Nat.le_of_ble_eq_true rfl) ?_
 refine c_seq ?_
 refine c_region ?_
 refine r_box .none rfl rfl (IsRow.lit _) (fun b_1 => ?_)
 refine r_val .none rfl (p_assign rfl) ?_
 refine r_nil ?_
 refine e_next ?_
 refine c_seq ?_
 refine c_region ?_
 refine r_val .none rfl (p_field Try.underlying84 rfl sz3 rfl) ?_
 refine r_val .none rfl (p_ld (k := 0) Try.underlying3 rfl rfl rfl (by first | exact of_decide_eq_true rfl | omega) (rfl : _ = Value.int _ _)) ?_
 refine r_val .none rfl (p_field Try.underlying35 rfl sz3 rfl) ?_
 refine r_val .none rfl (p_ldg (j := 1) Try.underlying3 rfl rfl hR (by first | exact of_decide_eq_true rfl | omega) (rfl : _ = Value.int _ _)) ?_
 refine r_val .none rfl (p_eq rfl rfl) ?_
 refine r_val .none rfl (p_assign rfl) ?_
 refine r_nil ?_
 refine e_next ?_
 refine c_ret ?_
 refine e_ret1 Try.results61 (.tmp rfl .nil) (fun w hm => ⟨?_, hm.since⟩)
 rfl
theorem c_idxP (v : Value) (zs : List (PL)) (g : Nat) (cv : Value) (pf : PL → Bool) {G : Ghost} (hr : SlL G v 3 tC t0 zs) (hcg : Callable Try.prog g) (hcl : ∀ (x : PL) (w : World), Has G w → Calls Try.prog g #[Value.agg #[Value.int .i64 x.1, Value.int .i64 x.2.1, Value.int .i64 x.2.2], cv] w (Ret fun r w' => r = Value.bool (pf x) ∧ Since nX w w')) (w : World) (hG : Has G w) :
  Calls Try.prog 66 #[v, Value.func (.func g) #[] #[cv]] w (Ret fun r w' => r = Value.int .i64 (idxF pf zs 0) ∧ Since nX w w') := by
 refine enter (args := [_, _]) (X := nX) (G := G) (l := [(0, v), (1, Value.func (.func g) #[] #[cv])]) Try.func66 rfl Try.ntmps66 hG ⟨rfl, rfl, trivial⟩ (Nat.le_of_ble_eq_true rfl) ?_
 have hbd := hr.bound
 refine c_seq ?_
 refine c_region ?_
 refine r_val .none rfl (p_assign rfl) ?_
 refine r_nil ?_
 refine e_next ?_
 refine c_seq ?_
 refine c_seq ?_
 refine c_region ?_
 refine r_val .none rfl (p_move rfl) ?_
 refine r_val .none rfl (p_leng Try.underlying81 rfl hr) ?_
 have bd_1 := (hr).bound
 refine r_val .none rfl (p_move rfl) ?_
 refine r_nil ?_
 refine e_next ?_
 refine c_block ?_
 refine c_name (d := 0) rfl (fun u_2 hu_2 => ?_)
 refine c_name (d := 1) rfl (fun u_3 hu_3 => ?_)
 refine c_name (d := 7) rfl (fun u_4 hu_4 => ?_)
 refine c_loop (σ := Nat) (fun k => [(8, Value.int .i64 (k : Nat)), (0, u_2), (1, u_3), (7, u_4)]) (fun k => []) (fun _ => _) (fun k => k ≤ zs.length ∧ idxF pf (zs.drop k) k = idxF pf zs 0) (fun k => zs.length - k) (0) ⟨Nat.zero_le _, rfl⟩ rfl ⟨rfl, rfl, rfl, rfl, trivial⟩ (.nil) (fun k hphi => ?_)
 subst hu_2
 subst hu_3
 subst hu_4
 refine c_seq ?_
 refine c_region ?_
 refine r_val .none rfl (p_lt rfl rfl) ?_
 refine r_nil ?_
 refine e_next ?_
 refine c_seq ?_
 refine c_splitd (d := 9) rfl (fun h_5 => ?_) (fun h_5 => ?_)
 ·
  first
   | (exfalso; omega)
   | (
    refine c_cond_t rfl ?_
    refine c_skip ?_
    refine e_next ?_
    refine c_seq ?_
    refine c_block ?_
    refine c_seq ?_
    refine c_region ?_
    refine r_val .none rfl (p_move rfl) ?_
    refine r_val .none rfl (p_assign rfl) ?_
    refine r_nil ?_
    refine e_next ?_
    refine c_seq ?_
    refine c_region ?_
    refine r_val .none rfl (p_move rfl) ?_
    refine r_val .none rfl (p_move rfl) ?_
    refine r_val .none rfl (p_move rfl) ?_
    refine r_iaddr_g .none rfl Try.underlying81 sz84 rfl hr rfl (by first | exact of_decide_eq_true rfl | omega) (fun p_7 o_8 R_6 => ?_)
    refine r_val .none rfl (p_ldga0 Try.underlying84 rfl sz84 rfl R_6 (by first | exact of_decide_eq_true rfl | omega) (rfl : _ = Value.agg #[_, _, _])) ?_
    refine r_fun (cs := [_]) .none rfl ?_
    refine r_call (vs := [_, _]) .none rfl hcg rfl (fun w hw => hcl (zs.getD k t0) w hw) ?_
    refine r_nil ?_
    refine e_next ?_
    refine c_split (d := 16) rfl (fun h_9 => ?_) (fun h_9 => ?_)
    ·
     have hE := h_9
     first
      | (exfalso; omega)
      | (
       refine c_cond_t rfl ?_
       refine c_seq ?_
       refine c_region ?_
       refine r_val .none rfl (p_move rfl) ?_
       refine r_val .none rfl (p_assign rfl) ?_
       refine r_nil ?_
       refine e_next ?_
       refine c_ret ?_
       refine e_ret_block ?_
       refine e_ret_then ?_
       refine e_ret_then ?_
       refine e_ret_block ?_
       refine e_ret_then ?_
       refine e_ret1 Try.results66 (.tmp rfl .nil) (fun w hm => ⟨?_, hm.since⟩)
       first
       | (rw [← hphi.2, idxF_yes (d := t0) (by omega) hE])
       | (rw [← hphi.2, List.drop_eq_nil_of_le (by omega)]; rfl)
       )
    ·
     have hE := h_9
     first
      | (exfalso; omega)
      | (
       refine c_cond_f rfl ?_
       refine c_skip ?_
       refine e_norm_block ?_
       refine e_next ?_
       refine c_region ?_
       refine r_val .none rfl (p_add rfl rfl (by omega)) ?_
       refine r_val .none rfl (p_move rfl) ?_
       refine r_nil ?_
       refine e_round (k + 1) ⟨⟨by omega, by rw [← hphi.2, idxF_no (d := t0) (by omega) hE]⟩, by omega⟩ rfl ⟨rfl, rfl, rfl, rfl, trivial⟩ (.nil)
       )
    )
 ·
  first
   | (exfalso; omega)
   | (
    refine c_cond_f rfl ?_
    refine c_exit ?_
    refine e_exit_then ?_
    refine e_exit_then ?_
    refine e_exit_block ?_
    refine e_next ?_
    refine c_seq ?_
    refine c_region ?_
    refine r_val .none rfl (p_assign rfl) ?_
    refine r_nil ?_
    refine e_next ?_
    refine c_ret ?_
    refine e_ret1 Try.results66 (.tmp rfl .nil) (fun w hm => ⟨?_, hm.since⟩)
    first
    | (rw [← hphi.2, idxF_yes (d := t0) (by omega) hE])
    | (rw [← hphi.2, List.drop_eq_nil_of_le (by omega)]; rfl)
    )
theorem c_ctnP (v : Value) (zs : List (PL)) (g : Nat) (cv : Value) (pf : PL → Bool) {G : Ghost} (hr : SlL G v 3 tC t0 zs) (hcg : Callable Try.prog g) (hcl : ∀ (x : PL) (w : World), Has G w → Calls Try.prog g #[Value.agg #[Value.int .i64 x.1, Value.int .i64 x.2.1, Value.int .i64 x.2.2], cv] w (Ret fun r w' => r = Value.bool (pf x) ∧ Since nX w w')) (w : World) (hG : Has G w) :
  Calls Try.prog 60 #[v, Value.func (.func g) #[] #[cv]] w (Ret fun r w' => r = Value.bool (decide (0 ≤ idxF pf zs 0)) ∧ Since nX w w') := by
 refine enter (args := [_, _]) (X := nX) (G := G) (l := [(0, v), (1, Value.func (.func g) #[] #[cv])]) Try.func60 rfl Try.ntmps60 hG ⟨rfl, rfl, trivial⟩ (Nat.le_of_ble_eq_true rfl) ?_
 refine c_seq ?_
 refine c_region ?_
 refine r_val .none rfl (p_assign rfl) ?_
 refine r_nil ?_
 refine e_next ?_
 refine c_seq ?_
 refine c_region ?_
 refine r_val .none rfl (p_move rfl) ?_
 refine r_val .none rfl (p_move rfl) ?_
 refine r_call (vs := [_, _]) .none rfl cl66 rfl (fun w hw => c_idxP _ _ _ _ _ hr hcg hcl w hw) ?_
 refine r_val .none rfl (p_ge rfl rfl) ?_
 refine r_val .none rfl (p_assign rfl) ?_
 refine r_nil ?_
 refine e_next ?_
 refine c_ret ?_
 refine e_ret1 Try.results60 (.tmp rfl .nil) (fun w hm => ⟨?_, hm.since⟩)
 rfl
theorem clos63 (x y : PL) (W : World) : Calls Try.prog 63 #[Value.agg #[.int .i64 x.1, .int .i64 x.2.1, .int .i64 x.2.2], Value.agg #[.int .i64 y.1, .int .i64 y.2.1, .int .i64 y.2.2]] W fun e w' => e = .returned (.int .i64 (Lib.compareInt x.1 y.1)) ∧ ∃ q os', w' = Go.Sort.grow (W.drewN q) os' := by
 have hcon := fun W' => Try.cmp_Compare_int x.1 y.1 W'
 generalize Lib.compareInt x.1 y.1 = r at hcon ⊢
 go_enter Try.func63, Try.ntmps63
 go_wp2_with (go_at_call 64; refine (hcon _).mono ?_; rintro e w' ⟨rfl, rfl⟩)
 go_ret
 exact ⟨rfl, 0, _, by rw [Go.Sort.alloc_eq_grow, Go.Sort.alloc_eq_grow, Go.Sort.grow_grow]; rfl⟩
theorem ltP_of : Go.Proofs.ltOf (fun x y : PL => Lib.compareInt x.1 y.1) = ltP := by
 funext x y
 unfold Go.Proofs.ltOf Lib.compareInt ltP
 by_cases h1 : x.1 < y.1
 · simp [h1]
 · by_cases h2 : y.1 < x.1 <;> simp [h1, h2]
theorem ltP_swo : Go.Sort.SWO ltP where
 irrefl x := by simp [ltP]
 trans x y z h1 h2 := by simp [ltP] at *; omega
 ntrans x y z h1 h2 := by simp [ltP] at *; omega
theorem sortPC : SortFC Try.prog 62 63 tC 3 ltP := by
 intro blk cap zs w hH hblk hlen
 have eg : ∀ args w, (callFunc 63 args).run Try.prog w = .ok (.enter 63 args) w := enters_of Try.func63 (by kernel_rfl) rfl
 have h := AnyQ.slices_SortFunc Try.sortP 3 Try.isAgg84 Try.sizeOf84 tC (fun _ => rfl) (fun x v hv => by simp [tC] at hv; rcases hv with rfl | rfl | rfl <;> rfl) (fun x y => Lib.compareInt x.1 y.1) (ltP_of ▸ ltP_swo) 63 #[] blk 0 cap zs.toArray w eg (fun _ _ _ _ x y => clos63 x y _) hH hblk (by simpa using hlen)
 rw [ltP_of] at h
 exact h
theorem sortPN : SortFN Try.prog 62 63 := fun p cap w => AnyF.slices_SortFunc_none Try.sortP p cap _ w
theorem c_bnd (v : Value) (l : List CT) {G : Ghost} (hsz : l.length ≤ 1000) (hs : Cs G v l) (w : World) (hG : Has G w) :
  Calls Try.prog 41 #[v] w (Ret fun r w' => ∃ G', GNew w nX G G' ∧ Has G' w' ∧ (∃ zs, zs.Perm (places l 0 []) ∧ zs.Pairwise (fun a b => ltP b a = false) ∧ SlL G' r 3 tC t0 zs) ∧ Since nX w w') := by
 refine enter (args := [_]) (X := nX) (G := G) (l := [(0, v)]) Try.func41 rfl Try.ntmps41 hG ⟨rfl, trivial⟩ (Nat.le_of_ble_eq_true rfl) ?_
 obtain ⟨rs, hr, hp, rfl⟩ := hs.inv
 have hbd := hr.bound
 rw [List.length_map] at hsz
 refine c_seq ?_
 refine c_region ?_
 refine r_val .none rfl (p_assign rfl) ?_
 refine r_nil ?_
 refine e_next ?_
 refine c_seq ?_
 refine c_region ?_
 refine r_val .none rfl (p_assign rfl) ?_
 refine r_nil ?_
 refine e_next ?_
 refine c_seq ?_
 refine c_region ?_
 refine r_val .none rfl (p_assign rfl) ?_
 refine r_nil ?_
 refine e_next ?_
 refine c_seq ?_
 refine c_seq ?_
 refine c_region ?_
 refine r_val .none rfl (p_move rfl) ?_
 refine r_val .none rfl (p_leng Try.underlying22 rfl hr) ?_
 have bd_1 := (hr).bound
 refine r_val .none rfl (p_move rfl) ?_
 refine r_nil ?_
 refine e_next ?_
 refine c_block ?_
 refine c_nilrow 84 3 ?_
 refine c_name (d := 2) rfl (fun u_2 hu_2 => ?_)
 refine c_name (d := 9) rfl (fun u_3 hu_3 => ?_)
 refine c_name (d := 10) rfl (fun u_4 hu_4 => ?_)
 refine c_loop (σ := Nat × Value × Ghost) (fun s => [(11, Value.int .i64 (s.1 : Nat)), (4, Value.int .i64 (posN ((rs.map Prod.fst).take s.1) : Nat)), (3, s.2.1), (2, u_2), (9, u_3), (10, u_4)]) (fun s => [rowA (s.2.1) 84 3 ((places ((rs.map Prod.fst).take s.1) 0 [])).length (((places ((rs.map Prod.fst).take s.1) 0 [])).flatMap tC)]) (fun s => s.2.2) (fun s => s.1 ≤ rs.length ∧ GNew w nX G s.2.2) (fun s => rs.length - s.1) ((0, _, _)) ⟨Nat.zero_le _, GNew.refl _ _ _⟩ rfl ⟨rfl, rfl, rfl, rfl, rfl, rfl, trivial⟩ (.keep (fun _ _ h => rowA_nil rfl _ _ h) (.nil)) (fun s hphi => ?_)
 subst hu_2
 subst hu_3
 subst hu_4
 obtain ⟨k, v, H⟩ := s
 obtain ⟨hk, hgn⟩ := hphi
 dsimp only at hk hgn ⊢
 have hpn := posN_len (rs.map Prod.fst |>.take k)
 rw [List.length_take, List.length_map] at hpn
 have hpl := places_len ((rs.map Prod.fst).take k) 0 []
 rw [List.length_take, List.length_map] at hpl
 refine c_row1 (k := 0) rfl (fun ov => ?_)
 refine c_rowlen (k := 0) rfl (fun l63 => ?_)
 replace hr := hr.mono hgn.le
 replace hp := fun p hm0 => (hp p hm0).mono hgn.le
 refine c_seq ?_
 refine c_region ?_
 refine r_val .none rfl (p_lt rfl rfl) ?_
 refine r_nil ?_
 refine e_next ?_
 refine c_seq ?_
 refine c_splitd (d := 12) rfl (fun h_5 => ?_) (fun h_5 => ?_)
 ·
  first
   | (exfalso; omega)
   | (
    refine c_cond_t rfl ?_
    refine c_skip ?_
    refine e_next ?_
    refine c_seq ?_
    refine c_block ?_
    refine c_seq ?_
    refine c_region ?_
    refine r_iaddr_g .none rfl Try.underlying22 sz38 rfl hr rfl (by first | exact of_decide_eq_true rfl | omega) (fun p_7 o_8 R_6 => ?_)
    have hc_9 := hp _ (getD_mem (i := k) (d := d0) (by omega))
    refine r_val .none rfl (p_ldga0 Try.underlying38 rfl sz38 rfl R_6 (by first | exact of_decide_eq_true rfl | omega) (rfl : _ = Value.agg #[_, _, _, _, _, _, _, _])) ?_
    refine r_alloc .none rfl zr38 (IsRow.lit _) (fun b_1 => ?_)
    refine r_stw (k := 0) .none sz38 rfl rfl (IsRow.lit _) (one_lit rfl (all_cons rfl (all_cons rfl (all_cons rfl (all_cons rfl (all_cons rfl (all_cons rfl (all_cons rfl (all_cons (hc_9).one rfl))))))))) rfl ?_
    refine r_nil ?_
    refine e_next ?_
    refine c_seq ?_
    refine c_seq ?_
    refine c_region ?_
    refine r_val .none rfl (p_field Try.underlying38 rfl sz3 rfl) ?_
    refine r_val .none rfl (p_ld (k := 0) Try.underlying3 rfl rfl rfl (by first | exact of_decide_eq_true rfl | omega) (rfl : _ = Value.int _ _)) ?_
    refine r_val .none rfl (p_ne rfl rfl) ?_
    refine r_nil ?_
    refine e_next ?_
    refine c_splitd (d := 17) rfl (fun h_10 => ?_) (fun h_10 => ?_)
    ·
     have hk1 : ¬ (rs.getD k d0).1.h.k = 1 := h_10
     first
      | (exfalso; omega)
      | (
       refine c_cond_t rfl ?_
       refine c_exit ?_
       refine e_exit_then ?_
       refine e_exit_block ?_
       refine e_next ?_
       refine c_region ?_
       refine r_val .none rfl (p_add rfl rfl (by omega)) ?_
       refine r_val .none rfl (p_move rfl) ?_
       refine r_nil ?_
       refine e_round ((k + 1, _, _)) ⟨⟨by dsimp only; omega, hgn⟩, by dsimp only; omega⟩ rfl ⟨rfl, (congrArg (fun z => some (Value.int .i64 z)) (by rw [map_take (d := d0) (by omega), posN_append]; simp only [posN]; first | (rw [if_pos hk1]; omega) | (rw [if_neg hk1]; omega))), rfl, rfl, rfl, rfl, trivial⟩ (.drop (.keep (fun _ _ h => rowA_congr (by rw [map_take (d := d0) (by omega), places_snoc]; first | (rw [if_pos hk1, Int.zero_add]; done) | (rw [if_neg hk1]; done)) (by rw [map_take (d := d0) (by omega), places_snoc]; first | (rw [if_pos hk1, Int.zero_add]; done) | (rw [if_neg hk1]; done)) _ _ h) (.nil)))
       )
    ·
     have hk1 := Decidable.not_not.1 h_10
     first
      | (exfalso; omega)
      | (
       refine c_cond_f rfl ?_
       refine c_skip ?_
       refine e_next ?_
       refine c_seq ?_
       refine c_seq ?_
       refine c_region ?_
       refine r_val .none rfl (p_field Try.underlying38 rfl sz36 rfl) ?_
       refine r_val .none rfl (p_lda (k := 0) Try.underlying36 rfl sz36 rfl rfl (by first | exact of_decide_eq_true rfl | omega) (rfl : _ = Value.agg #[_, _, _, _, _, _])) ?_
       refine r_val .none rfl (p_move rfl) ?_
       refine r_nil ?_
       refine e_next ?_
       refine c_block ?_
       refine c_name (d := 2) rfl (fun u_11 hu_11 => ?_)
       refine c_name (d := 4) rfl (fun u_12 hu_12 => ?_)
       refine c_name (d := 6) rfl (fun u_13 hu_13 => ?_)
       refine c_name (d := 9) rfl (fun u_14 hu_14 => ?_)
       refine c_name (d := 10) rfl (fun u_15 hu_15 => ?_)
       refine c_name (d := 11) rfl (fun u_16 hu_16 => ?_)
       refine c_name (d := 12) rfl (fun u_17 hu_17 => ?_)
       refine c_name (d := 13) rfl (fun u_18 hu_18 => ?_)
       refine c_name (d := 14) rfl (fun u_19 hu_19 => ?_)
       refine c_name (d := 15) rfl (fun u_20 hu_20 => ?_)
       refine c_name (d := 16) rfl (fun u_21 hu_21 => ?_)
       refine c_name (d := 17) rfl (fun u_22 hu_22 => ?_)
       refine c_name (d := 18) rfl (fun u_23 hu_23 => ?_)
       refine c_name (d := 19) rfl (fun u_24 hu_24 => ?_)
       refine c_nameL (k := 0) rfl (fun A_25 hA_25 => ?_)
       refine c_loop (σ := Nat × Value × Ghost) (fun s => [(20, Value.int .i64 (s.1 : Nat)), (3, s.2.1), (2, u_11), (4, u_12), (6, u_13), (9, u_14), (10, u_15), (11, u_16), (12, u_17), (13, u_18), (14, u_19), (15, u_20), (16, u_21), (17, u_22), (18, u_23), (19, u_24)]) (fun s => [A_25, rowA (s.2.1) 84 3 ((plTo (rs.getD k d0).1.h (posN ((rs.map Prod.fst).take k)) (places ((rs.map Prod.fst).take k) 0 []) s.1)).length (((plTo (rs.getD k d0).1.h (posN ((rs.map Prod.fst).take k)) (places ((rs.map Prod.fst).take k) 0 []) s.1)).flatMap tC)]) (fun s => s.2.2) (fun s => s.1 ≤ 3 ∧ GNew w nX H s.2.2) (fun s => 3 - s.1) ((0, _, _)) ⟨Nat.zero_le _, GNew.refl _ _ _⟩ rfl ⟨rfl, rfl, rfl, rfl, rfl, rfl, rfl, rfl, rfl, rfl, rfl, rfl, rfl, rfl, rfl, rfl, trivial⟩ (.keep (fun _ _ h => h) (.keep (fun _ _ h => h) (.nil))) (fun s hphi => ?_)
       subst hu_11
       subst hu_12
       subst hu_13
       subst hu_14
       subst hu_15
       subst hu_16
       subst hu_17
       subst hu_18
       subst hu_19
       subst hu_20
       subst hu_21
       subst hu_22
       subst hu_23
       subst hu_24
       subst hA_25
       obtain ⟨f, v, H2⟩ := s
       obtain ⟨hf, hgn2⟩ := hphi
       dsimp only at hf hgn2 ⊢
       have hpt := plTo_len (rs.getD k d0).1.h (posN ((rs.map Prod.fst).take k)) (places ((rs.map Prod.fst).take k) 0 []) f
       refine c_row1 (k := 1) rfl (fun ov => ?_)
       refine c_rowlen (k := 1) rfl (fun l63 => ?_)
       replace hr := hr.mono hgn2.le
       replace hp := fun p hm0 => (hp p hm0).mono hgn2.le
       replace R_6 := R_6.mono hgn2.le
       replace hc_9 := hc_9.mono hgn2.le
       obtain rfl | rfl | rfl | rfl : f = 0 ∨ f = 1 ∨ f = 2 ∨ f = 3 := by omega
       ·
        refine c_seq ?_
        refine c_region ?_
        refine r_val .none rfl (p_lt rfl rfl) ?_
        refine r_say (d := 21) (v := Value.bool true) rfl ?_
        refine r_nil ?_
        refine e_next ?_
        refine c_seq ?_
        refine c_cond_t rfl ?_
        refine c_skip ?_
        refine e_next ?_
        refine c_seq ?_
        refine c_block ?_
        refine c_seq ?_
        refine c_region ?_
        refine r_val .none rfl (p_move rfl) ?_
        refine r_val .none rfl (p_indexa (k := 0) Try.underlying36 Try.underlying35 rfl sz35 rfl (IsRow.lit _) rfl rfl (by first | exact of_decide_eq_true rfl | omega) (rfl : _ = Value.agg #[_, _])) ?_
        refine r_alloc .none rfl zr35 (IsRow.lit _) (fun b_2 => ?_)
        refine r_val .none rfl (p_assign rfl) ?_
        refine r_stw (k := 0) .none sz35 rfl rfl (IsRow.lit _) (one_lit rfl rfl) rfl ?_
        refine r_nil ?_
        refine e_next ?_
        refine c_seq ?_
        refine c_region ?_
        refine r_freezeX (k := 0) rfl (fun G_26 hn_27 hR_28 => ?_)
        replace hr := hr.mono hn_27.le
        replace hp := fun p hm0 => (hp p hm0).mono hn_27.le
        replace R_6 := R_6.mono hn_27.le
        replace hc_9 := hc_9.mono hn_27.le
        have hR_29 : RowAt G_26 b_2 0 2 (at_ [Value.bool (vF (rs.getD k d0).1.h 0), Value.int .i64 (nF (rs.getD k d0).1.h 0)]) := RowAt.congr hR_28 (fun i hi => by match i, hi with | 0, _ => rfl | 1, _ => rfl)
        refine r_val .none rfl (p_field Try.underlying35 rfl sz4 rfl) ?_
        refine r_val .none rfl (p_ldg (j := 0) Try.underlying4 rfl rfl hR_29 (by first | exact of_decide_eq_true rfl | omega) (rfl : _ = Value.bool _)) ?_
        refine r_val .none rfl (p_move rfl) ?_
        refine' r_and (c := 26) (d := 31) [_, _, _, _, _] rfl (fun h_30 Q_31 hQ_32 => ?_) (fun h_30 Q_31 hQ_32 => ?_) ?_
        rotate_left 1
        ·
         refine r_val (.some rfl rfl) rfl (p_move rfl) ?_
         refine r_val (.some rfl rfl) rfl (p_mkfunc (vs := [_]) rfl) ?_
         refine r_callr (k := 1) (vs := [_, _]) (.some rfl rfl) rfl cl60 rfl rfl (fun w G_34 hw hle_35 hs_36 => c_ctnP _ _ _ _ _ (SlL.of t0 (fun _ => rfl) rfl hs_36) cl61 (fun x w hw => c_bnd1 x _ _ _ (hR_29.mono hle_35) w hw) w hw) ?_
         refine r_val (.some rfl rfl) rfl (p_not rfl) ?_
         refine r_val .none rfl (p_pick_t rfl rfl) ?_
         refine r_nil (e_fin (d := 31) hQ_32 rfl (by repeat (first | exact .refl | refine .put rfl ?_ | refine .say rfl ?_ | refine .say2 rfl (by first | assumption | simp_all) ?_)))
        ·
         repeat (first | refine r_skip rfl (.no rfl rfl) ?_ | refine r_skip rfl (.un rfl rfl) ?_)
         refine r_val (by first | exact .none | exact .some rfl rfl) rfl (p_pick_f rfl rfl) ?_
         refine r_nil (e_fin (d := 31) hQ_32 rfl (by repeat (first | exact .refl | refine .put rfl ?_ | refine .say rfl ?_ | refine .say2 rfl (by first | assumption | simp_all) ?_)))
        refine r_nil ?_
        refine e_next ?_
        refine c_split (d := 31) rfl (fun h_37 => ?_) (fun h_37 => ?_)
        ·
         try simp only [norms] at h_37
         have hb := h_37
         first
          | (exfalso; omega)
          | (
           refine c_cond_t rfl ?_
           refine c_region ?_
           refine r_val .none rfl (p_move rfl) ?_
           refine r_val .none rfl (p_field Try.underlying35 rfl sz3 rfl) ?_
           refine r_val .none rfl (p_ldg (j := 1) Try.underlying3 rfl rfl hR_29 (by first | exact of_decide_eq_true rfl | omega) (rfl : _ = Value.int _ _)) ?_
           refine r_val .none rfl (p_move rfl) ?_
           refine r_val .none rfl (p_move rfl) ?_
           refine r_val .none rfl (p_build (vs := [(0, Value.int _ _), (1, Value.int _ _), (2, Value.int _ _)]) rfl (bl84_0i1_1i1_2i1 _ _ _)) ?_
           refine r_bslice (vs := [(0, Value.agg #[_, _, _])]) (c := #[_, _, _]) .none rfl Try.underlying81 el84 rfl rfl rfl (bs84_10a3 _ _ _) (IsRow.lit _) (fun b_3 => ?_)
           refine r_append (k := 2) (k2 := 0) .none rfl Try.underlying81 el84 rfl (by decide) rfl rfl rfl rfl rfl (one_lit rfl rfl) (by simp only [maxLen]; simp at hpl; omega) (by simp at hpl; omega) (fun v_38 => ?_)
           refine r_row1 (k := 2) rfl (fun o_39 => ?_)
           refine r_val .none rfl (p_assign rfl) ?_
           refine r_nil ?_
           refine e_norm_block ?_
           refine e_next ?_
           refine c_region ?_
           refine r_val .none rfl (p_add rfl rfl (by omega)) ?_
           refine r_val .none rfl (p_move rfl) ?_
           refine r_nil ?_
           refine e_round ((1, _, _)) ⟨⟨Nat.le_of_ble_eq_true rfl, (hgn2.trans hn_27)⟩, Nat.le_of_ble_eq_true rfl⟩ rfl ⟨rfl, rfl, rfl, rfl, rfl, rfl, rfl, rfl, rfl, rfl, rfl, rfl, rfl, rfl, rfl, rfl, trivial⟩ (.drop (.keep (fun _ _ h => h) (.keep (fun _ _ h => rowA_snoc (l := plTo (rs.getD k d0).1.h (posN ((rs.map Prod.fst).take k)) (places ((rs.map Prod.fst).take k) 0 []) 0) (x := (nF (rs.getD k d0).1.h 0, ((posN ((rs.map Prod.fst).take k) : Nat) : Int), (0 : Int))) (by show pl1 _ _ _ 0 = _; unfold pl1; exact if_pos (by first | exact hb | simpa using hb)) rfl rfl rfl _ _ h) (.nil))))
           )
        ·
         try simp only [norms] at h_37
         have hb := h_37
         first
          | (exfalso; omega)
          | (
           refine c_cond_f rfl ?_
           refine c_skip ?_
           refine e_norm_block ?_
           refine e_next ?_
           refine c_region ?_
           refine r_val .none rfl (p_add rfl rfl (by omega)) ?_
           refine r_val .none rfl (p_move rfl) ?_
           refine r_nil ?_
           refine e_round ((1, _, _)) ⟨⟨Nat.le_of_ble_eq_true rfl, (hgn2.trans hn_27)⟩, Nat.le_of_ble_eq_true rfl⟩ rfl ⟨rfl, rfl, rfl, rfl, rfl, rfl, rfl, rfl, rfl, rfl, rfl, rfl, rfl, rfl, rfl, rfl, trivial⟩ (.keep (fun _ _ h => h) (.keep (fun _ _ h => rowA_same (by show pl1 _ _ _ 0 = _; unfold pl1; exact if_neg (fun hx => hb.elim (fun h1 => by first | exact h1 hx.1 | (have h3 := h1.symm.trans hx.1; cases h3)) (fun h1 => hx.2 (by first | exact h1 | exact of_decide_eq_true h1 | simpa using h1)))) _ _ h) (.nil)))
           )
       ·
        refine c_seq ?_
        refine c_region ?_
        refine r_val .none rfl (p_lt rfl rfl) ?_
        refine r_say (d := 21) (v := Value.bool true) rfl ?_
        refine r_nil ?_
        refine e_next ?_
        refine c_seq ?_
        refine c_cond_t rfl ?_
        refine c_skip ?_
        refine e_next ?_
        refine c_seq ?_
        refine c_block ?_
        refine c_seq ?_
        refine c_region ?_
        refine r_val .none rfl (p_move rfl) ?_
        refine r_val .none rfl (p_indexa (k := 1) Try.underlying36 Try.underlying35 rfl sz35 rfl (IsRow.lit _) rfl rfl (by first | exact of_decide_eq_true rfl | omega) (rfl : _ = Value.agg #[_, _])) ?_
        refine r_alloc .none rfl zr35 (IsRow.lit _) (fun b_4 => ?_)
        refine r_val .none rfl (p_assign rfl) ?_
        refine r_stw (k := 0) .none sz35 rfl rfl (IsRow.lit _) (one_lit rfl rfl) rfl ?_
        refine r_nil ?_
        refine e_next ?_
        refine c_seq ?_
        refine c_region ?_
        refine r_freezeX (k := 0) rfl (fun G_40 hn_41 hR_42 => ?_)
        replace hr := hr.mono hn_41.le
        replace hp := fun p hm0 => (hp p hm0).mono hn_41.le
        replace R_6 := R_6.mono hn_41.le
        replace hc_9 := hc_9.mono hn_41.le
        have hR_43 : RowAt G_40 b_4 0 2 (at_ [Value.bool (vF (rs.getD k d0).1.h 1), Value.int .i64 (nF (rs.getD k d0).1.h 1)]) := RowAt.congr hR_42 (fun i hi => by match i, hi with | 0, _ => rfl | 1, _ => rfl)
        refine r_val .none rfl (p_field Try.underlying35 rfl sz4 rfl) ?_
        refine r_val .none rfl (p_ldg (j := 0) Try.underlying4 rfl rfl hR_43 (by first | exact of_decide_eq_true rfl | omega) (rfl : _ = Value.bool _)) ?_
        refine r_val .none rfl (p_move rfl) ?_
        refine' r_and (c := 26) (d := 31) [_, _, _, _, _] rfl (fun h_44 Q_45 hQ_46 => ?_) (fun h_44 Q_45 hQ_46 => ?_) ?_
        rotate_left 1
        ·
         refine r_val (.some rfl rfl) rfl (p_move rfl) ?_
         refine r_val (.some rfl rfl) rfl (p_mkfunc (vs := [_]) rfl) ?_
         refine r_callr (k := 1) (vs := [_, _]) (.some rfl rfl) rfl cl60 rfl rfl (fun w G_48 hw hle_49 hs_50 => c_ctnP _ _ _ _ _ (SlL.of t0 (fun _ => rfl) rfl hs_50) cl61 (fun x w hw => c_bnd1 x _ _ _ (hR_43.mono hle_49) w hw) w hw) ?_
         refine r_val (.some rfl rfl) rfl (p_not rfl) ?_
         refine r_val .none rfl (p_pick_t rfl rfl) ?_
         refine r_nil (e_fin (d := 31) hQ_46 rfl (by repeat (first | exact .refl | refine .put rfl ?_ | refine .say rfl ?_ | refine .say2 rfl (by first | assumption | simp_all) ?_)))
        ·
         repeat (first | refine r_skip rfl (.no rfl rfl) ?_ | refine r_skip rfl (.un rfl rfl) ?_)
         refine r_val (by first | exact .none | exact .some rfl rfl) rfl (p_pick_f rfl rfl) ?_
         refine r_nil (e_fin (d := 31) hQ_46 rfl (by repeat (first | exact .refl | refine .put rfl ?_ | refine .say rfl ?_ | refine .say2 rfl (by first | assumption | simp_all) ?_)))
        refine r_nil ?_
        refine e_next ?_
        refine c_split (d := 31) rfl (fun h_51 => ?_) (fun h_51 => ?_)
        ·
         try simp only [norms] at h_51
         have hb := h_51
         first
          | (exfalso; omega)
          | (
           refine c_cond_t rfl ?_
           refine c_region ?_
           refine r_val .none rfl (p_move rfl) ?_
           refine r_val .none rfl (p_field Try.underlying35 rfl sz3 rfl) ?_
           refine r_val .none rfl (p_ldg (j := 1) Try.underlying3 rfl rfl hR_43 (by first | exact of_decide_eq_true rfl | omega) (rfl : _ = Value.int _ _)) ?_
           refine r_val .none rfl (p_move rfl) ?_
           refine r_val .none rfl (p_move rfl) ?_
           refine r_val .none rfl (p_build (vs := [(0, Value.int _ _), (1, Value.int _ _), (2, Value.int _ _)]) rfl (bl84_0i1_1i1_2i1 _ _ _)) ?_
           refine r_bslice (vs := [(0, Value.agg #[_, _, _])]) (c := #[_, _, _]) .none rfl Try.underlying81 el84 rfl rfl rfl (bs84_10a3 _ _ _) (IsRow.lit _) (fun b_5 => ?_)
           refine r_append (k := 2) (k2 := 0) .none rfl Try.underlying81 el84 rfl (by decide) rfl rfl rfl rfl rfl (one_lit rfl rfl) (by simp only [maxLen]; simp at hpl; omega) (by simp at hpl; omega) (fun v_52 => ?_)
           refine r_row1 (k := 2) rfl (fun o_53 => ?_)
           refine r_val .none rfl (p_assign rfl) ?_
           refine r_nil ?_
           refine e_norm_block ?_
           refine e_next ?_
           refine c_region ?_
           refine r_val .none rfl (p_add rfl rfl (by omega)) ?_
           refine r_val .none rfl (p_move rfl) ?_
           refine r_nil ?_
           refine e_round ((2, _, _)) ⟨⟨Nat.le_of_ble_eq_true rfl, (hgn2.trans hn_41)⟩, Nat.le_of_ble_eq_true rfl⟩ rfl ⟨rfl, rfl, rfl, rfl, rfl, rfl, rfl, rfl, rfl, rfl, rfl, rfl, rfl, rfl, rfl, rfl, trivial⟩ (.drop (.keep (fun _ _ h => h) (.keep (fun _ _ h => rowA_snoc (l := plTo (rs.getD k d0).1.h (posN ((rs.map Prod.fst).take k)) (places ((rs.map Prod.fst).take k) 0 []) 1) (x := (nF (rs.getD k d0).1.h 1, ((posN ((rs.map Prod.fst).take k) : Nat) : Int), (1 : Int))) (by show pl1 _ _ _ 1 = _; unfold pl1; exact if_pos (by first | exact hb | simpa using hb)) rfl rfl rfl _ _ h) (.nil))))
           )
        ·
         try simp only [norms] at h_51
         have hb := h_51
         first
          | (exfalso; omega)
          | (
           refine c_cond_f rfl ?_
           refine c_skip ?_
           refine e_norm_block ?_
           refine e_next ?_
           refine c_region ?_
           refine r_val .none rfl (p_add rfl rfl (by omega)) ?_
           refine r_val .none rfl (p_move rfl) ?_
           refine r_nil ?_
           refine e_round ((2, _, _)) ⟨⟨Nat.le_of_ble_eq_true rfl, (hgn2.trans hn_41)⟩, Nat.le_of_ble_eq_true rfl⟩ rfl ⟨rfl, rfl, rfl, rfl, rfl, rfl, rfl, rfl, rfl, rfl, rfl, rfl, rfl, rfl, rfl, rfl, trivial⟩ (.keep (fun _ _ h => h) (.keep (fun _ _ h => rowA_same (by show pl1 _ _ _ 1 = _; unfold pl1; exact if_neg (fun hx => hb.elim (fun h1 => by first | exact h1 hx.1 | (have h3 := h1.symm.trans hx.1; cases h3)) (fun h1 => hx.2 (by first | exact h1 | exact of_decide_eq_true h1 | simpa using h1)))) _ _ h) (.nil)))
           )
       ·
        refine c_seq ?_
        refine c_region ?_
        refine r_val .none rfl (p_lt rfl rfl) ?_
        refine r_say (d := 21) (v := Value.bool true) rfl ?_
        refine r_nil ?_
        refine e_next ?_
        refine c_seq ?_
        refine c_cond_t rfl ?_
        refine c_skip ?_
        refine e_next ?_
        refine c_seq ?_
        refine c_block ?_
        refine c_seq ?_
        refine c_region ?_
        refine r_val .none rfl (p_move rfl) ?_
        refine r_val .none rfl (p_indexa (k := 2) Try.underlying36 Try.underlying35 rfl sz35 rfl (IsRow.lit _) rfl rfl (by first | exact of_decide_eq_true rfl | omega) (rfl : _ = Value.agg #[_, _])) ?_
        refine r_alloc .none rfl zr35 (IsRow.lit _) (fun b_6 => ?_)
        refine r_val .none rfl (p_assign rfl) ?_
        refine r_stw (k := 0) .none sz35 rfl rfl (IsRow.lit _) (one_lit rfl rfl) rfl ?_
        refine r_nil ?_
        refine e_next ?_
        refine c_seq ?_
        refine c_region ?_
        refine r_freezeX (k := 0) rfl (fun G_54 hn_55 hR_56 => ?_)
        replace hr := hr.mono hn_55.le
        replace hp := fun p hm0 => (hp p hm0).mono hn_55.le
        replace R_6 := R_6.mono hn_55.le
        replace hc_9 := hc_9.mono hn_55.le
        have hR_57 : RowAt G_54 b_6 0 2 (at_ [Value.bool (vF (rs.getD k d0).1.h 2), Value.int .i64 (nF (rs.getD k d0).1.h 2)]) := RowAt.congr hR_56 (fun i hi => by match i, hi with | 0, _ => rfl | 1, _ => rfl)
        refine r_val .none rfl (p_field Try.underlying35 rfl sz4 rfl) ?_
        refine r_val .none rfl (p_ldg (j := 0) Try.underlying4 rfl rfl hR_57 (by first | exact of_decide_eq_true rfl | omega) (rfl : _ = Value.bool _)) ?_
        refine r_val .none rfl (p_move rfl) ?_
        refine' r_and (c := 26) (d := 31) [_, _, _, _, _] rfl (fun h_58 Q_59 hQ_60 => ?_) (fun h_58 Q_59 hQ_60 => ?_) ?_
        rotate_left 1
        ·
         refine r_val (.some rfl rfl) rfl (p_move rfl) ?_
         refine r_val (.some rfl rfl) rfl (p_mkfunc (vs := [_]) rfl) ?_
         refine r_callr (k := 1) (vs := [_, _]) (.some rfl rfl) rfl cl60 rfl rfl (fun w G_62 hw hle_63 hs_64 => c_ctnP _ _ _ _ _ (SlL.of t0 (fun _ => rfl) rfl hs_64) cl61 (fun x w hw => c_bnd1 x _ _ _ (hR_57.mono hle_63) w hw) w hw) ?_
         refine r_val (.some rfl rfl) rfl (p_not rfl) ?_
         refine r_val .none rfl (p_pick_t rfl rfl) ?_
         refine r_nil (e_fin (d := 31) hQ_60 rfl (by repeat (first | exact .refl | refine .put rfl ?_ | refine .say rfl ?_ | refine .say2 rfl (by first | assumption | simp_all) ?_)))
        ·
         repeat (first | refine r_skip rfl (.no rfl rfl) ?_ | refine r_skip rfl (.un rfl rfl) ?_)
         refine r_val (by first | exact .none | exact .some rfl rfl) rfl (p_pick_f rfl rfl) ?_
         refine r_nil (e_fin (d := 31) hQ_60 rfl (by repeat (first | exact .refl | refine .put rfl ?_ | refine .say rfl ?_ | refine .say2 rfl (by first | assumption | simp_all) ?_)))
        refine r_nil ?_
        refine e_next ?_
        refine c_split (d := 31) rfl (fun h_65 => ?_) (fun h_65 => ?_)
        ·
         try simp only [norms] at h_65
         have hb := h_65
         first
          | (exfalso; omega)
          | (
           refine c_cond_t rfl ?_
           refine c_region ?_
           refine r_val .none rfl (p_move rfl) ?_
           refine r_val .none rfl (p_field Try.underlying35 rfl sz3 rfl) ?_
           refine r_val .none rfl (p_ldg (j := 1) Try.underlying3 rfl rfl hR_57 (by first | exact of_decide_eq_true rfl | omega) (rfl : _ = Value.int _ _)) ?_
           refine r_val .none rfl (p_move rfl) ?_
           refine r_val .none rfl (p_move rfl) ?_
           refine r_val .none rfl (p_build (vs := [(0, Value.int _ _), (1, Value.int _ _), (2, Value.int _ _)]) rfl (bl84_0i1_1i1_2i1 _ _ _)) ?_
           refine r_bslice (vs := [(0, Value.agg #[_, _, _])]) (c := #[_, _, _]) .none rfl Try.underlying81 el84 rfl rfl rfl (bs84_10a3 _ _ _) (IsRow.lit _) (fun b_7 => ?_)
           refine r_append (k := 2) (k2 := 0) .none rfl Try.underlying81 el84 rfl (by decide) rfl rfl rfl rfl rfl (one_lit rfl rfl) (by simp only [maxLen]; simp at hpl; omega) (by simp at hpl; omega) (fun v_66 => ?_)
           refine r_row1 (k := 2) rfl (fun o_67 => ?_)
           refine r_val .none rfl (p_assign rfl) ?_
           refine r_nil ?_
           refine e_norm_block ?_
           refine e_next ?_
           refine c_region ?_
           refine r_val .none rfl (p_add rfl rfl (by omega)) ?_
           refine r_val .none rfl (p_move rfl) ?_
           refine r_nil ?_
           refine e_round ((3, _, _)) ⟨⟨Nat.le_of_ble_eq_true rfl, (hgn2.trans hn_55)⟩, Nat.le_of_ble_eq_true rfl⟩ rfl ⟨rfl, rfl, rfl, rfl, rfl, rfl, rfl, rfl, rfl, rfl, rfl, rfl, rfl, rfl, rfl, rfl, trivial⟩ (.drop (.keep (fun _ _ h => h) (.keep (fun _ _ h => rowA_snoc (l := plTo (rs.getD k d0).1.h (posN ((rs.map Prod.fst).take k)) (places ((rs.map Prod.fst).take k) 0 []) 2) (x := (nF (rs.getD k d0).1.h 2, ((posN ((rs.map Prod.fst).take k) : Nat) : Int), (2 : Int))) (by show pl1 _ _ _ 2 = _; unfold pl1; exact if_pos (by first | exact hb | simpa using hb)) rfl rfl rfl _ _ h) (.nil))))
           )
        ·
         try simp only [norms] at h_65
         have hb := h_65
         first
          | (exfalso; omega)
          | (
           refine c_cond_f rfl ?_
           refine c_skip ?_
           refine e_norm_block ?_
           refine e_next ?_
           refine c_region ?_
           refine r_val .none rfl (p_add rfl rfl (by omega)) ?_
           refine r_val .none rfl (p_move rfl) ?_
           refine r_nil ?_
           refine e_round ((3, _, _)) ⟨⟨Nat.le_of_ble_eq_true rfl, (hgn2.trans hn_55)⟩, Nat.le_of_ble_eq_true rfl⟩ rfl ⟨rfl, rfl, rfl, rfl, rfl, rfl, rfl, rfl, rfl, rfl, rfl, rfl, rfl, rfl, rfl, rfl, trivial⟩ (.keep (fun _ _ h => h) (.keep (fun _ _ h => rowA_same (by show pl1 _ _ _ 2 = _; unfold pl1; exact if_neg (fun hx => hb.elim (fun h1 => by first | exact h1 hx.1 | (have h3 := h1.symm.trans hx.1; cases h3)) (fun h1 => hx.2 (by first | exact h1 | exact of_decide_eq_true h1 | simpa using h1)))) _ _ h) (.nil)))
           )
       ·
        refine c_seq ?_
        refine c_region ?_
        refine r_val .none rfl (p_lt rfl rfl) ?_
        refine r_say (d := 21) (v := Value.bool false) rfl ?_
        refine r_nil ?_
        refine e_next ?_
        refine c_seq ?_
        refine c_cond_f rfl ?_
        refine c_exit ?_
        refine e_exit_then ?_
        refine e_exit_then ?_
        refine e_exit_block ?_
        refine e_next ?_
        refine c_region ?_
        refine r_val .none rfl (p_move rfl) ?_
        refine r_val .none rfl (p_add rfl rfl (by omega)) ?_
        refine r_val .none rfl (p_assign rfl) ?_
        refine r_nil ?_
        refine e_norm_block ?_
        refine e_next ?_
        refine c_region ?_
        refine r_val .none rfl (p_add rfl rfl (by omega)) ?_
        refine r_val .none rfl (p_move rfl) ?_
        refine r_nil ?_
        refine e_round ((k + 1, _, _)) ⟨⟨by dsimp only; omega, (hgn.trans hgn2)⟩, by dsimp only; omega⟩ rfl ⟨rfl, (congrArg (fun z => some (Value.int .i64 z)) (by rw [map_take (d := d0) (by omega), posN_append]; simp only [posN]; first | (rw [if_pos hk1]; omega) | (rw [if_neg hk1]; omega))), rfl, rfl, rfl, rfl, trivial⟩ (.drop (.keep (fun _ _ h => rowA_congr (by rw [map_take (d := d0) (by omega), places_snoc]; first | (rw [if_pos hk1, Int.zero_add]; done) | (rw [if_neg hk1]; done)) (by rw [map_take (d := d0) (by omega), places_snoc]; first | (rw [if_pos hk1, Int.zero_add]; done) | (rw [if_neg hk1]; done)) _ _ h) (.nil)))
       )
    )
 ·
  first
   | (exfalso; omega)
   | (
    refine c_cond_f rfl ?_
    refine c_exit ?_
    refine e_exit_then ?_
    refine e_exit_then ?_
    refine e_exit_block ?_
    refine e_next ?_
    refine c_seq ?_
    refine c_region ?_
    refine r_val .none rfl (p_move rfl) ?_
    refine r_sortf (k := 0) .none rfl cl62 rfl rfl (fun _ => rfl) sortPC sortPN (by have h9 := places_len ((rs.map Prod.fst).take k) 0 []; simp at h9; omega) (fun z_68 z_68p z_68s => ?_)
    refine r_nil ?_
    refine e_next ?_
    refine c_seq ?_
    refine c_region ?_
    refine r_val .none rfl (p_move rfl) ?_
    refine r_val .none rfl (p_assign rfl) ?_
    refine r_nil ?_
    refine e_next ?_
    refine c_ret ?_
    refine e_freeze (k := 0) rfl (fun G_69 hn_70 hs_71 => ?_)
    replace hr := hr.mono hn_70.le
    replace hp := fun p hm0 => (hp p hm0).mono hn_70.le
    refine e_ret1 Try.results41 (.tmp rfl .nil) (fun w hm => ⟨_, (hgn.trans hn_70), hm.has, ?_, hm.since⟩)
    exact ⟨z_68, by rw [show rs.map Prod.fst = (rs.map Prod.fst).take k by rw [List.take_of_length_le (by simp; omega)]]; exact z_68p, z_68s, SlL.of t0 (fun _ => rfl) rfl hs_71⟩
    )
end Go.Proofs.Ytoflaphnlfggkaa

/- Walks: what Go functions of this chapter come to, each as a function on plain data; no condition but those that each theorem names. Printed by a program of this work (gen.py). -/
namespace Go.Proofs.Ytoflaphnlfggkaa
open Go.Gx Go.Gx.T4 Go.Gx.T3 Go.Gx.T6 Go.Gx.T8 Go.Gx.T4 Go.Gx.T3 Go.Gx.T8 Go.Gx.T4 Go.Gx.T3
theorem cl41 : Callable Try.prog 41 := callable Try.func41 (by kernel_rfl) rfl
theorem bl35_1i1 (x0 : Int) : Program.built Try.prog 35 [(1, Value.int .i64 x0)] = some #[Value.bool false, Value.int .i64 x0] := by
 kernel_rfl
theorem bl35_0b1_1i1 (x0 : Bool) (x1 : Int) : Program.built Try.prog 35 [(0, Value.bool x0), (1, Value.int .i64 x1)] = some #[Value.bool x0, Value.int .i64 x1] := by
 kernel_rfl
theorem bl36_0a2_1a2_2a2 (x0 : Value) (x1 : Value) (x2 : Value) (x3 : Value) (x4 : Value) (x5 : Value) : Program.built Try.prog 36 [(0, Value.agg #[x0, x1]), (1, Value.agg #[x2, x3]), (2, Value.agg #[x4, x5])] = some #[x0, x1, x2, x3, x4, x5] := by
 kernel_rfl
theorem bl38_0i1_1a6 (x0 : Int) (x1 : Value) (x2 : Value) (x3 : Value) (x4 : Value) (x5 : Value) (x6 : Value) : Program.built Try.prog 38 [(0, Value.int .i64 x0), (1, Value.agg #[x1, x2, x3, x4, x5, x6])] = some #[Value.int .i64 x0, x1, x2, x3, x4, x5, x6, Value.slice none 0 0] := by
 kernel_rfl
theorem bs38_20a8_1a8 (a0 a1 a2 a3 a4 a5 a6 a7 : Value) (a8 a9 a10 a11 a12 a13 a14 a15 : Value) : Instr.fill (fun i => some (i * 8, 8)) ((Array.range (2 * 8)).map ((Value.agg #[Value.int .i64 0, Value.bool false, Value.int .i64 0, Value.bool false, Value.int .i64 0, Value.bool false, Value.int .i64 0, Value.slice none 0 0]).cells[· % (Value.agg #[Value.int .i64 0, Value.bool false, Value.int .i64 0, Value.bool false, Value.int .i64 0, Value.bool false, Value.int .i64 0, Value.slice none 0 0]).cells.size]!)) [(0, Value.agg #[a0, a1, a2, a3, a4, a5, a6, a7]), (1, Value.agg #[a8, a9, a10, a11, a12, a13, a14, a15])] = some #[a0, a1, a2, a3, a4, a5, a6, a7, a8, a9, a10, a11, a12, a13, a14, a15] := by
 kernel_rfl
end Go.Proofs.Ytoflaphnlfggkaa

/- Walks: what Go functions of this chapter come to, each as a function on plain data; no condition but those that each theorem names. Printed by a program of this work (gen.py). -/
namespace Go.Proofs.Ytoflaphnlfggkaa
open Go.Gx Go.Gx.T4 Go.Gx.T3 Go.Gx.T6 Go.Gx.T8 Go.Gx.T4 Go.Gx.T3 Go.Gx.T8 Go.Gx.T4 Go.Gx.T3 Go.Gx.T8 Go.Gx.T6 Go.Gx.T4 Go.Gx.T3
theorem sz61 : SzIs Try.prog 61 3 := by
 unfold SzIs
 kernel_rfl
theorem sz92 : SzIs Try.prog 92 3 := by
 unfold SzIs
 kernel_rfl
theorem zr61 : ZeroIs Try.prog 61 (Value.agg #[Value.int .i64 0, Value.int .i64 0, Value.int .i64 0]) := by
 unfold ZeroIs
 kernel_rfl
theorem zr92 : ZeroIs Try.prog 92 (Value.agg #[Value.int .i64 0, Value.int .i64 0, Value.int .i64 0]) := by
 unfold ZeroIs
 kernel_rfl
theorem lf35 : leafT Try.prog 9 35 = some [4, 3] := by
 kernel_rfl
theorem ef35 : eqT Try.prog 9 35 = true := by
 kernel_rfl
theorem eg35 : Try.prog.eqGuardType Try.prog.depth 35 = false := by
 kernel_rfl
theorem cl67 : Callable Try.prog 67 := callable Try.func67 (by kernel_rfl) rfl
theorem cl68 : Callable Try.prog 68 := callable Try.func68 (by kernel_rfl) rfl
theorem cl74 : Callable Try.prog 74 := callable Try.func74 (by kernel_rfl) rfl
theorem c_keyof (hh : Hd)  (w : World)  :
  Calls Try.prog 52 #[Value.agg #[Value.bool hh.v0, Value.int .i64 hh.n0, Value.bool hh.v1, Value.int .i64 hh.n1, Value.bool hh.v2, Value.int .i64 hh.n2]] w (Ret fun r w' => r = Value.agg #[Value.int .i64 (keyTo hh 3 0), Value.int .i64 (keyTo hh 3 1), Value.int .i64 (keyTo hh 3 2)] ∧ Since nX w w') := by
 refine enter (args := [_]) (X := nX) (G := (fun _ => none)) (l := [(0, Value.agg #[Value.bool hh.v0, Value.int .i64 hh.n0, Value.bool hh.v1, Value.int .i64 hh.n1, Value.bool hh.v2, Value.int .i64 hh.n2])]) Try.func52 rfl Try.ntmps52 (fun _ _ h => by cases h) ⟨rfl, trivial⟩ (Nat.le_of_ble_eq_true rfl) ?_
 refine c_seq ?_
 refine c_region ?_
 refine r_box .none rfl rfl (IsRow.lit _) (fun b_1 => ?_)
 refine r_alloc .none rfl zr61 (IsRow.lit _) (fun b_2 => ?_)
 refine r_nil ?_
 refine e_next ?_
 refine c_seq ?_
 refine c_region ?_
 refine r_alloc .none rfl zr61 (IsRow.lit _) (fun b_3 => ?_)
 refine r_nil ?_
 refine e_next ?_
 refine c_seq ?_
 refine c_seq ?_
 refine c_region ?_
 refine r_val .none rfl (p_ldw (k := 2) Try.underlying36 rfl sz36 rfl rfl (rfl : _ = Value.agg #[_, _, _, _, _, _])) ?_
 refine r_val .none rfl (p_move rfl) ?_
 refine r_nil ?_
 refine e_next ?_
 refine c_block ?_
 refine c_name (d := 2) rfl (fun u_1 hu_1 => ?_)
 refine c_name (d := 3) rfl (fun u_2 hu_2 => ?_)
 refine c_name (d := 6) rfl (fun u_3 hu_3 => ?_)
 refine c_nameL (k := 1) rfl (fun A_4 hA_4 => ?_)
 refine c_nameL (k := 2) rfl (fun A_5 hA_5 => ?_)
 refine c_loop (σ := Nat) (fun f => [(7, Value.int .i64 (f : Nat)), (2, u_1), (3, u_2), (6, u_3)]) (fun f => [box b_3 3 61 (at_ [.int .i64 (keyTo hh f 0), .int .i64 (keyTo hh f 1), .int .i64 (keyTo hh f 2)]), A_4, A_5]) (fun _ => _) (fun f => f ≤ 3) (fun f => 3 - f) (0) (Nat.zero_le _) rfl ⟨rfl, rfl, rfl, rfl, trivial⟩ (.keep (fun _ _ h => box_congr (fun i hi => by match i, hi with | 0, _ => rfl | 1, _ => rfl | 2, _ => rfl) _ _ h) (.keep (fun _ _ h => h) (.keep (fun _ _ h => h) (.nil)))) (fun f hphi => ?_)
 subst hu_1
 subst hu_2
 subst hu_3
 subst hA_4
 subst hA_5
 obtain rfl | rfl | rfl | rfl : f = 0 ∨ f = 1 ∨ f = 2 ∨ f = 3 := by omega
 ·
  refine c_seq ?_
  refine c_region ?_
  refine r_val .none rfl (p_lt rfl rfl) ?_
  refine r_say (d := 8) (v := Value.bool true) rfl ?_
  refine r_nil ?_
  refine e_next ?_
  refine c_seq ?_
  refine c_cond_t rfl ?_
  refine c_skip ?_
  refine e_next ?_
  refine c_seq ?_
  refine c_block ?_
  refine c_seq ?_
  refine c_region ?_
  refine r_val .none rfl (p_move rfl) ?_
  refine r_val .none rfl (p_indexa (k := 0) Try.underlying36 Try.underlying35 rfl sz35 rfl (IsRow.lit _) rfl rfl (by first | exact of_decide_eq_true rfl | omega) (rfl : _ = Value.agg #[_, _])) ?_
  refine r_alloc .none rfl zr35 (IsRow.lit _) (fun b_4 => ?_)
  refine r_val .none rfl (p_assign rfl) ?_
  refine r_stw (k := 0) .none sz35 rfl rfl (IsRow.lit _) (one_lit rfl rfl) rfl ?_
  refine r_nil ?_
  refine e_next ?_
  refine c_seq ?_
  refine c_region ?_
  refine r_val .none rfl (p_field Try.underlying35 rfl sz4 rfl) ?_
  refine r_val .none rfl (p_ld (k := 0) Try.underlying4 rfl rfl rfl (by first | exact of_decide_eq_true rfl | omega) (rfl : _ = Value.bool _)) ?_
  refine r_val .none rfl (p_not rfl) ?_
  refine r_nil ?_
  refine e_next ?_
  refine c_splitn (d := 13) rfl (fun h_6 => ?_) (fun h_6 => ?_)
  ·
   have hv : vF hh 0 = false := h_6
   first
    | (exfalso; omega)
    | (
     refine c_cond_t rfl ?_
     refine c_region ?_
     refine r_val .none rfl (p_move rfl) ?_
     refine r_val .none rfl (p_field Try.underlying35 rfl sz3 rfl) ?_
     refine r_val .none rfl (p_ld (k := 0) Try.underlying3 rfl rfl rfl (by first | exact of_decide_eq_true rfl | omega) (rfl : _ = Value.int _ _)) ?_
     refine r_val .none rfl (p_iaddr (k := 0) Try.underlying61 sz3 rfl rfl (by first | exact of_decide_eq_true rfl | omega)) ?_
     refine r_st (k := 1) .none sz3 rfl rfl rfl rfl (by first | exact of_decide_eq_true rfl | omega) ?_
     refine r_nil ?_
     refine e_norm_block ?_
     refine e_next ?_
     refine c_region ?_
     refine r_val .none rfl (p_add rfl rfl (by omega)) ?_
     refine r_val .none rfl (p_move rfl) ?_
     refine r_nil ?_
     refine e_round (1) ⟨Nat.le_of_ble_eq_true rfl, Nat.le_of_ble_eq_true rfl⟩ rfl ⟨rfl, rfl, rfl, rfl, trivial⟩ (.drop (.keep (fun _ _ h => box_congr (fun i hi => by match i, hi with | 0, _ => exact (by first | exact congrArg (Value.int .i64) (key_set (h := hh) (f := 0) hv).symm | exact congrArg (Value.int .i64) ((show keyTo hh 0 0 = 0 by simp [keyTo]).trans (key_not (h := hh) (f := 0) hv).symm)) | 1, _ => exact congrArg (Value.int .i64) (key_else (h := hh) (f := 0) (i := 1) (by decide)).symm | 2, _ => exact congrArg (Value.int .i64) (key_else (h := hh) (f := 0) (i := 2) (by decide)).symm) _ _ h) (.keep (fun _ _ h => h) (.keep (fun _ _ h => h) (.nil)))))
     )
  ·
   have hv : vF hh 0 = true := h_6
   first
    | (exfalso; omega)
    | (
     refine c_cond_f rfl ?_
     refine c_skip ?_
     refine e_norm_block ?_
     refine e_next ?_
     refine c_region ?_
     refine r_val .none rfl (p_add rfl rfl (by omega)) ?_
     refine r_val .none rfl (p_move rfl) ?_
     refine r_nil ?_
     refine e_round (1) ⟨Nat.le_of_ble_eq_true rfl, Nat.le_of_ble_eq_true rfl⟩ rfl ⟨rfl, rfl, rfl, rfl, trivial⟩ (.drop (.keep (fun _ _ h => box_congr (fun i hi => by match i, hi with | 0, _ => exact (by first | exact congrArg (Value.int .i64) (key_set (h := hh) (f := 0) hv).symm | exact congrArg (Value.int .i64) ((show keyTo hh 0 0 = 0 by simp [keyTo]).trans (key_not (h := hh) (f := 0) hv).symm)) | 1, _ => exact congrArg (Value.int .i64) (key_else (h := hh) (f := 0) (i := 1) (by decide)).symm | 2, _ => exact congrArg (Value.int .i64) (key_else (h := hh) (f := 0) (i := 2) (by decide)).symm) _ _ h) (.keep (fun _ _ h => h) (.keep (fun _ _ h => h) (.nil)))))
     )
 ·
  refine c_seq ?_
  refine c_region ?_
  refine r_val .none rfl (p_lt rfl rfl) ?_
  refine r_say (d := 8) (v := Value.bool true) rfl ?_
  refine r_nil ?_
  refine e_next ?_
  refine c_seq ?_
  refine c_cond_t rfl ?_
  refine c_skip ?_
  refine e_next ?_
  refine c_seq ?_
  refine c_block ?_
  refine c_seq ?_
  refine c_region ?_
  refine r_val .none rfl (p_move rfl) ?_
  refine r_val .none rfl (p_indexa (k := 1) Try.underlying36 Try.underlying35 rfl sz35 rfl (IsRow.lit _) rfl rfl (by first | exact of_decide_eq_true rfl | omega) (rfl : _ = Value.agg #[_, _])) ?_
  refine r_alloc .none rfl zr35 (IsRow.lit _) (fun b_5 => ?_)
  refine r_val .none rfl (p_assign rfl) ?_
  refine r_stw (k := 0) .none sz35 rfl rfl (IsRow.lit _) (one_lit rfl rfl) rfl ?_
  refine r_nil ?_
  refine e_next ?_
  refine c_seq ?_
  refine c_region ?_
  refine r_val .none rfl (p_field Try.underlying35 rfl sz4 rfl) ?_
  refine r_val .none rfl (p_ld (k := 0) Try.underlying4 rfl rfl rfl (by first | exact of_decide_eq_true rfl | omega) (rfl : _ = Value.bool _)) ?_
  refine r_val .none rfl (p_not rfl) ?_
  refine r_nil ?_
  refine e_next ?_
  refine c_splitn (d := 13) rfl (fun h_7 => ?_) (fun h_7 => ?_)
  ·
   have hv : vF hh 1 = false := h_7
   first
    | (exfalso; omega)
    | (
     refine c_cond_t rfl ?_
     refine c_region ?_
     refine r_val .none rfl (p_move rfl) ?_
     refine r_val .none rfl (p_field Try.underlying35 rfl sz3 rfl) ?_
     refine r_val .none rfl (p_ld (k := 0) Try.underlying3 rfl rfl rfl (by first | exact of_decide_eq_true rfl | omega) (rfl : _ = Value.int _ _)) ?_
     refine r_val .none rfl (p_iaddr (k := 1) Try.underlying61 sz3 rfl rfl (by first | exact of_decide_eq_true rfl | omega)) ?_
     refine r_st (k := 1) .none sz3 rfl rfl rfl rfl (by first | exact of_decide_eq_true rfl | omega) ?_
     refine r_nil ?_
     refine e_norm_block ?_
     refine e_next ?_
     refine c_region ?_
     refine r_val .none rfl (p_add rfl rfl (by omega)) ?_
     refine r_val .none rfl (p_move rfl) ?_
     refine r_nil ?_
     refine e_round (2) ⟨Nat.le_of_ble_eq_true rfl, Nat.le_of_ble_eq_true rfl⟩ rfl ⟨rfl, rfl, rfl, rfl, trivial⟩ (.drop (.keep (fun _ _ h => box_congr (fun i hi => by match i, hi with | 0, _ => exact congrArg (Value.int .i64) (key_else (h := hh) (f := 1) (i := 0) (by decide)).symm | 1, _ => exact (by first | exact congrArg (Value.int .i64) (key_set (h := hh) (f := 1) hv).symm | exact congrArg (Value.int .i64) ((show keyTo hh 1 1 = 0 by simp [keyTo]).trans (key_not (h := hh) (f := 1) hv).symm)) | 2, _ => exact congrArg (Value.int .i64) (key_else (h := hh) (f := 1) (i := 2) (by decide)).symm) _ _ h) (.keep (fun _ _ h => h) (.keep (fun _ _ h => h) (.nil)))))
     )
  ·
   have hv : vF hh 1 = true := h_7
   first
    | (exfalso; omega)
    | (
     refine c_cond_f rfl ?_
     refine c_skip ?_
     refine e_norm_block ?_
     refine e_next ?_
     refine c_region ?_
     refine r_val .none rfl (p_add rfl rfl (by omega)) ?_
     refine r_val .none rfl (p_move rfl) ?_
     refine r_nil ?_
     refine e_round (2) ⟨Nat.le_of_ble_eq_true rfl, Nat.le_of_ble_eq_true rfl⟩ rfl ⟨rfl, rfl, rfl, rfl, trivial⟩ (.drop (.keep (fun _ _ h => box_congr (fun i hi => by match i, hi with | 0, _ => exact congrArg (Value.int .i64) (key_else (h := hh) (f := 1) (i := 0) (by decide)).symm | 1, _ => exact (by first | exact congrArg (Value.int .i64) (key_set (h := hh) (f := 1) hv).symm | exact congrArg (Value.int .i64) ((show keyTo hh 1 1 = 0 by simp [keyTo]).trans (key_not (h := hh) (f := 1) hv).symm)) | 2, _ => exact congrArg (Value.int .i64) (key_else (h := hh) (f := 1) (i := 2) (by decide)).symm) _ _ h) (.keep (fun _ _ h => h) (.keep (fun _ _ h => h) (.nil)))))
     )
 ·
  refine c_seq ?_
  refine c_region ?_
  refine r_val .none rfl (p_lt rfl rfl) ?_
  refine r_say (d := 8) (v := Value.bool true) rfl ?_
  refine r_nil ?_
  refine e_next ?_
  refine c_seq ?_
  refine c_cond_t rfl ?_
  refine c_skip ?_
  refine e_next ?_
  refine c_seq ?_
  refine c_block ?_
  refine c_seq ?_
  refine c_region ?_
  refine r_val .none rfl (p_move rfl) ?_
  refine r_val .none rfl (p_indexa (k := 2) Try.underlying36 Try.underlying35 rfl sz35 rfl (IsRow.lit _) rfl rfl (by first | exact of_decide_eq_true rfl | omega) (rfl : _ = Value.agg #[_, _])) ?_
  refine r_alloc .none rfl zr35 (IsRow.lit _) (fun b_6 => ?_)
  refine r_val .none rfl (p_assign rfl) ?_
  refine r_stw (k := 0) .none sz35 rfl rfl (IsRow.lit _) (one_lit rfl rfl) rfl ?_
  refine r_nil ?_
  refine e_next ?_
  refine c_seq ?_
  refine c_region ?_
  refine r_val .none rfl (p_field Try.underlying35 rfl sz4 rfl) ?_
  refine r_val .none rfl (p_ld (k := 0) Try.underlying4 rfl rfl rfl (by first | exact of_decide_eq_true rfl | omega) (rfl : _ = Value.bool _)) ?_
  refine r_val .none rfl (p_not rfl) ?_
  refine r_nil ?_
  refine e_next ?_
  refine c_splitn (d := 13) rfl (fun h_8 => ?_) (fun h_8 => ?_)
  ·
   have hv : vF hh 2 = false := h_8
   first
    | (exfalso; omega)
    | (
     refine c_cond_t rfl ?_
     refine c_region ?_
     refine r_val .none rfl (p_move rfl) ?_
     refine r_val .none rfl (p_field Try.underlying35 rfl sz3 rfl) ?_
     refine r_val .none rfl (p_ld (k := 0) Try.underlying3 rfl rfl rfl (by first | exact of_decide_eq_true rfl | omega) (rfl : _ = Value.int _ _)) ?_
     refine r_val .none rfl (p_iaddr (k := 2) Try.underlying61 sz3 rfl rfl (by first | exact of_decide_eq_true rfl | omega)) ?_
     refine r_st (k := 1) .none sz3 rfl rfl rfl rfl (by first | exact of_decide_eq_true rfl | omega) ?_
     refine r_nil ?_
     refine e_norm_block ?_
     refine e_next ?_
     refine c_region ?_
     refine r_val .none rfl (p_add rfl rfl (by omega)) ?_
     refine r_val .none rfl (p_move rfl) ?_
     refine r_nil ?_
     refine e_round (3) ⟨Nat.le_of_ble_eq_true rfl, Nat.le_of_ble_eq_true rfl⟩ rfl ⟨rfl, rfl, rfl, rfl, trivial⟩ (.drop (.keep (fun _ _ h => box_congr (fun i hi => by match i, hi with | 0, _ => exact congrArg (Value.int .i64) (key_else (h := hh) (f := 2) (i := 0) (by decide)).symm | 1, _ => exact congrArg (Value.int .i64) (key_else (h := hh) (f := 2) (i := 1) (by decide)).symm | 2, _ => exact (by first | exact congrArg (Value.int .i64) (key_set (h := hh) (f := 2) hv).symm | exact congrArg (Value.int .i64) ((show keyTo hh 2 2 = 0 by simp [keyTo]).trans (key_not (h := hh) (f := 2) hv).symm))) _ _ h) (.keep (fun _ _ h => h) (.keep (fun _ _ h => h) (.nil)))))
     )
  ·
   have hv : vF hh 2 = true := h_8
   first
    | (exfalso; omega)
    | (
     refine c_cond_f rfl ?_
     refine c_skip ?_
     refine e_norm_block ?_
     refine e_next ?_
     refine c_region ?_
     refine r_val .none rfl (p_add rfl rfl (by omega)) ?_
     refine r_val .none rfl (p_move rfl) ?_
     refine r_nil ?_
     refine e_round (3) ⟨Nat.le_of_ble_eq_true rfl, Nat.le_of_ble_eq_true rfl⟩ rfl ⟨rfl, rfl, rfl, rfl, trivial⟩ (.drop (.keep (fun _ _ h => box_congr (fun i hi => by match i, hi with | 0, _ => exact congrArg (Value.int .i64) (key_else (h := hh) (f := 2) (i := 0) (by decide)).symm | 1, _ => exact congrArg (Value.int .i64) (key_else (h := hh) (f := 2) (i := 1) (by decide)).symm | 2, _ => exact (by first | exact congrArg (Value.int .i64) (key_set (h := hh) (f := 2) hv).symm | exact congrArg (Value.int .i64) ((show keyTo hh 2 2 = 0 by simp [keyTo]).trans (key_not (h := hh) (f := 2) hv).symm))) _ _ h) (.keep (fun _ _ h => h) (.keep (fun _ _ h => h) (.nil)))))
     )
 ·
  refine c_seq ?_
  refine c_region ?_
  refine r_val .none rfl (p_lt rfl rfl) ?_
  refine r_say (d := 8) (v := Value.bool false) rfl ?_
  refine r_nil ?_
  refine e_next ?_
  refine c_seq ?_
  refine c_cond_f rfl ?_
  refine c_exit ?_
  refine e_exit_then ?_
  refine e_exit_then ?_
  refine e_exit_block ?_
  refine e_next ?_
  refine c_seq ?_
  refine c_region ?_
  refine r_val .none rfl (p_ldw (k := 0) Try.underlying61 rfl sz61 rfl rfl (rfl : _ = Value.agg #[_, _, _])) ?_
  refine r_stw (k := 1) .none sz61 rfl rfl (IsRow.lit _) (one_lit rfl rfl) rfl ?_
  refine r_nil ?_
  refine e_next ?_
  refine c_ret ?_
  refine e_ret1 Try.results52 (.cell (k := 1) rfl Try.underlying61 rfl sz61 rfl (rfl : _ = Value.agg #[_, _, _]) .nil) (fun w hm => ⟨?_, hm.since⟩)
  rfl
theorem c_idxT (v : Value) (zs : List TT) (t : TT) {G : Ghost} (hr : SlL G v 2 tmC tt0 zs) (w : World) (hG : Has G w) :
  Calls Try.prog 74 #[v, Value.agg #[Value.bool t.1, Value.int .i64 t.2]] w (Ret fun r w' => r = Value.int .i64 (idxF (sameT t) zs 0) ∧ Since nX w w') := by
 refine enter (args := [_, _]) (X := nX) (G := G) (l := [(0, v), (1, Value.agg #[Value.bool t.1, Value.int .i64 t.2])]) Try.func74 rfl Try.ntmps74 hG ⟨rfl, rfl, trivial⟩ (Nat.le_of_ble_eq_true rfl) ?_
 have hbd := hr.bound
 refine c_seq ?_
 refine c_region ?_
 refine r_box .none rfl rfl (IsRow.lit _) (fun b_1 => ?_)
 refine r_val .none rfl (p_assign rfl) ?_
 refine r_nil ?_
 refine e_next ?_
 refine c_seq ?_
 refine c_seq ?_
 refine c_region ?_
 refine r_val .none rfl (p_move rfl) ?_
 refine r_val .none rfl (p_leng Try.underlying124 rfl hr) ?_
 have bd_1 := (hr).bound
 refine r_val .none rfl (p_move rfl) ?_
 refine r_nil ?_
 refine e_next ?_
 refine c_block ?_
 refine c_name (d := 0) rfl (fun u_2 hu_2 => ?_)
 refine c_name (d := 3) rfl (fun u_3 hu_3 => ?_)
 refine c_name (d := 7) rfl (fun u_4 hu_4 => ?_)
 refine c_nameL (k := 0) rfl (fun A_5 hA_5 => ?_)
 refine c_loop (σ := Nat) (fun k => [(8, Value.int .i64 (k : Nat)), (0, u_2), (3, u_3), (7, u_4)]) (fun k => [A_5]) (fun _ => _) (fun k => k ≤ zs.length ∧ idxF (sameT t) (zs.drop k) k = idxF (sameT t) zs 0) (fun k => zs.length - k) (0) ⟨Nat.zero_le _, rfl⟩ rfl ⟨rfl, rfl, rfl, rfl, trivial⟩ (.keep (fun _ _ h => h) (.nil)) (fun k hphi => ?_)
 subst hu_2
 subst hu_3
 subst hu_4
 subst hA_5
 refine c_seq ?_
 refine c_region ?_
 refine r_val .none rfl (p_lt rfl rfl) ?_
 refine r_nil ?_
 refine e_next ?_
 refine c_seq ?_
 refine c_splitd (d := 9) rfl (fun h_6 => ?_) (fun h_6 => ?_)
 ·
  first
   | (exfalso; omega)
   | (
    refine c_cond_t rfl ?_
    refine c_skip ?_
    refine e_next ?_
    refine c_seq ?_
    refine c_block ?_
    refine c_seq ?_
    refine c_region ?_
    refine r_val .none rfl (p_move rfl) ?_
    refine r_val .none rfl (p_assign rfl) ?_
    refine r_nil ?_
    refine e_next ?_
    refine c_seq ?_
    refine c_region_q mixed (by kernel_rfl) ?_
    refine q_val .none rfl (p_ldw (k := 0) Try.underlying35 rfl sz35 rfl rfl (rfl : _ = Value.agg #[_, _])) ?_
    refine q_val .none rfl (p_move rfl) ?_
    refine q_val .none rfl (p_move rfl) ?_
    refine q_iaddr_g .none rfl Try.underlying124 sz35 rfl hr rfl (by first | exact of_decide_eq_true rfl | omega) (fun p_8 o_9 R_7 => ?_)
    refine q_val .none rfl (p_ldga0 Try.underlying35 rfl sz35 rfl R_7 (by first | exact of_decide_eq_true rfl | omega) (rfl : _ = Value.agg #[_, _])) ?_
    refine q_val .none rfl (p_eqa rfl rfl (eq_flat Try.underlying35 rfl lf35 ef35 eg35 (.cons (.bool Try.underlying4) (.cons (.int Try.underlying3) (.nil))) (.cons (.bool Try.underlying4) (.cons (.int Try.underlying3) (.nil))))) ?_
    refine q_nil ?_
    refine e_next ?_
    refine c_split (d := 16) rfl (fun h_10 => ?_) (fun h_10 => ?_)
    ·
     have hE : sameT t (zs.getD k tt0) = true := h_10
     first
      | (exfalso; omega)
      | (
       refine c_cond_t rfl ?_
       refine c_seq ?_
       refine c_region ?_
       refine r_val .none rfl (p_move rfl) ?_
       refine r_val .none rfl (p_assign rfl) ?_
       refine r_nil ?_
       refine e_next ?_
       refine c_ret ?_
       refine e_ret_block ?_
       refine e_ret_then ?_
       refine e_ret_then ?_
       refine e_ret_block ?_
       refine e_ret_then ?_
       refine e_ret1 Try.results74 (.tmp rfl .nil) (fun w hm => ⟨?_, hm.since⟩)
       first
       | (rw [← hphi.2, idxF_yes (d := tt0) (by omega) hE])
       | (rw [← hphi.2, List.drop_eq_nil_of_le (by omega)]; rfl)
       )
    ·
     have hE : sameT t (zs.getD k tt0) = false := h_10
     first
      | (exfalso; omega)
      | (
       refine c_cond_f rfl ?_
       refine c_skip ?_
       refine e_norm_block ?_
       refine e_next ?_
       refine c_region ?_
       refine r_val .none rfl (p_add rfl rfl (by omega)) ?_
       refine r_val .none rfl (p_move rfl) ?_
       refine r_nil ?_
       refine e_round (k + 1) ⟨⟨by omega, by rw [← hphi.2, idxF_no (d := tt0) (by omega) hE]⟩, by omega⟩ rfl ⟨rfl, rfl, rfl, rfl, trivial⟩ (.keep (fun _ _ h => h) (.nil))
       )
    )
 ·
  first
   | (exfalso; omega)
   | (
    refine c_cond_f rfl ?_
    refine c_exit ?_
    refine e_exit_then ?_
    refine e_exit_then ?_
    refine e_exit_block ?_
    refine e_next ?_
    refine c_seq ?_
    refine c_region ?_
    refine r_val .none rfl (p_assign rfl) ?_
    refine r_nil ?_
    refine e_next ?_
    refine c_ret ?_
    refine e_ret1 Try.results74 (.tmp rfl .nil) (fun w hm => ⟨?_, hm.since⟩)
    first
    | (rw [← hphi.2, idxF_yes (d := tt0) (by omega) hE])
    | (rw [← hphi.2, List.drop_eq_nil_of_le (by omega)]; rfl)
    )
theorem c_own8 (c : CT) (sv : Value) (f : Nat) (hf : f < 3) (h1 : sv.oneCell' = true) (w : World)  :
  Calls Try.prog 68 #[Value.agg #[Value.int .i64 c.h.k, Value.bool c.h.v0, Value.int .i64 c.h.n0, Value.bool c.h.v1, Value.int .i64 c.h.n1, Value.bool c.h.v2, Value.int .i64 c.h.n2, sv], Value.int .i64 (f : Nat)] w (Ret fun r w' => r = Value.tuple #[Value.agg #[Value.int .i64 (f : Nat), Value.int .i64 (-1), Value.int .i64 (ownG c.h f)], Value.bool (decide (0 ≤ ownG c.h f))] ∧ Since nX w w') := by
 refine enter (args := [_, _]) (X := nX) (G := (fun _ => none)) (l := [(0, Value.agg #[Value.int .i64 c.h.k, Value.bool c.h.v0, Value.int .i64 c.h.n0, Value.bool c.h.v1, Value.int .i64 c.h.n1, Value.bool c.h.v2, Value.int .i64 c.h.n2, sv]), (1, Value.int .i64 (f : Nat))]) Try.func68 rfl Try.ntmps68 (fun _ _ h => by cases h) ⟨rfl, rfl, trivial⟩ (Nat.le_of_ble_eq_true rfl) ?_
 refine c_seq ?_
 refine c_region ?_
 refine r_box .none rfl rfl (IsRow.lit _) (fun b_1 => ?_)
 refine r_alloc .none rfl zr92 (IsRow.lit _) (fun b_2 => ?_)
 refine r_val .none rfl (p_assign rfl) ?_
 refine r_freezeX (k := 1) rfl (fun G_1 hn_2 hR_3 => ?_)
 have hR_4 : RowAt G_1 b_1 0 8 (at_ [Value.int .i64 c.h.k, Value.bool c.h.v0, Value.int .i64 c.h.n0, Value.bool c.h.v1, Value.int .i64 c.h.n1, Value.bool c.h.v2, Value.int .i64 c.h.n2, sv]) := RowAt.congr hR_3 (fun i hi => by match i, hi with | 0, _ => rfl | 1, _ => rfl | 2, _ => rfl | 3, _ => rfl | 4, _ => rfl | 5, _ => rfl | 6, _ => rfl | 7, _ => rfl)
 refine r_nil ?_
 refine e_next ?_
 refine c_seq ?_
 refine c_region_q mixed (by kernel_rfl) ?_
 refine q_val .none rfl (p_field Try.underlying38 rfl sz36 rfl) ?_
 refine q_val .none rfl (p_move rfl) ?_
 refine q_val .none rfl (p_slarr (m := f) Try.underlying36 sz35 rfl rfl (by first | exact of_decide_eq_true rfl | omega) (by decide)) ?_
 have hs_5 := slarr_g (n := 3) (m := f) (sz := 2) (RowAt.sub (j := 1) (m := 6) hR_4 (by decide)) (by first | exact of_decide_eq_true rfl | omega) (by decide)
 have hsl := terms_sl (h := c.h) hf hs_5
 refine q_val .none rfl (p_move rfl) ?_
 refine q_val .none rfl (p_field Try.underlying38 rfl sz36 rfl) ?_
 refine q_val .none rfl (p_iaddr (k := f) Try.underlying36 sz35 rfl rfl (by first | exact of_decide_eq_true rfl | omega)) ?_
 have R_6 := RowAt.sub (j := f * 2) (m := 2) (RowAt.sub (j := 1) (m := 6) hR_4 (by decide)) (by omega)
 refine q_val .none rfl (p_ldga0 Try.underlying35 rfl sz35 rfl R_6 (by first | exact of_decide_eq_true rfl | omega) (term_at hf)) ?_
 refine q_call (vs := [_, _]) .none rfl cl74 rfl (fun w hw => c_idxT _ _ (vF c.h f, nF c.h f) hsl w hw) ?_
 refine q_val .none rfl (p_assign rfl) ?_
 refine q_nil ?_
 refine e_next ?_
 refine c_seq ?_
 refine c_region ?_
 refine r_val .none rfl (p_move rfl) ?_
 refine r_val .none rfl (p_move rfl) ?_
 refine r_val .none rfl (p_build (vs := [(0, Value.int _ _), (1, Value.int _ _), (2, Value.int _ _)]) rfl (bl92_0i1_1i1_2i1 _ _ _)) ?_
 refine r_val .none rfl (p_move rfl) ?_
 refine r_val .none rfl (p_ge rfl rfl) ?_
 refine r_stw (k := 0) .none sz92 rfl rfl (IsRow.lit _) (one_lit rfl rfl) rfl ?_
 refine r_val .none rfl (p_assign rfl) ?_
 refine r_nil ?_
 refine e_next ?_
 refine c_ret ?_
 refine e_retn Try.results68 (.cell (k := 0) rfl Try.underlying92 rfl sz92 rfl (rfl : _ = Value.agg #[_, _, _]) (.tmp rfl .nil)) rfl (fun w hm => ⟨?_, hm.since⟩)
 rfl
theorem c_tst1 (x : PL) (b : Bool) (n : Int) (p : Nat) {G : Ghost} (hR : RowAt G p 0 2 (at_ [Value.bool b, Value.int .i64 n])) (w : World) (hG : Has G w) :
  Calls Try.prog 67 #[Value.agg #[Value.int .i64 x.1, Value.int .i64 x.2.1, Value.int .i64 x.2.2], Value.pointer (some ⟨p, 0, none⟩)] w (Ret fun r w' => r = Value.bool (isV n x) ∧ Since nX w w') := by
 refine enter (args := [_, _]) (X := nX) (G := G) (l := [(0, Value.agg #[Value.int .i64 x.1, Value.int .i64 x.2.1, Value.int .i64 x.2.2]), (1, Value.pointer (some ⟨p, 0, none⟩))]) Try.func67 rfl Try.ntmps67 hG ⟨rfl, rfl, trivial⟩ (Nat.le_of_ble_eq_true rfl) ?_
 refine c_seq ?_
 refine c_region ?_
 refine r_box .none rfl rfl (IsRow.lit _) (fun b_1 => ?_)
 refine r_val .none rfl (p_assign rfl) ?_
 refine r_nil ?_
 refine e_next ?_
 refine c_seq ?_
 refine c_region ?_
 refine r_val .none rfl (p_field Try.underlying84 rfl sz3 rfl) ?_
 refine r_val .none rfl (p_ld (k := 0) Try.underlying3 rfl rfl rfl (by first | exact of_decide_eq_true rfl | omega) (rfl : _ = Value.int _ _)) ?_
 refine r_val .none rfl (p_field Try.underlying35 rfl sz3 rfl) ?_
 refine r_val .none rfl (p_ldg (j := 1) Try.underlying3 rfl rfl hR (by first | exact of_decide_eq_true rfl | omega) (rfl : _ = Value.int _ _)) ?_
 refine r_val .none rfl (p_eq rfl rfl) ?_
 refine r_val .none rfl (p_assign rfl) ?_
 refine r_nil ?_
 refine e_next ?_
 refine c_ret ?_
 refine e_ret1 Try.results67 (.tmp rfl .nil) (fun w hm => ⟨?_, hm.since⟩)
 rfl
theorem c_tests8 (va : Value) (l : List CT) (c : CT) (sv : Value) {G : Ghost} (hlen : l.length ≤ 1000) (hs : Cs G va l) (h1 : sv.oneCell' = true) (w : World) (hG : Has G w) :
  Calls Try.prog 53 #[va, Value.agg #[Value.int .i64 c.h.k, Value.bool c.h.v0, Value.int .i64 c.h.n0, Value.bool c.h.v1, Value.int .i64 c.h.n1, Value.bool c.h.v2, Value.int .i64 c.h.n2, sv]] w (Ret fun r w' => ∃ H : Ghost, (∀ b, H b ≠ none → w.heap.size ≤ b) ∧ Has H w' ∧ SlL H r 3 tC t0 (testsTo l c.h 3) ∧ Since nX w w') := by
 refine enter (args := [_, _]) (X := nX) (G := G) (l := [(0, va), (1, Value.agg #[Value.int .i64 c.h.k, Value.bool c.h.v0, Value.int .i64 c.h.n0, Value.bool c.h.v1, Value.int .i64 c.h.n1, Value.bool c.h.v2, Value.int .i64 c.h.n2, sv])]) Try.func53 rfl Try.ntmps53 hG ⟨rfl, rfl, trivial⟩ (Nat.le_of_ble_eq_true rfl) ?_
 refine c_seq ?_
 refine c_region ?_
 refine r_box .none rfl rfl (IsRow.lit _) (fun b_1 => ?_)
 refine r_val .none rfl (p_assign rfl) ?_
 refine r_nil ?_
 refine e_next ?_
 refine c_seq ?_
 refine c_region ?_
 refine r_val .none rfl (p_move rfl) ?_
 refine r_callm (vs := [_]) .none rfl cl41 rfl (fun w hw => c_bnd _ _ hlen hs w hw) (fun G_1 v_4 hn_2 hr_3 => ?_)
 replace hs := hs.mono hn_2.le
 obtain ⟨zs, hzp, hzs, hzq⟩ := hr_3
 refine r_val .none rfl (p_assign rfl) ?_
 refine r_nil ?_
 refine e_next ?_
 refine c_seq ?_
 refine c_region ?_
 refine r_val .none rfl (p_assign rfl) ?_
 refine r_nil ?_
 refine e_next ?_
 refine c_seq ?_
 refine c_seq ?_
 refine c_region ?_
 refine r_val .none rfl (p_field Try.underlying38 rfl sz36 rfl) ?_
 refine r_val .none rfl (p_lda (k := 0) Try.underlying36 rfl sz36 rfl rfl (by first | exact of_decide_eq_true rfl | omega) (rfl : _ = Value.agg #[_, _, _, _, _, _])) ?_
 refine r_val .none rfl (p_move rfl) ?_
 refine r_nil ?_
 refine e_next ?_
 refine c_block ?_
 refine c_nilrow 92 3 ?_
 refine c_name (d := 3) rfl (fun u_6 hu_6 => ?_)
 refine c_name (d := 4) rfl (fun u_7 hu_7 => ?_)
 refine c_name (d := 5) rfl (fun u_8 hu_8 => ?_)
 refine c_name (d := 15) rfl (fun u_9 hu_9 => ?_)
 refine c_nameL (k := 1) rfl (fun A_10 hA_10 => ?_)
 refine c_loop (σ := Nat × Value × Ghost) (fun s => [(16, Value.int .i64 (s.1 : Nat)), (6, s.2.1), (3, u_6), (4, u_7), (5, u_8), (15, u_9)]) (fun s => [rowA (s.2.1) 92 3 ((testsTo l c.h s.1)).length (((testsTo l c.h s.1)).flatMap tC), A_10]) (fun s => s.2.2) (fun s => s.1 ≤ 3 ∧ GNew w nX G_1 s.2.2) (fun s => 3 - s.1) ((0, _, _)) ⟨Nat.zero_le _, GNew.refl _ _ _⟩ rfl ⟨rfl, rfl, rfl, rfl, rfl, rfl, trivial⟩ (.keep (fun _ _ h => rowA_nil rfl _ _ h) (.keep (fun _ _ h => h) (.nil))) (fun s hphi => ?_)
 subst hu_6
 subst hu_7
 subst hu_8
 subst hu_9
 subst hA_10
 obtain ⟨f, v, H⟩ := s
 obtain ⟨hf, hgn⟩ := hphi
 dsimp only at hf hgn ⊢
 refine c_row1 (k := 0) rfl (fun ov => ?_)
 refine c_rowlen (k := 0) rfl (fun l63 => ?_)
 replace hs := hs.mono hgn.le
 replace hzq := hzq.mono hgn.le
 obtain rfl | rfl | rfl | rfl : f = 0 ∨ f = 1 ∨ f = 2 ∨ f = 3 := by omega
 ·
  refine c_seq ?_
  refine c_region ?_
  refine r_val .none rfl (p_lt rfl rfl) ?_
  refine r_say (d := 17) (v := Value.bool true) rfl ?_
  refine r_nil ?_
  refine e_next ?_
  refine c_seq ?_
  refine c_cond_t rfl ?_
  refine c_skip ?_
  refine e_next ?_
  refine c_seq ?_
  refine c_block ?_
  refine c_seq ?_
  refine c_region ?_
  refine r_val .none rfl (p_move rfl) ?_
  refine r_val .none rfl (p_indexa (k := 0) Try.underlying36 Try.underlying35 rfl sz35 rfl (IsRow.lit _) rfl rfl (by first | exact of_decide_eq_true rfl | omega) (rfl : _ = Value.agg #[_, _])) ?_
  refine r_alloc .none rfl zr35 (IsRow.lit _) (fun b_2 => ?_)
  refine r_val .none rfl (p_assign rfl) ?_
  refine r_stw (k := 0) .none sz35 rfl rfl (IsRow.lit _) (one_lit rfl rfl) rfl ?_
  refine r_nil ?_
  refine e_next ?_
  refine c_seq ?_
  refine c_seq ?_
  refine c_region ?_
  refine r_freezeX (k := 0) rfl (fun G_11 hn_12 hR_13 => ?_)
  replace hs := hs.mono hn_12.le
  replace hzq := hzq.mono hn_12.le
  have hR_14 : RowAt G_11 b_2 0 2 (at_ [Value.bool (vF c.h 0), Value.int .i64 (nF c.h 0)]) := RowAt.congr hR_13 (fun i hi => by match i, hi with | 0, _ => rfl | 1, _ => rfl)
  refine r_val .none rfl (p_field Try.underlying35 rfl sz4 rfl) ?_
  refine r_val .none rfl (p_ldg (j := 0) Try.underlying4 rfl rfl hR_14 (by first | exact of_decide_eq_true rfl | omega) (rfl : _ = Value.bool _)) ?_
  refine r_val .none rfl (p_not rfl) ?_
  refine r_nil ?_
  refine e_next ?_
  refine c_splitn (d := 22) rfl (fun h_15 => ?_) (fun h_15 => ?_)
  ·
   have hv : vF c.h 0 = false := h_15
   first
    | (exfalso; omega)
    | (
     refine c_cond_t rfl ?_
     refine c_exit ?_
     refine e_exit_then ?_
     refine e_exit_block ?_
     refine e_next ?_
     refine c_region ?_
     refine r_val .none rfl (p_add rfl rfl (by omega)) ?_
     refine r_val .none rfl (p_move rfl) ?_
     refine r_nil ?_
     refine e_round ((1, _, _)) ⟨⟨Nat.le_of_ble_eq_true rfl, (hgn.trans hn_12)⟩, Nat.le_of_ble_eq_true rfl⟩ rfl ⟨rfl, rfl, rfl, rfl, rfl, rfl, trivial⟩ (.keep (fun _ _ h => rowA_same (by show testsTo l c.h (0 + 1) = _; rw [testsTo_succ, (by first | exact T1 hv | exact testF_n hv hbn hdn : testF l c.h 0 = []), List.append_nil]) _ _ h) (.keep (fun _ _ h => h) (.nil)))
     )
  ·
   have hv : vF c.h 0 = true := h_15
   first
    | (exfalso; omega)
    | (
     refine c_cond_f rfl ?_
     refine c_skip ?_
     refine e_next ?_
     refine c_seq ?_
     refine c_region ?_
     refine r_val .none rfl (p_move rfl) ?_
     refine r_val .none rfl (p_mkfunc (vs := [_]) rfl) ?_
     refine r_call (vs := [_, _]) .none rfl cl66 rfl (fun w hw => c_idxP _ _ _ _ _ hzq cl67 (fun x w hw => c_tst1 x _ _ _ hR_14 w hw) w hw) ?_
     refine r_val .none rfl (p_assign rfl) ?_
     refine r_nil ?_
     refine e_next ?_
     refine c_seq ?_
     refine c_region ?_
     refine r_val .none rfl (p_move rfl) ?_
     refine r_val .none rfl (p_ge rfl rfl) ?_
     refine r_nil ?_
     refine e_next ?_
     refine c_splitd (d := 27) rfl (fun h_16 => ?_) (fun h_16 => ?_)
     ·
      obtain ⟨i, hi1, hi2, hi3⟩ := idxF_some t0 (Int.le_refl 0) (h_16)
      rw [Int.zero_add] at hi1
      have hbd := found_bound hzp hi2 hi3
      first
       | (exfalso; omega)
       | (
        refine c_cond_t rfl ?_
        refine c_region_d (fun j => [14, 15].contains j) _ mixed (.keep (fun _ _ h => h) (.keep (fun _ _ h => h) (.nil))) ?_
        refine d_val1 0 rfl rfl (by kernel_rfl) (fun j hj => by have h : 15 < j := (Nat.lt_of_lt_of_le (by decide : 15 < 16) hj); simp; omega) .none rfl (p_move rfl) ?_
        refine d_val1 1 rfl rfl (by kernel_rfl) (fun j hj => by have h : 15 < j := (Nat.lt_of_lt_of_le (by decide : 15 < 16) hj); simp; omega) .none rfl (p_move rfl) ?_
        refine d_val1 2 rfl rfl (by kernel_rfl) (fun j hj => by have h : 15 < j := (Nat.lt_of_lt_of_le (by decide : 15 < 16) hj); simp; omega) .none rfl (p_move rfl) ?_
        refine d_val1 3 rfl rfl (by kernel_rfl) (fun j hj => by have h : 15 < j := (Nat.lt_of_lt_of_le (by decide : 15 < 16) hj); simp; omega) .none rfl (p_move rfl) ?_
        refine d_say (d := 31) (v := Value.int .i64 ((i : Nat) : Int)) (congrArg (fun x => some (Value.int .i64 x)) (by first | exact hi1 | omega)) ?_
        refine d_iaddr_g 4 rfl rfl (by kernel_rfl) (fun j hj => by have h : 15 < j := (Nat.lt_of_lt_of_le (by decide : 15 < 16) hj); simp; omega) .none rfl Try.underlying81 sz84 rfl hzq rfl (by first | exact of_decide_eq_true rfl | omega) (fun p_18 o_19 R_17 => ?_)
        refine d_val1 5 rfl rfl (by kernel_rfl) (fun j hj => by have h : 15 < j := (Nat.lt_of_lt_of_le (by decide : 15 < 16) hj); simp; omega) .none rfl (p_field Try.underlying84 rfl sz3 rfl) ?_
        refine d_val1 6 rfl rfl (by kernel_rfl) (fun j hj => by have h : 15 < j := (Nat.lt_of_lt_of_le (by decide : 15 < 16) hj); simp; omega) .none rfl (p_ldg (j := 1) Try.underlying3 rfl rfl R_17 (by first | exact of_decide_eq_true rfl | omega) (rfl : _ = Value.int _ _)) ?_
        refine d_val1 7 rfl rfl (by kernel_rfl) (fun j hj => by have h : 15 < j := (Nat.lt_of_lt_of_le (by decide : 15 < 16) hj); simp; omega) .none rfl (p_move rfl) ?_
        refine d_val1 8 rfl rfl (by kernel_rfl) (fun j hj => by have h : 15 < j := (Nat.lt_of_lt_of_le (by decide : 15 < 16) hj); simp; omega) .none rfl (p_move rfl) ?_
        refine d_say (d := 36) (v := Value.int .i64 ((i : Nat) : Int)) (congrArg (fun x => some (Value.int .i64 x)) (by first | exact hi1 | omega)) ?_
        refine d_iaddr_g 9 rfl rfl (by kernel_rfl) (fun j hj => by have h : 15 < j := (Nat.lt_of_lt_of_le (by decide : 15 < 16) hj); simp; omega) .none rfl Try.underlying81 sz84 rfl hzq rfl (by first | exact of_decide_eq_true rfl | omega) (fun p_21 o_22 R_20 => ?_)
        refine d_val1 10 rfl rfl (by kernel_rfl) (fun j hj => by have h : 15 < j := (Nat.lt_of_lt_of_le (by decide : 15 < 16) hj); simp; omega) .none rfl (p_field Try.underlying84 rfl sz3 rfl) ?_
        refine d_val1 11 rfl rfl (by kernel_rfl) (fun j hj => by have h : 15 < j := (Nat.lt_of_lt_of_le (by decide : 15 < 16) hj); simp; omega) .none rfl (p_ldg (j := 2) Try.underlying3 rfl rfl R_20 (by first | exact of_decide_eq_true rfl | omega) (rfl : _ = Value.int _ _)) ?_
        refine d_val1 12 rfl rfl (by kernel_rfl) (fun j hj => by have h : 15 < j := (Nat.lt_of_lt_of_le (by decide : 15 < 16) hj); simp; omega) .none rfl (p_build (vs := [(0, Value.int _ _), (1, Value.int _ _), (2, Value.int _ _)]) rfl (bl92_0i1_1i1_2i1 _ _ _)) ?_
        refine d_eff 13 rfl (by kernel_rfl) (fun K_23 hKK_23 hcK_23 => ?_)
        refine r_bslice (vs := [(0, Value.agg #[_, _, _])]) (c := #[_, _, _]) .none rfl Try.underlying62 el92 rfl rfl rfl (bs92_10a3 _ _ _) (IsRow.lit _) (fun b_3 => ?_)
        refine r_nil (e_d (i := 13) (brk := (fun j => [14, 15].contains j)) (ph' := true) hKK_23 hcK_23 rfl (fun _ => GLe.refl _) (fun _ => .drop (.keep (fun _ _ h => h) (.keep (fun _ _ h => h) (.nil)))) ?_)
        clear hKK_23 hcK_23 K_23
        refine d_eff 14 rfl (by kernel_rfl) (fun K_24 hKK_24 hcK_24 => ?_)
        refine r_append (k := 1) (k2 := 0) .none rfl Try.underlying62 el92 rfl (by decide) rfl rfl rfl rfl rfl (one_lit rfl rfl) (by have q0 := testsTo_len l c.h 0; have q1 := testsTo_len l c.h 1; have q2 := testsTo_len l c.h 2; simp only [maxLen]; omega) (by have q0 := testsTo_len l c.h 0; have q1 := testsTo_len l c.h 1; have q2 := testsTo_len l c.h 2; omega) (fun v_25 => ?_)
        refine r_row1 (k := 1) rfl (fun o_26 => ?_)
        refine r_nil (e_d (i := 14) (brk := (fun j => [14, 15].contains j)) (ph' := false) hKK_24 hcK_24 rfl (fun h => by cases h) (fun h => by cases h) ?_)
        clear hKK_24 hcK_24 K_24
        refine d_val2 15 rfl rfl (by kernel_rfl) .none rfl (fun _ => p_assign rfl) ?_
        refine d_nil (by kernel_rfl) ?_
        refine e_norm_block ?_
        refine e_next ?_
        refine c_region ?_
        refine r_val .none rfl (p_add rfl rfl (by omega)) ?_
        refine r_val .none rfl (p_move rfl) ?_
        refine r_nil ?_
        refine e_round ((1, _, _)) ⟨⟨Nat.le_of_ble_eq_true rfl, (hgn.trans hn_12)⟩, Nat.le_of_ble_eq_true rfl⟩ rfl ⟨rfl, rfl, rfl, rfl, rfl, rfl, trivial⟩ (.drop (.keep (fun _ _ h => rowA_snoc (l := testsTo l c.h 0) (x := (((0 : Nat) : Int), (zs.getD i t0).2.1, (zs.getD i t0).2.2)) (by show testsTo l c.h (0 + 1) = _; rw [testsTo_succ, testF_b hv hbd]) rfl rfl rfl _ _ h) (.keep (fun _ _ h => h) (.nil))))
        )
     ·
      have hbn := found_none hzp (h_16)
      first
       | (exfalso; omega)
       | (
        refine c_cond_f rfl ?_
        refine c_seq ?_
        refine c_region ?_
        refine r_val .none rfl (p_ldw (k := 1) Try.underlying38 rfl sz38 rfl rfl (rfl : _ = Value.agg #[_, _, _, _, _, _, _, _])) ?_
        refine r_val .none rfl (p_move rfl) ?_
        refine r_call (vs := [_, _]) .none rfl cl68 rfl (fun w hw => c_own8 c sv 0 (by decide) h1 w) ?_
        refine r_val .none rfl (p_move rfl) ?_
        refine r_val .none rfl (p_extract rfl rfl) ?_
        refine r_val .none rfl (p_extract rfl rfl) ?_
        refine r_alloc .none rfl zr92 (IsRow.lit _) (fun b_4 => ?_)
        refine r_stw (k := 0) .none sz92 rfl rfl (IsRow.lit _) (one_lit rfl rfl) rfl ?_
        refine r_val .none rfl (p_assign rfl) ?_
        refine r_nil ?_
        refine e_next ?_
        refine c_seq ?_
        refine c_region ?_
        refine r_val .none rfl (p_move rfl) ?_
        refine r_nil ?_
        refine e_next ?_
        refine c_splitd (d := 49) rfl (fun h_27 => ?_) (fun h_27 => ?_)
        ·
         have hdp := dup_some (h := c.h) (f := 0) (by decide) (h_27)
         first
          | (exfalso; omega)
          | (
           refine c_cond_t rfl ?_
           refine c_region ?_
           refine r_val .none rfl (p_move rfl) ?_
           refine r_val .none rfl (p_ldw (k := 0) Try.underlying92 rfl sz92 rfl rfl (rfl : _ = Value.agg #[_, _, _])) ?_
           refine r_bslice (vs := [(0, Value.agg #[_, _, _])]) (c := #[_, _, _]) .none rfl Try.underlying62 el92 rfl rfl rfl (bs92_10a3 _ _ _) (IsRow.lit _) (fun b_5 => ?_)
           refine r_append (k := 2) (k2 := 0) .none rfl Try.underlying62 el92 rfl (by decide) rfl rfl rfl rfl rfl (one_lit rfl rfl) (by have q0 := testsTo_len l c.h 0; have q1 := testsTo_len l c.h 1; have q2 := testsTo_len l c.h 2; simp only [maxLen]; omega) (by have q0 := testsTo_len l c.h 0; have q1 := testsTo_len l c.h 1; have q2 := testsTo_len l c.h 2; omega) (fun v_28 => ?_)
           refine r_row1 (k := 2) rfl (fun o_29 => ?_)
           refine r_val .none rfl (p_assign rfl) ?_
           refine r_nil ?_
           refine e_norm_block ?_
           refine e_next ?_
           refine c_region ?_
           refine r_val .none rfl (p_add rfl rfl (by omega)) ?_
           refine r_val .none rfl (p_move rfl) ?_
           refine r_nil ?_
           refine e_round ((1, _, _)) ⟨⟨Nat.le_of_ble_eq_true rfl, (hgn.trans hn_12)⟩, Nat.le_of_ble_eq_true rfl⟩ rfl ⟨rfl, rfl, rfl, rfl, rfl, rfl, trivial⟩ (.drop (.drop (.keep (fun _ _ h => rowA_snoc (l := testsTo l c.h 0) (x := (((0 : Nat) : Int), -1, ownG c.h 0)) (by show testsTo l c.h (0 + 1) = _; rw [testsTo_succ, testF_d hv hbn hdp]) rfl rfl rfl _ _ h) (.keep (fun _ _ h => h) (.nil)))))
           )
        ·
         have hdn := dup_none (h := c.h) (f := 0) (by decide) (h_27)
         first
          | (exfalso; omega)
          | (
           refine c_cond_f rfl ?_
           refine c_skip ?_
           refine e_norm_block ?_
           refine e_next ?_
           refine c_region ?_
           refine r_val .none rfl (p_add rfl rfl (by omega)) ?_
           refine r_val .none rfl (p_move rfl) ?_
           refine r_nil ?_
           refine e_round ((1, _, _)) ⟨⟨Nat.le_of_ble_eq_true rfl, (hgn.trans hn_12)⟩, Nat.le_of_ble_eq_true rfl⟩ rfl ⟨rfl, rfl, rfl, rfl, rfl, rfl, trivial⟩ (.drop (.keep (fun _ _ h => rowA_same (by show testsTo l c.h (0 + 1) = _; rw [testsTo_succ, (by first | exact T1 hv | exact testF_n hv hbn hdn : testF l c.h 0 = []), List.append_nil]) _ _ h) (.keep (fun _ _ h => h) (.nil))))
           )
        )
     )
 ·
  refine c_seq ?_
  refine c_region ?_
  refine r_val .none rfl (p_lt rfl rfl) ?_
  refine r_say (d := 17) (v := Value.bool true) rfl ?_
  refine r_nil ?_
  refine e_next ?_
  refine c_seq ?_
  refine c_cond_t rfl ?_
  refine c_skip ?_
  refine e_next ?_
  refine c_seq ?_
  refine c_block ?_
  refine c_seq ?_
  refine c_region ?_
  refine r_val .none rfl (p_move rfl) ?_
  refine r_val .none rfl (p_indexa (k := 1) Try.underlying36 Try.underlying35 rfl sz35 rfl (IsRow.lit _) rfl rfl (by first | exact of_decide_eq_true rfl | omega) (rfl : _ = Value.agg #[_, _])) ?_
  refine r_alloc .none rfl zr35 (IsRow.lit _) (fun b_6 => ?_)
  refine r_val .none rfl (p_assign rfl) ?_
  refine r_stw (k := 0) .none sz35 rfl rfl (IsRow.lit _) (one_lit rfl rfl) rfl ?_
  refine r_nil ?_
  refine e_next ?_
  refine c_seq ?_
  refine c_seq ?_
  refine c_region ?_
  refine r_freezeX (k := 0) rfl (fun G_30 hn_31 hR_32 => ?_)
  replace hs := hs.mono hn_31.le
  replace hzq := hzq.mono hn_31.le
  have hR_33 : RowAt G_30 b_6 0 2 (at_ [Value.bool (vF c.h 1), Value.int .i64 (nF c.h 1)]) := RowAt.congr hR_32 (fun i hi => by match i, hi with | 0, _ => rfl | 1, _ => rfl)
  refine r_val .none rfl (p_field Try.underlying35 rfl sz4 rfl) ?_
  refine r_val .none rfl (p_ldg (j := 0) Try.underlying4 rfl rfl hR_33 (by first | exact of_decide_eq_true rfl | omega) (rfl : _ = Value.bool _)) ?_
  refine r_val .none rfl (p_not rfl) ?_
  refine r_nil ?_
  refine e_next ?_
  refine c_splitn (d := 22) rfl (fun h_34 => ?_) (fun h_34 => ?_)
  ·
   have hv : vF c.h 1 = false := h_34
   first
    | (exfalso; omega)
    | (
     refine c_cond_t rfl ?_
     refine c_exit ?_
     refine e_exit_then ?_
     refine e_exit_block ?_
     refine e_next ?_
     refine c_region ?_
     refine r_val .none rfl (p_add rfl rfl (by omega)) ?_
     refine r_val .none rfl (p_move rfl) ?_
     refine r_nil ?_
     refine e_round ((2, _, _)) ⟨⟨Nat.le_of_ble_eq_true rfl, (hgn.trans hn_31)⟩, Nat.le_of_ble_eq_true rfl⟩ rfl ⟨rfl, rfl, rfl, rfl, rfl, rfl, trivial⟩ (.keep (fun _ _ h => rowA_same (by show testsTo l c.h (1 + 1) = _; rw [testsTo_succ, (by first | exact T1 hv | exact testF_n hv hbn hdn : testF l c.h 1 = []), List.append_nil]) _ _ h) (.keep (fun _ _ h => h) (.nil)))
     )
  ·
   have hv : vF c.h 1 = true := h_34
   first
    | (exfalso; omega)
    | (
     refine c_cond_f rfl ?_
     refine c_skip ?_
     refine e_next ?_
     refine c_seq ?_
     refine c_region ?_
     refine r_val .none rfl (p_move rfl) ?_
     refine r_val .none rfl (p_mkfunc (vs := [_]) rfl) ?_
     refine r_call (vs := [_, _]) .none rfl cl66 rfl (fun w hw => c_idxP _ _ _ _ _ hzq cl67 (fun x w hw => c_tst1 x _ _ _ hR_33 w hw) w hw) ?_
     refine r_val .none rfl (p_assign rfl) ?_
     refine r_nil ?_
     refine e_next ?_
     refine c_seq ?_
     refine c_region ?_
     refine r_val .none rfl (p_move rfl) ?_
     refine r_val .none rfl (p_ge rfl rfl) ?_
     refine r_nil ?_
     refine e_next ?_
     refine c_splitd (d := 27) rfl (fun h_35 => ?_) (fun h_35 => ?_)
     ·
      obtain ⟨i, hi1, hi2, hi3⟩ := idxF_some t0 (Int.le_refl 0) (h_35)
      rw [Int.zero_add] at hi1
      have hbd := found_bound hzp hi2 hi3
      first
       | (exfalso; omega)
       | (
        refine c_cond_t rfl ?_
        refine c_region_d (fun j => [14, 15].contains j) _ mixed (.keep (fun _ _ h => h) (.keep (fun _ _ h => h) (.nil))) ?_
        refine d_val1 0 rfl rfl (by kernel_rfl) (fun j hj => by have h : 15 < j := (Nat.lt_of_lt_of_le (by decide : 15 < 16) hj); simp; omega) .none rfl (p_move rfl) ?_
        refine d_val1 1 rfl rfl (by kernel_rfl) (fun j hj => by have h : 15 < j := (Nat.lt_of_lt_of_le (by decide : 15 < 16) hj); simp; omega) .none rfl (p_move rfl) ?_
        refine d_val1 2 rfl rfl (by kernel_rfl) (fun j hj => by have h : 15 < j := (Nat.lt_of_lt_of_le (by decide : 15 < 16) hj); simp; omega) .none rfl (p_move rfl) ?_
        refine d_val1 3 rfl rfl (by kernel_rfl) (fun j hj => by have h : 15 < j := (Nat.lt_of_lt_of_le (by decide : 15 < 16) hj); simp; omega) .none rfl (p_move rfl) ?_
        refine d_say (d := 31) (v := Value.int .i64 ((i : Nat) : Int)) (congrArg (fun x => some (Value.int .i64 x)) (by first | exact hi1 | omega)) ?_
        refine d_iaddr_g 4 rfl rfl (by kernel_rfl) (fun j hj => by have h : 15 < j := (Nat.lt_of_lt_of_le (by decide : 15 < 16) hj); simp; omega) .none rfl Try.underlying81 sz84 rfl hzq rfl (by first | exact of_decide_eq_true rfl | omega) (fun p_37 o_38 R_36 => ?_)
        refine d_val1 5 rfl rfl (by kernel_rfl) (fun j hj => by have h : 15 < j := (Nat.lt_of_lt_of_le (by decide : 15 < 16) hj); simp; omega) .none rfl (p_field Try.underlying84 rfl sz3 rfl) ?_
        refine d_val1 6 rfl rfl (by kernel_rfl) (fun j hj => by have h : 15 < j := (Nat.lt_of_lt_of_le (by decide : 15 < 16) hj); simp; omega) .none rfl (p_ldg (j := 1) Try.underlying3 rfl rfl R_36 (by first | exact of_decide_eq_true rfl | omega) (rfl : _ = Value.int _ _)) ?_
        refine d_val1 7 rfl rfl (by kernel_rfl) (fun j hj => by have h : 15 < j := (Nat.lt_of_lt_of_le (by decide : 15 < 16) hj); simp; omega) .none rfl (p_move rfl) ?_
        refine d_val1 8 rfl rfl (by kernel_rfl) (fun j hj => by have h : 15 < j := (Nat.lt_of_lt_of_le (by decide : 15 < 16) hj); simp; omega) .none rfl (p_move rfl) ?_
        refine d_say (d := 36) (v := Value.int .i64 ((i : Nat) : Int)) (congrArg (fun x => some (Value.int .i64 x)) (by first | exact hi1 | omega)) ?_
        refine d_iaddr_g 9 rfl rfl (by kernel_rfl) (fun j hj => by have h : 15 < j := (Nat.lt_of_lt_of_le (by decide : 15 < 16) hj); simp; omega) .none rfl Try.underlying81 sz84 rfl hzq rfl (by first | exact of_decide_eq_true rfl | omega) (fun p_40 o_41 R_39 => ?_)
        refine d_val1 10 rfl rfl (by kernel_rfl) (fun j hj => by have h : 15 < j := (Nat.lt_of_lt_of_le (by decide : 15 < 16) hj); simp; omega) .none rfl (p_field Try.underlying84 rfl sz3 rfl) ?_
        refine d_val1 11 rfl rfl (by kernel_rfl) (fun j hj => by have h : 15 < j := (Nat.lt_of_lt_of_le (by decide : 15 < 16) hj); simp; omega) .none rfl (p_ldg (j := 2) Try.underlying3 rfl rfl R_39 (by first | exact of_decide_eq_true rfl | omega) (rfl : _ = Value.int _ _)) ?_
        refine d_val1 12 rfl rfl (by kernel_rfl) (fun j hj => by have h : 15 < j := (Nat.lt_of_lt_of_le (by decide : 15 < 16) hj); simp; omega) .none rfl (p_build (vs := [(0, Value.int _ _), (1, Value.int _ _), (2, Value.int _ _)]) rfl (bl92_0i1_1i1_2i1 _ _ _)) ?_
        refine d_eff 13 rfl (by kernel_rfl) (fun K_42 hKK_42 hcK_42 => ?_)
        refine r_bslice (vs := [(0, Value.agg #[_, _, _])]) (c := #[_, _, _]) .none rfl Try.underlying62 el92 rfl rfl rfl (bs92_10a3 _ _ _) (IsRow.lit _) (fun b_7 => ?_)
        refine r_nil (e_d (i := 13) (brk := (fun j => [14, 15].contains j)) (ph' := true) hKK_42 hcK_42 rfl (fun _ => GLe.refl _) (fun _ => .drop (.keep (fun _ _ h => h) (.keep (fun _ _ h => h) (.nil)))) ?_)
        clear hKK_42 hcK_42 K_42
        refine d_eff 14 rfl (by kernel_rfl) (fun K_43 hKK_43 hcK_43 => ?_)
        refine r_append (k := 1) (k2 := 0) .none rfl Try.underlying62 el92 rfl (by decide) rfl rfl rfl rfl rfl (one_lit rfl rfl) (by have q0 := testsTo_len l c.h 0; have q1 := testsTo_len l c.h 1; have q2 := testsTo_len l c.h 2; simp only [maxLen]; omega) (by have q0 := testsTo_len l c.h 0; have q1 := testsTo_len l c.h 1; have q2 := testsTo_len l c.h 2; omega) (fun v_44 => ?_)
        refine r_row1 (k := 1) rfl (fun o_45 => ?_)
        refine r_nil (e_d (i := 14) (brk := (fun j => [14, 15].contains j)) (ph' := false) hKK_43 hcK_43 rfl (fun h => by cases h) (fun h => by cases h) ?_)
        clear hKK_43 hcK_43 K_43
        refine d_val2 15 rfl rfl (by kernel_rfl) .none rfl (fun _ => p_assign rfl) ?_
        refine d_nil (by kernel_rfl) ?_
        refine e_norm_block ?_
        refine e_next ?_
        refine c_region ?_
        refine r_val .none rfl (p_add rfl rfl (by omega)) ?_
        refine r_val .none rfl (p_move rfl) ?_
        refine r_nil ?_
        refine e_round ((2, _, _)) ⟨⟨Nat.le_of_ble_eq_true rfl, (hgn.trans hn_31)⟩, Nat.le_of_ble_eq_true rfl⟩ rfl ⟨rfl, rfl, rfl, rfl, rfl, rfl, trivial⟩ (.drop (.keep (fun _ _ h => rowA_snoc (l := testsTo l c.h 1) (x := (((1 : Nat) : Int), (zs.getD i t0).2.1, (zs.getD i t0).2.2)) (by show testsTo l c.h (1 + 1) = _; rw [testsTo_succ, testF_b hv hbd]) rfl rfl rfl _ _ h) (.keep (fun _ _ h => h) (.nil))))
        )
     ·
      have hbn := found_none hzp (h_35)
      first
       | (exfalso; omega)
       | (
        refine c_cond_f rfl ?_
        refine c_seq ?_
        refine c_region ?_
        refine r_val .none rfl (p_ldw (k := 1) Try.underlying38 rfl sz38 rfl rfl (rfl : _ = Value.agg #[_, _, _, _, _, _, _, _])) ?_
        refine r_val .none rfl (p_move rfl) ?_
        refine r_call (vs := [_, _]) .none rfl cl68 rfl (fun w hw => c_own8 c sv 1 (by decide) h1 w) ?_
        refine r_val .none rfl (p_move rfl) ?_
        refine r_val .none rfl (p_extract rfl rfl) ?_
        refine r_val .none rfl (p_extract rfl rfl) ?_
        refine r_alloc .none rfl zr92 (IsRow.lit _) (fun b_8 => ?_)
        refine r_stw (k := 0) .none sz92 rfl rfl (IsRow.lit _) (one_lit rfl rfl) rfl ?_
        refine r_val .none rfl (p_assign rfl) ?_
        refine r_nil ?_
        refine e_next ?_
        refine c_seq ?_
        refine c_region ?_
        refine r_val .none rfl (p_move rfl) ?_
        refine r_nil ?_
        refine e_next ?_
        refine c_splitd (d := 49) rfl (fun h_46 => ?_) (fun h_46 => ?_)
        ·
         have hdp := dup_some (h := c.h) (f := 1) (by decide) (h_46)
         first
          | (exfalso; omega)
          | (
           refine c_cond_t rfl ?_
           refine c_region ?_
           refine r_val .none rfl (p_move rfl) ?_
           refine r_val .none rfl (p_ldw (k := 0) Try.underlying92 rfl sz92 rfl rfl (rfl : _ = Value.agg #[_, _, _])) ?_
           refine r_bslice (vs := [(0, Value.agg #[_, _, _])]) (c := #[_, _, _]) .none rfl Try.underlying62 el92 rfl rfl rfl (bs92_10a3 _ _ _) (IsRow.lit _) (fun b_9 => ?_)
           refine r_append (k := 2) (k2 := 0) .none rfl Try.underlying62 el92 rfl (by decide) rfl rfl rfl rfl rfl (one_lit rfl rfl) (by have q0 := testsTo_len l c.h 0; have q1 := testsTo_len l c.h 1; have q2 := testsTo_len l c.h 2; simp only [maxLen]; omega) (by have q0 := testsTo_len l c.h 0; have q1 := testsTo_len l c.h 1; have q2 := testsTo_len l c.h 2; omega) (fun v_47 => ?_)
           refine r_row1 (k := 2) rfl (fun o_48 => ?_)
           refine r_val .none rfl (p_assign rfl) ?_
           refine r_nil ?_
           refine e_norm_block ?_
           refine e_next ?_
           refine c_region ?_
           refine r_val .none rfl (p_add rfl rfl (by omega)) ?_
           refine r_val .none rfl (p_move rfl) ?_
           refine r_nil ?_
           refine e_round ((2, _, _)) ⟨⟨Nat.le_of_ble_eq_true rfl, (hgn.trans hn_31)⟩, Nat.le_of_ble_eq_true rfl⟩ rfl ⟨rfl, rfl, rfl, rfl, rfl, rfl, trivial⟩ (.drop (.drop (.keep (fun _ _ h => rowA_snoc (l := testsTo l c.h 1) (x := (((1 : Nat) : Int), -1, ownG c.h 1)) (by show testsTo l c.h (1 + 1) = _; rw [testsTo_succ, testF_d hv hbn hdp]) rfl rfl rfl _ _ h) (.keep (fun _ _ h => h) (.nil)))))
           )
        ·
         have hdn := dup_none (h := c.h) (f := 1) (by decide) (h_46)
         first
          | (exfalso; omega)
          | (
           refine c_cond_f rfl ?_
           refine c_skip ?_
           refine e_norm_block ?_
           refine e_next ?_
           refine c_region ?_
           refine r_val .none rfl (p_add rfl rfl (by omega)) ?_
           refine r_val .none rfl (p_move rfl) ?_
           refine r_nil ?_
           refine e_round ((2, _, _)) ⟨⟨Nat.le_of_ble_eq_true rfl, (hgn.trans hn_31)⟩, Nat.le_of_ble_eq_true rfl⟩ rfl ⟨rfl, rfl, rfl, rfl, rfl, rfl, trivial⟩ (.drop (.keep (fun _ _ h => rowA_same (by show testsTo l c.h (1 + 1) = _; rw [testsTo_succ, (by first | exact T1 hv | exact testF_n hv hbn hdn : testF l c.h 1 = []), List.append_nil]) _ _ h) (.keep (fun _ _ h => h) (.nil))))
           )
        )
     )
 ·
  refine c_seq ?_
  refine c_region ?_
  refine r_val .none rfl (p_lt rfl rfl) ?_
  refine r_say (d := 17) (v := Value.bool true) rfl ?_
  refine r_nil ?_
  refine e_next ?_
  refine c_seq ?_
  refine c_cond_t rfl ?_
  refine c_skip ?_
  refine e_next ?_
  refine c_seq ?_
  refine c_block ?_
  refine c_seq ?_
  refine c_region ?_
  refine r_val .none rfl (p_move rfl) ?_
  refine r_val .none rfl (p_indexa (k := 2) Try.underlying36 Try.underlying35 rfl sz35 rfl (IsRow.lit _) rfl rfl (by first | exact of_decide_eq_true rfl | omega) (rfl : _ = Value.agg #[_, _])) ?_
  refine r_alloc .none rfl zr35 (IsRow.lit _) (fun b_10 => ?_)
  refine r_val .none rfl (p_assign rfl) ?_
  refine r_stw (k := 0) .none sz35 rfl rfl (IsRow.lit _) (one_lit rfl rfl) rfl ?_
  refine r_nil ?_
  refine e_next ?_
  refine c_seq ?_
  refine c_seq ?_
  refine c_region ?_
  refine r_freezeX (k := 0) rfl (fun G_49 hn_50 hR_51 => ?_)
  replace hs := hs.mono hn_50.le
  replace hzq := hzq.mono hn_50.le
  have hR_52 : RowAt G_49 b_10 0 2 (at_ [Value.bool (vF c.h 2), Value.int .i64 (nF c.h 2)]) := RowAt.congr hR_51 (fun i hi => by match i, hi with | 0, _ => rfl | 1, _ => rfl)
  refine r_val .none rfl (p_field Try.underlying35 rfl sz4 rfl) ?_
  refine r_val .none rfl (p_ldg (j := 0) Try.underlying4 rfl rfl hR_52 (by first | exact of_decide_eq_true rfl | omega) (rfl : _ = Value.bool _)) ?_
  refine r_val .none rfl (p_not rfl) ?_
  refine r_nil ?_
  refine e_next ?_
  refine c_splitn (d := 22) rfl (fun h_53 => ?_) (fun h_53 => ?_)
  ·
   have hv : vF c.h 2 = false := h_53
   first
    | (exfalso; omega)
    | (
     refine c_cond_t rfl ?_
     refine c_exit ?_
     refine e_exit_then ?_
     refine e_exit_block ?_
     refine e_next ?_
     refine c_region ?_
     refine r_val .none rfl (p_add rfl rfl (by omega)) ?_
     refine r_val .none rfl (p_move rfl) ?_
     refine r_nil ?_
     refine e_round ((3, _, _)) ⟨⟨Nat.le_of_ble_eq_true rfl, (hgn.trans hn_50)⟩, Nat.le_of_ble_eq_true rfl⟩ rfl ⟨rfl, rfl, rfl, rfl, rfl, rfl, trivial⟩ (.keep (fun _ _ h => rowA_same (by show testsTo l c.h (2 + 1) = _; rw [testsTo_succ, (by first | exact T1 hv | exact testF_n hv hbn hdn : testF l c.h 2 = []), List.append_nil]) _ _ h) (.keep (fun _ _ h => h) (.nil)))
     )
  ·
   have hv : vF c.h 2 = true := h_53
   first
    | (exfalso; omega)
    | (
     refine c_cond_f rfl ?_
     refine c_skip ?_
     refine e_next ?_
     refine c_seq ?_
     refine c_region ?_
     refine r_val .none rfl (p_move rfl) ?_
     refine r_val .none rfl (p_mkfunc (vs := [_]) rfl) ?_
     refine r_call (vs := [_, _]) .none rfl cl66 rfl (fun w hw => c_idxP _ _ _ _ _ hzq cl67 (fun x w hw => c_tst1 x _ _ _ hR_52 w hw) w hw) ?_
     refine r_val .none rfl (p_assign rfl) ?_
     refine r_nil ?_
     refine e_next ?_
     refine c_seq ?_
     refine c_region ?_
     refine r_val .none rfl (p_move rfl) ?_
     refine r_val .none rfl (p_ge rfl rfl) ?_
     refine r_nil ?_
     refine e_next ?_
     refine c_splitd (d := 27) rfl (fun h_54 => ?_) (fun h_54 => ?_)
     ·
      obtain ⟨i, hi1, hi2, hi3⟩ := idxF_some t0 (Int.le_refl 0) (h_54)
      rw [Int.zero_add] at hi1
      have hbd := found_bound hzp hi2 hi3
      first
       | (exfalso; omega)
       | (
        refine c_cond_t rfl ?_
        refine c_region_d (fun j => [14, 15].contains j) _ mixed (.keep (fun _ _ h => h) (.keep (fun _ _ h => h) (.nil))) ?_
        refine d_val1 0 rfl rfl (by kernel_rfl) (fun j hj => by have h : 15 < j := (Nat.lt_of_lt_of_le (by decide : 15 < 16) hj); simp; omega) .none rfl (p_move rfl) ?_
        refine d_val1 1 rfl rfl (by kernel_rfl) (fun j hj => by have h : 15 < j := (Nat.lt_of_lt_of_le (by decide : 15 < 16) hj); simp; omega) .none rfl (p_move rfl) ?_
        refine d_val1 2 rfl rfl (by kernel_rfl) (fun j hj => by have h : 15 < j := (Nat.lt_of_lt_of_le (by decide : 15 < 16) hj); simp; omega) .none rfl (p_move rfl) ?_
        refine d_val1 3 rfl rfl (by kernel_rfl) (fun j hj => by have h : 15 < j := (Nat.lt_of_lt_of_le (by decide : 15 < 16) hj); simp; omega) .none rfl (p_move rfl) ?_
        refine d_say (d := 31) (v := Value.int .i64 ((i : Nat) : Int)) (congrArg (fun x => some (Value.int .i64 x)) (by first | exact hi1 | omega)) ?_
        refine d_iaddr_g 4 rfl rfl (by kernel_rfl) (fun j hj => by have h : 15 < j := (Nat.lt_of_lt_of_le (by decide : 15 < 16) hj); simp; omega) .none rfl Try.underlying81 sz84 rfl hzq rfl (by first | exact of_decide_eq_true rfl | omega) (fun p_56 o_57 R_55 => ?_)
        refine d_val1 5 rfl rfl (by kernel_rfl) (fun j hj => by have h : 15 < j := (Nat.lt_of_lt_of_le (by decide : 15 < 16) hj); simp; omega) .none rfl (p_field Try.underlying84 rfl sz3 rfl) ?_
        refine d_val1 6 rfl rfl (by kernel_rfl) (fun j hj => by have h : 15 < j := (Nat.lt_of_lt_of_le (by decide : 15 < 16) hj); simp; omega) .none rfl (p_ldg (j := 1) Try.underlying3 rfl rfl R_55 (by first | exact of_decide_eq_true rfl | omega) (rfl : _ = Value.int _ _)) ?_
        refine d_val1 7 rfl rfl (by kernel_rfl) (fun j hj => by have h : 15 < j := (Nat.lt_of_lt_of_le (by decide : 15 < 16) hj); simp; omega) .none rfl (p_move rfl) ?_
        refine d_val1 8 rfl rfl (by kernel_rfl) (fun j hj => by have h : 15 < j := (Nat.lt_of_lt_of_le (by decide : 15 < 16) hj); simp; omega) .none rfl (p_move rfl) ?_
        refine d_say (d := 36) (v := Value.int .i64 ((i : Nat) : Int)) (congrArg (fun x => some (Value.int .i64 x)) (by first | exact hi1 | omega)) ?_
        refine d_iaddr_g 9 rfl rfl (by kernel_rfl) (fun j hj => by have h : 15 < j := (Nat.lt_of_lt_of_le (by decide : 15 < 16) hj); simp; omega) .none rfl Try.underlying81 sz84 rfl hzq rfl (by first | exact of_decide_eq_true rfl | omega) (fun p_59 o_60 R_58 => ?_)
        refine d_val1 10 rfl rfl (by kernel_rfl) (fun j hj => by have h : 15 < j := (Nat.lt_of_lt_of_le (by decide : 15 < 16) hj); simp; omega) .none rfl (p_field Try.underlying84 rfl sz3 rfl) ?_
        refine d_val1 11 rfl rfl (by kernel_rfl) (fun j hj => by have h : 15 < j := (Nat.lt_of_lt_of_le (by decide : 15 < 16) hj); simp; omega) .none rfl (p_ldg (j := 2) Try.underlying3 rfl rfl R_58 (by first | exact of_decide_eq_true rfl | omega) (rfl : _ = Value.int _ _)) ?_
        refine d_val1 12 rfl rfl (by kernel_rfl) (fun j hj => by have h : 15 < j := (Nat.lt_of_lt_of_le (by decide : 15 < 16) hj); simp; omega) .none rfl (p_build (vs := [(0, Value.int _ _), (1, Value.int _ _), (2, Value.int _ _)]) rfl (bl92_0i1_1i1_2i1 _ _ _)) ?_
        refine d_eff 13 rfl (by kernel_rfl) (fun K_61 hKK_61 hcK_61 => ?_)
        refine r_bslice (vs := [(0, Value.agg #[_, _, _])]) (c := #[_, _, _]) .none rfl Try.underlying62 el92 rfl rfl rfl (bs92_10a3 _ _ _) (IsRow.lit _) (fun b_11 => ?_)
        refine r_nil (e_d (i := 13) (brk := (fun j => [14, 15].contains j)) (ph' := true) hKK_61 hcK_61 rfl (fun _ => GLe.refl _) (fun _ => .drop (.keep (fun _ _ h => h) (.keep (fun _ _ h => h) (.nil)))) ?_)
        clear hKK_61 hcK_61 K_61
        refine d_eff 14 rfl (by kernel_rfl) (fun K_62 hKK_62 hcK_62 => ?_)
        refine r_append (k := 1) (k2 := 0) .none rfl Try.underlying62 el92 rfl (by decide) rfl rfl rfl rfl rfl (one_lit rfl rfl) (by have q0 := testsTo_len l c.h 0; have q1 := testsTo_len l c.h 1; have q2 := testsTo_len l c.h 2; simp only [maxLen]; omega) (by have q0 := testsTo_len l c.h 0; have q1 := testsTo_len l c.h 1; have q2 := testsTo_len l c.h 2; omega) (fun v_63 => ?_)
        refine r_row1 (k := 1) rfl (fun o_64 => ?_)
        refine r_nil (e_d (i := 14) (brk := (fun j => [14, 15].contains j)) (ph' := false) hKK_62 hcK_62 rfl (fun h => by cases h) (fun h => by cases h) ?_)
        clear hKK_62 hcK_62 K_62
        refine d_val2 15 rfl rfl (by kernel_rfl) .none rfl (fun _ => p_assign rfl) ?_
        refine d_nil (by kernel_rfl) ?_
        refine e_norm_block ?_
        refine e_next ?_
        refine c_region ?_
        refine r_val .none rfl (p_add rfl rfl (by omega)) ?_
        refine r_val .none rfl (p_move rfl) ?_
        refine r_nil ?_
        refine e_round ((3, _, _)) ⟨⟨Nat.le_of_ble_eq_true rfl, (hgn.trans hn_50)⟩, Nat.le_of_ble_eq_true rfl⟩ rfl ⟨rfl, rfl, rfl, rfl, rfl, rfl, trivial⟩ (.drop (.keep (fun _ _ h => rowA_snoc (l := testsTo l c.h 2) (x := (((2 : Nat) : Int), (zs.getD i t0).2.1, (zs.getD i t0).2.2)) (by show testsTo l c.h (2 + 1) = _; rw [testsTo_succ, testF_b hv hbd]) rfl rfl rfl _ _ h) (.keep (fun _ _ h => h) (.nil))))
        )
     ·
      have hbn := found_none hzp (h_54)
      first
       | (exfalso; omega)
       | (
        refine c_cond_f rfl ?_
        refine c_seq ?_
        refine c_region ?_
        refine r_val .none rfl (p_ldw (k := 1) Try.underlying38 rfl sz38 rfl rfl (rfl : _ = Value.agg #[_, _, _, _, _, _, _, _])) ?_
        refine r_val .none rfl (p_move rfl) ?_
        refine r_call (vs := [_, _]) .none rfl cl68 rfl (fun w hw => c_own8 c sv 2 (by decide) h1 w) ?_
        refine r_val .none rfl (p_move rfl) ?_
        refine r_val .none rfl (p_extract rfl rfl) ?_
        refine r_val .none rfl (p_extract rfl rfl) ?_
        refine r_alloc .none rfl zr92 (IsRow.lit _) (fun b_12 => ?_)
        refine r_stw (k := 0) .none sz92 rfl rfl (IsRow.lit _) (one_lit rfl rfl) rfl ?_
        refine r_val .none rfl (p_assign rfl) ?_
        refine r_nil ?_
        refine e_next ?_
        refine c_seq ?_
        refine c_region ?_
        refine r_val .none rfl (p_move rfl) ?_
        refine r_nil ?_
        refine e_next ?_
        refine c_splitd (d := 49) rfl (fun h_65 => ?_) (fun h_65 => ?_)
        ·
         have hdp := dup_some (h := c.h) (f := 2) (by decide) (h_65)
         first
          | (exfalso; omega)
          | (
           refine c_cond_t rfl ?_
           refine c_region ?_
           refine r_val .none rfl (p_move rfl) ?_
           refine r_val .none rfl (p_ldw (k := 0) Try.underlying92 rfl sz92 rfl rfl (rfl : _ = Value.agg #[_, _, _])) ?_
           refine r_bslice (vs := [(0, Value.agg #[_, _, _])]) (c := #[_, _, _]) .none rfl Try.underlying62 el92 rfl rfl rfl (bs92_10a3 _ _ _) (IsRow.lit _) (fun b_13 => ?_)
           refine r_append (k := 2) (k2 := 0) .none rfl Try.underlying62 el92 rfl (by decide) rfl rfl rfl rfl rfl (one_lit rfl rfl) (by have q0 := testsTo_len l c.h 0; have q1 := testsTo_len l c.h 1; have q2 := testsTo_len l c.h 2; simp only [maxLen]; omega) (by have q0 := testsTo_len l c.h 0; have q1 := testsTo_len l c.h 1; have q2 := testsTo_len l c.h 2; omega) (fun v_66 => ?_)
           refine r_row1 (k := 2) rfl (fun o_67 => ?_)
           refine r_val .none rfl (p_assign rfl) ?_
           refine r_nil ?_
           refine e_norm_block ?_
           refine e_next ?_
           refine c_region ?_
           refine r_val .none rfl (p_add rfl rfl (by omega)) ?_
           refine r_val .none rfl (p_move rfl) ?_
           refine r_nil ?_
           refine e_round ((3, _, _)) ⟨⟨Nat.le_of_ble_eq_true rfl, (hgn.trans hn_50)⟩, Nat.le_of_ble_eq_true rfl⟩ rfl ⟨rfl, rfl, rfl, rfl, rfl, rfl, trivial⟩ (.drop (.drop (.keep (fun _ _ h => rowA_snoc (l := testsTo l c.h 2) (x := (((2 : Nat) : Int), -1, ownG c.h 2)) (by show testsTo l c.h (2 + 1) = _; rw [testsTo_succ, testF_d hv hbn hdp]) rfl rfl rfl _ _ h) (.keep (fun _ _ h => h) (.nil)))))
           )
        ·
         have hdn := dup_none (h := c.h) (f := 2) (by decide) (h_65)
         first
          | (exfalso; omega)
          | (
           refine c_cond_f rfl ?_
           refine c_skip ?_
           refine e_norm_block ?_
           refine e_next ?_
           refine c_region ?_
           refine r_val .none rfl (p_add rfl rfl (by omega)) ?_
           refine r_val .none rfl (p_move rfl) ?_
           refine r_nil ?_
           refine e_round ((3, _, _)) ⟨⟨Nat.le_of_ble_eq_true rfl, (hgn.trans hn_50)⟩, Nat.le_of_ble_eq_true rfl⟩ rfl ⟨rfl, rfl, rfl, rfl, rfl, rfl, trivial⟩ (.drop (.keep (fun _ _ h => rowA_same (by show testsTo l c.h (2 + 1) = _; rw [testsTo_succ, (by first | exact T1 hv | exact testF_n hv hbn hdn : testF l c.h 2 = []), List.append_nil]) _ _ h) (.keep (fun _ _ h => h) (.nil))))
           )
        )
     )
 ·
  refine c_seq ?_
  refine c_region ?_
  refine r_val .none rfl (p_lt rfl rfl) ?_
  refine r_say (d := 17) (v := Value.bool false) rfl ?_
  refine r_nil ?_
  refine e_next ?_
  refine c_seq ?_
  refine c_cond_f rfl ?_
  refine c_exit ?_
  refine e_exit_then ?_
  refine e_exit_then ?_
  refine e_exit_block ?_
  refine e_next ?_
  refine c_seq ?_
  refine c_region ?_
  refine r_val .none rfl (p_move rfl) ?_
  refine r_val .none rfl (p_assign rfl) ?_
  refine r_nil ?_
  refine e_next ?_
  refine c_ret ?_
  refine e_freezeF (k := 0) rfl (fun G_68 hn_69 hs_70 => ?_)
  replace hs := hs.mono hn_69.le
  replace hzq := hzq.mono hn_69.le
  refine e_ret1 Try.results53 (.tmp rfl .nil) (fun w hm => ⟨fr _ _, fr_new _ _, fun b o e => hm.has b o (fr_le _ _ b o e), ?_, hm.since⟩)
  exact SlL.of t0 (fun _ => rfl) rfl hs_70
end Go.Proofs.Ytoflaphnlfggkaa

/- Walks: what Go functions of this chapter come to, each as a function on plain data; no condition but those that each theorem names. Printed by a program of this work (gen.py). -/
namespace Go.Proofs.Ytoflaphnlfggkaa
open Go.Gx Go.Gx.T4 Go.Gx.T3 Go.Gx.T6 Go.Gx.T8 Go.Gx.T4 Go.Gx.T3 Go.Gx.T8 Go.Gx.T4 Go.Gx.T3 Go.Gx.T8 Go.Gx.T6 Go.Gx.T4 Go.Gx.T3
theorem cl30 : Callable Try.prog 30 := callable Try.func30 (by kernel_rfl) rfl
theorem cl48 : Callable Try.prog 48 := callable Try.func48 (by kernel_rfl) rfl
theorem cl52 : Callable Try.prog 52 := callable Try.func52 (by kernel_rfl) rfl
theorem cl53 : Callable Try.prog 53 := callable Try.func53 (by kernel_rfl) rfl
theorem bl64_0i1_3s3 (x0 : Int) (x1 : Option Addr) (x2 : Nat) (x3 : Nat) : Program.built Try.prog 64 [(0, Value.int .i64 x0), (3, Value.slice x1 x2 x3)] = some #[Value.int .i64 x0, Value.int .i64 0, Value.int .i64 0, Value.int .i64 0, Value.slice none 0 0, Value.slice x1 x2 x3] := by
 kernel_rfl
theorem bl64_0i1_1a3_2s3 (x0 : Int) (x1 : Value) (x2 : Value) (x3 : Value) (x4 : Option Addr) (x5 : Nat) (x6 : Nat) : Program.built Try.prog 64 [(0, Value.int .i64 x0), (1, Value.agg #[x1, x2, x3]), (2, Value.slice x4 x5 x6)] = some #[Value.int .i64 x0, x1, x2, x3, Value.slice x4 x5 x6, Value.slice none 0 0] := by
 kernel_rfl
def CStepIs (n : Nat) : Prop := ∀ (c : CT) (sv va : Value) (l : List CT) (G : Ghost) (w : World), SizeOf.sizeOf c ≤ n → l.length + size c ≤ 1000 → Cs G sv c.subs → Cs G va l → Has G w → Calls Try.prog 30 #[va, Value.agg #[Value.int .i64 c.h.k, Value.bool c.h.v0, Value.int .i64 c.h.n0, Value.bool c.h.v1, Value.int .i64 c.h.n1, Value.bool c.h.v2, Value.int .i64 c.h.n2, sv]] w (Ret fun r w' => ∃ H : Ghost, (∀ b, H b ≠ none → w.heap.size ≤ b) ∧ Has H w' ∧ (∃ ua ub, r = Value.agg #[Value.int .i64 (stepOf l c).h.k, Value.int .i64 (stepOf l c).h.k0, Value.int .i64 (stepOf l c).h.k1, Value.int .i64 (stepOf l c).h.k2, ua, ub] ∧ SlL H ua 3 tC t0 (stepOf l c).h.ts ∧ Ss H ub (stepOf l c).subs) ∧ Since nX w w')
theorem c_beh (n : Nat) (ih : CStepIs n) (va vl : Value) (ah l : List CT) {G : Ghost} (hz : SizeOf.sizeOf l ≤ n + 1) (hsz : ah.length + sizeL l ≤ 1000) (hsa : Cs G va ah) (hs : Cs G vl l) (w : World) (hG : Has G w) :
  Calls Try.prog 48 #[va, vl] w (Ret fun r w' => ∃ H : Ghost, (∀ b, H b ≠ none → w.heap.size ≤ b) ∧ Has H w' ∧ Ss H r (stepsOf ah l) ∧ Since nX w w') := by
 refine enter (args := [_, _]) (X := nX) (G := G) (l := [(0, va), (1, vl)]) Try.func48 rfl Try.ntmps48 hG ⟨rfl, rfl, trivial⟩ (Nat.le_of_ble_eq_true rfl) ?_
 obtain ⟨rs, hr, hp, hl⟩ := hs.inv
 have hbd := hr.bound
 have hll := sizeL_len l
 have hlr : l.length = rs.length := by rw [hl]; simp
 rw [hl] at hsz hll
 rw [List.length_map] at hll
 obtain ⟨es, ha, hap, hal⟩ := hsa.inv
 have hel : ah.length = es.length := by rw [hal]; simp
 refine c_seq ?_
 refine c_region ?_
 refine r_val .none rfl (p_assign rfl) ?_
 refine r_nil ?_
 refine e_next ?_
 refine c_seq ?_
 refine c_region ?_
 refine r_val .none rfl (p_assign rfl) ?_
 refine r_nil ?_
 refine e_next ?_
 refine c_seq ?_
 refine c_region ?_
 refine r_val .none rfl (p_move rfl) ?_
 refine r_callrow (vs := [_]) .none rfl cl44 rfl (fun w hw => c_cloneC _ es ha (by omega) hap w hw) (fun v_1 => ?_)
 refine r_val .none rfl (p_assign rfl) ?_
 refine r_nil ?_
 refine e_next ?_
 refine c_seq ?_
 refine c_seq ?_
 refine c_region ?_
 refine r_val .none rfl (p_move rfl) ?_
 refine r_val .none rfl (p_leng Try.underlying22 rfl hr) ?_
 have bd_2 := (hr).bound
 refine r_val .none rfl (p_move rfl) ?_
 refine r_nil ?_
 refine e_next ?_
 refine c_block ?_
 refine c_nilrow 64 6 ?_
 refine c_name (d := 4) rfl (fun u_3 hu_3 => ?_)
 refine c_name (d := 10) rfl (fun u_4 hu_4 => ?_)
 refine c_name (d := 11) rfl (fun u_5 hu_5 => ?_)
 refine c_loop (σ := Nat × Value × Value × List SVal × Ghost) (fun s => [(12, Value.int .i64 (s.1 : Nat)), (5, s.2.1), (0, s.2.2.1), (4, u_3), (10, u_4), (11, u_5)]) (fun s => [rowA (s.2.1) 64 6 (s.2.2.2.1).length ((s.2.2.2.1).flatMap sC), rowA (s.2.2.1) 38 8 ((es ++ rs.take s.1)).length (((es ++ rs.take s.1)).flatMap cvC)]) (fun s => s.2.2.2.2) (fun s => s.1 ≤ rs.length ∧ s.2.2.2.1.map Prod.fst = stepsOf ah ((rs.map Prod.fst).take s.1) ∧ (∀ p ∈ s.2.2.2.1, SlL (fr w s.2.2.2.2) p.2.1 3 tC t0 p.1.h.ts) ∧ (∀ p ∈ s.2.2.2.1, Ss (fr w s.2.2.2.2) p.2.2 p.1.subs) ∧ GNew w nX G s.2.2.2.2) (fun s => rs.length - s.1) ((0, _, _, [], _)) ⟨Nat.zero_le _, rfl, by simp, by simp, GNew.refl _ _ _⟩ rfl ⟨rfl, rfl, rfl, rfl, rfl, rfl, trivial⟩ (.keep (fun _ _ h => rowA_nil rfl _ _ h) (.keep (fun _ _ h => rowA_congr (by simp) (by simp) _ _ h) (.nil))) (fun s hphi => ?_)
 subst hu_3
 subst hu_4
 subst hu_5
 obtain ⟨k, v, v0, qs, H⟩ := s
 obtain ⟨hk, hq, hqt, hqs, hgn⟩ := hphi
 dsimp only at hk hq hqt hqs hgn ⊢
 have hql : qs.length ≤ k := (by have := congrArg List.length hq; rw [stepsOf_len] at this; simp at this; omega)
 refine c_row1 (k := 0) rfl (fun ov_6 => ?_)
 refine c_row1 (k := 1) rfl (fun ov_7 => ?_)
 replace ha := ha.mono hgn.le
 replace hr := hr.mono hgn.le
 replace hp := fun p hm0 => (hp p hm0).mono hgn.le
 replace hap := fun p hm0 => (hap p hm0).mono hgn.le
 refine c_seq ?_
 refine c_region ?_
 refine r_val .none rfl (p_lt rfl rfl) ?_
 refine r_nil ?_
 refine e_next ?_
 refine c_seq ?_
 refine c_splitd (d := 13) rfl (fun h_8 => ?_) (fun h_8 => ?_)
 ·
  first
   | (exfalso; omega)
   | (
    refine c_cond_t rfl ?_
    refine c_skip ?_
    refine e_next ?_
    refine c_seq ?_
    refine c_block ?_
    refine c_seq ?_
    refine c_region ?_
    refine r_iaddr_g .none rfl Try.underlying22 sz38 rfl hr rfl (by first | exact of_decide_eq_true rfl | omega) (fun p_10 o_11 R_9 => ?_)
    have hc_12 := hp _ (getD_mem (i := k) (d := d0) (by omega))
    have hz9 : (ah ++ ((rs.map Prod.fst).take k)).length + size (rs.getD k d0).1 ≤ 1000 := by have q1 := sizeL_take (rs := rs) (k := k) (by omega); have q2 := sizeL_take_le (rs.map Prod.fst) (k + 1); have q3 := sizeL_len ((rs.map Prod.fst).take k); rw [List.length_take, List.length_map] at q3; rw [List.length_append, List.length_take, List.length_map]; omega
    refine r_val .none rfl (p_ldga0 Try.underlying38 rfl sz38 rfl R_9 (by first | exact of_decide_eq_true rfl | omega) (rfl : _ = Value.agg #[_, _, _, _, _, _, _, _])) ?_
    refine r_alloc .none rfl zr38 (IsRow.lit _) (fun b_1 => ?_)
    refine r_stw (k := 0) .none sz38 rfl rfl (IsRow.lit _) (one_lit rfl (all_cons rfl (all_cons rfl (all_cons rfl (all_cons rfl (all_cons rfl (all_cons rfl (all_cons rfl (all_cons (hc_12).one rfl))))))))) rfl ?_
    refine r_nil ?_
    refine e_next ?_
    refine c_seq ?_
    refine c_region ?_
    refine r_val .none rfl (p_move rfl) ?_
    refine r_val .none rfl (p_move rfl) ?_
    refine r_val .none rfl (p_ldw (k := 0) Try.underlying38 rfl sz38 rfl rfl (rfl : _ = Value.agg #[_, _, _, _, _, _, _, _])) ?_
    refine r_callfr (k := 2) (vs := [_, _]) .none rfl cl30 rfl rfl (fun _ _ _ hle hz => by obtain ⟨ua, ub, h1, h2, h3⟩ := hz; exact ⟨ua, ub, h1, h2.mono hle, h3.mono hle⟩) (fun w G_18 hw hle_19 hs_20 => ih (rs.getD k d0).1 _ _ _ _ w (by have := List.sizeOf_lt_of_mem (show (rs.getD k d0).1 ∈ l by rw [hl]; exact List.mem_map.2 ⟨_, getD_mem (by omega), rfl⟩); omega) hz9 (hc_12.mono hle_19) (by have h : Cs _ _ ((es ++ rs.take k).map Prod.fst) := Tr.mk _ (SlL.of d0 (fun _ => rfl) rfl hs_20) (fun p hm0 => by rcases List.mem_append.1 hm0 with h | h; exact (hap p h).mono hle_19; exact (hp p (List.mem_of_mem_take h)).mono hle_19); rw [List.map_append, ← hal, List.map_take] at h; exact h) hw) (fun G_13 v_16 hn_14 hr_15 => ?_)
    replace ha := ha.mono hn_14.le
    replace hr := hr.mono hn_14.le
    replace hp := fun p hm0 => (hp p hm0).mono hn_14.le
    replace hap := fun p hm0 => (hap p hm0).mono hn_14.le
    replace hqt := fun p hm0 => (hqt p hm0).mono (fr_mono _ hn_14.le)
    replace hqs := fun p hm0 => (hqs p hm0).mono (fr_mono _ hn_14.le)
    replace R_9 := R_9.mono hn_14.le
    replace hc_12 := hc_12.mono hn_14.le
    obtain ⟨u_17a, u_17b, rfl, u_17s, u_17t⟩ := hr_15
    refine r_bslice (vs := [(0, Value.agg #[_, _, _, _, _, _])]) (c := #[_, _, _, _, _, _]) .none rfl Try.underlying50 el64 rfl rfl rfl (bs64_10a6 _ _ _ _ _ _) (IsRow.lit _) (fun b_2 => ?_)
    refine r_append (k := 2) (k2 := 0) .none rfl Try.underlying50 el64 rfl (by decide) rfl rfl rfl rfl rfl (one_lit rfl (all_cons rfl (all_cons rfl (all_cons rfl (all_cons rfl (all_cons (u_17s).one (all_cons (u_17t).one rfl))))))) (by simp only [maxLen]; omega) (by omega) (fun v_21 => ?_)
    refine r_row1 (k := 2) rfl (fun o_22 => ?_)
    refine r_val .none rfl (p_assign rfl) ?_
    refine r_nil ?_
    refine e_next ?_
    refine c_region ?_
    refine r_val .none rfl (p_move rfl) ?_
    refine r_val .none rfl (p_ldw (k := 1) Try.underlying38 rfl sz38 rfl rfl (rfl : _ = Value.agg #[_, _, _, _, _, _, _, _])) ?_
    refine r_bslice (vs := [(0, Value.agg #[_, _, _, _, _, _, _, _])]) (c := #[_, _, _, _, _, _, _, _]) .none rfl Try.underlying22 el38 rfl rfl rfl (bs38_10a8 _ _ _ _ _ _ _ _) (IsRow.lit _) (fun b_3 => ?_)
    refine r_append (k := 4) (k2 := 0) .none rfl Try.underlying22 el38 rfl (by decide) rfl rfl rfl rfl rfl (one_lit rfl (all_cons rfl (all_cons rfl (all_cons rfl (all_cons rfl (all_cons rfl (all_cons rfl (all_cons rfl (all_cons (hc_12).one rfl))))))))) (by rw [List.length_append, List.length_take]; simp only [maxLen]; omega) (by rw [List.length_append, List.length_take]; omega) (fun v_23 => ?_)
    refine r_row1 (k := 4) rfl (fun o_24 => ?_)
    refine r_val .none rfl (p_assign rfl) ?_
    refine r_nil ?_
    refine e_norm_block ?_
    refine e_next ?_
    refine c_region ?_
    refine r_val .none rfl (p_add rfl rfl (by omega)) ?_
    refine r_val .none rfl (p_move rfl) ?_
    refine r_nil ?_
    refine e_round ((k + 1, _, _, qs ++ [(stepOf (ah ++ ((rs.map Prod.fst).take k)) (rs.getD k d0).1, u_17a, u_17b)], _)) ⟨⟨by dsimp only; omega, by rw [stepsOf_take (by omega), List.map_append, hq]; rfl, (fun p hp' => by rcases List.mem_append.1 hp' with h | h; exact hqt p h; rw [List.mem_singleton.1 h]; exact u_17s), (fun p hp' => by rcases List.mem_append.1 hp' with h | h; exact hqs p h; rw [List.mem_singleton.1 h]; exact u_17t), (hgn.trans hn_14)⟩, by dsimp only; omega⟩ rfl ⟨rfl, rfl, rfl, rfl, rfl, rfl, trivial⟩ (.drop (.drop (.drop (.keep (fun _ _ h => rowA_snoc (l := qs) (x := (stepOf (ah ++ ((rs.map Prod.fst).take k)) (rs.getD k d0).1, u_17a, u_17b)) rfl rfl rfl rfl _ _ h) (.keep (fun _ _ h => rowA_snoc (l := es ++ rs.take k) (x := rs.getD k d0) (by rw [take_rs (by omega), List.append_assoc]) rfl rfl rfl _ _ h) (.nil))))))
    )
 ·
  first
   | (exfalso; omega)
   | (
    refine c_cond_f rfl ?_
    refine c_exit ?_
    refine e_exit_then ?_
    refine e_exit_then ?_
    refine e_exit_block ?_
    refine e_next ?_
    refine c_seq ?_
    refine c_region ?_
    refine r_val .none rfl (p_move rfl) ?_
    refine r_val .none rfl (p_assign rfl) ?_
    refine r_nil ?_
    refine e_next ?_
    refine c_ret ?_
    refine e_freezeF (k := 0) rfl (fun G_25 hn_26 hs_27 => ?_)
    replace ha := ha.mono hn_26.le
    replace hr := hr.mono hn_26.le
    replace hp := fun p hm0 => (hp p hm0).mono hn_26.le
    replace hap := fun p hm0 => (hap p hm0).mono hn_26.le
    replace hqt := fun p hm0 => (hqt p hm0).mono (fr_mono _ hn_26.le)
    replace hqs := fun p hm0 => (hqs p hm0).mono (fr_mono _ hn_26.le)
    refine e_ret1 Try.results48 (.tmp rfl .nil) (fun w hm => ⟨fr _ _, fr_new _ _, fun b o e => hm.has b o (fr_le _ _ b o e), ?_, hm.since⟩)
    rw [show stepsOf ah l = qs.map Prod.fst by rw [hq, hl, List.take_of_length_le (by simp; omega)]]
    exact Ss.mk qs (SlL.of s0 (fun _ => rfl) rfl hs_27) hqt hqs
    )
theorem c_cstep_s (n : Nat) (ih : CStepIs n) (c : CT) (sv va : Value) (l : List CT) {G : Ghost} (hz : SizeOf.sizeOf c ≤ n + 1) (hsz : l.length + size c ≤ 1000) (hs : Cs G sv c.subs) (hs2 : Cs G va l) (w : World) (hG : Has G w) :
  Calls Try.prog 30 #[va, Value.agg #[Value.int .i64 c.h.k, Value.bool c.h.v0, Value.int .i64 c.h.n0, Value.bool c.h.v1, Value.int .i64 c.h.n1, Value.bool c.h.v2, Value.int .i64 c.h.n2, sv]] w (Ret fun r w' => ∃ H : Ghost, (∀ b, H b ≠ none → w.heap.size ≤ b) ∧ Has H w' ∧ (∃ ua ub, r = Value.agg #[Value.int .i64 (stepOf l c).h.k, Value.int .i64 (stepOf l c).h.k0, Value.int .i64 (stepOf l c).h.k1, Value.int .i64 (stepOf l c).h.k2, ua, ub] ∧ SlL H ua 3 tC t0 (stepOf l c).h.ts ∧ Ss H ub (stepOf l c).subs) ∧ Since nX w w') := by
 refine enter (args := [_, _]) (X := nX) (G := G) (l := [(0, va), (1, Value.agg #[Value.int .i64 c.h.k, Value.bool c.h.v0, Value.int .i64 c.h.n0, Value.bool c.h.v1, Value.int .i64 c.h.n1, Value.bool c.h.v2, Value.int .i64 c.h.n2, sv])]) Try.func30 rfl Try.ntmps30 hG ⟨rfl, rfl, trivial⟩ (Nat.le_of_ble_eq_true rfl) ?_
 have hone := hs.one
 have hsq := size_eq c
 refine c_seq ?_
 refine c_region ?_
 refine r_box .none rfl rfl (IsRow.lit _) (fun b_1 => ?_)
 refine r_alloc .none rfl zr64 (IsRow.lit _) (fun b_2 => ?_)
 refine r_nil ?_
 refine e_next ?_
 refine c_seq ?_
 refine c_seq ?_
 refine c_region ?_
 refine r_val .none rfl (p_field Try.underlying38 rfl sz3 rfl) ?_
 refine r_val .none rfl (p_ld (k := 1) Try.underlying3 rfl rfl rfl (by first | exact of_decide_eq_true rfl | omega) (rfl : _ = Value.int _ _)) ?_
 refine r_val .none rfl (p_eq rfl rfl) ?_
 refine r_nil ?_
 refine e_next ?_
 refine c_splitd (d := 7) rfl (fun h_1 => ?_) (fun h_1 => ?_)
 ·
  first
   | (exfalso; omega)
   | (
    refine c_cond_t rfl ?_
    refine c_seq ?_
    refine c_region_d (fun j => [7].contains j) _ mixed (.keep (fun _ _ h => h) (.keep (fun _ _ h => h) (.nil))) ?_
    refine d_val1 0 rfl rfl (by kernel_rfl) (fun j hj => by have h : 7 < j := (Nat.lt_of_lt_of_le (by decide : 7 < 8) hj); simp; omega) .none rfl (p_field Try.underlying38 rfl sz3 rfl) ?_
    refine d_val1 1 rfl rfl (by kernel_rfl) (fun j hj => by have h : 7 < j := (Nat.lt_of_lt_of_le (by decide : 7 < 8) hj); simp; omega) .none rfl (p_ld (k := 1) Try.underlying3 rfl rfl rfl (by first | exact of_decide_eq_true rfl | omega) (rfl : _ = Value.int _ _)) ?_
    refine d_val1 2 rfl rfl (by kernel_rfl) (fun j hj => by have h : 7 < j := (Nat.lt_of_lt_of_le (by decide : 7 < 8) hj); simp; omega) .none rfl (p_move rfl) ?_
    refine d_val1 3 rfl rfl (by kernel_rfl) (fun j hj => by have h : 7 < j := (Nat.lt_of_lt_of_le (by decide : 7 < 8) hj); simp; omega) .none rfl (p_field Try.underlying38 rfl sz22 rfl) ?_
    refine d_val1 4 rfl rfl (by kernel_rfl) (fun j hj => by have h : 7 < j := (Nat.lt_of_lt_of_le (by decide : 7 < 8) hj); simp; omega) .none rfl (p_ld (k := 1) Try.underlying22 rfl rfl rfl (by first | exact of_decide_eq_true rfl | omega) rfl) ?_
    refine d_eff 5 rfl (by kernel_rfl) (fun K_2 hKK_2 hcK_2 => ?_)
    refine r_callf (vs := [_, _]) .none rfl cl48 rfl (fun _ _ _ hle hz => hz.mono hle) (fun w hw => c_beh n ih _ _ l c.subs (by have := size_subs c; omega) (by omega) hs2 hs w hw) (fun G_3 v_6 hn_4 hr_5 => ?_)
    replace hs2 := hs2.mono hn_4.le
    replace hs := hs.mono hn_4.le
    have u_7 := hr_5
    refine r_nil (e_d (i := 5) (brk := (fun j => [7].contains j)) (ph' := true) hKK_2 hcK_2 rfl (fun _ => hn_4.le) (fun _ => .keep (fun _ _ h => h) (.keep (fun _ _ h => h) (.nil))) ?_)
    clear hKK_2 hcK_2 K_2
    obtain ⟨a_8, c_9, rfl⟩ := Ss.len u_7
    refine d_val1 6 rfl rfl (by kernel_rfl) (fun j hj => by have h : 7 < j := (Nat.lt_of_lt_of_le (by decide : 7 < 8) hj); simp; omega) .none rfl (p_build (vs := [(0, Value.int _ _), (3, Value.slice _ _ _)]) rfl (bl64_0i1_3s3 _ _ _ _)) ?_
    refine d_eff 7 rfl (by kernel_rfl) (fun K_10 hKK_10 hcK_10 => ?_)
    refine r_stw (k := 0) .none sz64 rfl rfl (IsRow.lit _) (one_lit rfl (all_cons rfl (all_cons rfl (all_cons rfl (all_cons rfl (all_cons rfl (all_cons (u_7).one rfl))))))) rfl ?_
    refine r_nil (e_d (i := 7) (brk := (fun j => [7].contains j)) (ph' := false) hKK_10 hcK_10 rfl (fun h => by cases h) (fun h => by cases h) ?_)
    clear hKK_10 hcK_10 K_10
    refine d_nil (by kernel_rfl) ?_
    refine e_next ?_
    refine c_ret ?_
    refine e_ret_then ?_
    refine e_ret1 Try.results30 (.cell (k := 0) rfl Try.underlying64 rfl sz64 rfl (rfl : _ = Value.agg #[_, _, _, _, _, _]) .nil) (fun w hm => ⟨fr _ _, fr_new _ _, fun b o e => hm.has b o (fr_le _ _ b o e), ?_, hm.since⟩)
    rw [stepOf_ncc (by omega)]
    exact ⟨_, _, rfl, SlG.nil _ _ _, u_7⟩
    )
 ·
  first
   | (exfalso; omega)
   | (
    refine c_cond_f rfl ?_
    refine c_skip ?_
    refine e_next ?_
    refine c_seq ?_
    refine c_region_d (fun j => [9].contains j) _ mixed (.keep (fun _ _ h => h) (.keep (fun _ _ h => h) (.nil))) ?_
    refine d_val1 0 rfl rfl (by kernel_rfl) (fun j hj => by have h : 9 < j := (Nat.lt_of_lt_of_le (by decide : 9 < 10) hj); simp; omega) .none rfl (p_field Try.underlying38 rfl sz3 rfl) ?_
    refine d_val1 1 rfl rfl (by kernel_rfl) (fun j hj => by have h : 9 < j := (Nat.lt_of_lt_of_le (by decide : 9 < 10) hj); simp; omega) .none rfl (p_ld (k := 1) Try.underlying3 rfl rfl rfl (by first | exact of_decide_eq_true rfl | omega) (rfl : _ = Value.int _ _)) ?_
    refine d_val1 2 rfl rfl (by kernel_rfl) (fun j hj => by have h : 9 < j := (Nat.lt_of_lt_of_le (by decide : 9 < 10) hj); simp; omega) .none rfl (p_field Try.underlying38 rfl sz36 rfl) ?_
    refine d_val1 3 rfl rfl (by kernel_rfl) (fun j hj => by have h : 9 < j := (Nat.lt_of_lt_of_le (by decide : 9 < 10) hj); simp; omega) .none rfl (p_lda (k := 1) Try.underlying36 rfl sz36 rfl rfl (by first | exact of_decide_eq_true rfl | omega) (rfl : _ = Value.agg #[_, _, _, _, _, _])) ?_
    refine d_val1 5 rfl rfl (by kernel_rfl) (fun j hj => by have h : 9 < j := (Nat.lt_of_lt_of_le (by decide : 9 < 10) hj); simp; omega) .none rfl (p_move rfl) ?_
    refine d_val1 6 rfl rfl (by kernel_rfl) (fun j hj => by have h : 9 < j := (Nat.lt_of_lt_of_le (by decide : 9 < 10) hj); simp; omega) .none rfl (p_ldw (k := 1) Try.underlying38 rfl sz38 rfl rfl (rfl : _ = Value.agg #[_, _, _, _, _, _, _, _])) ?_
    refine d_eff 4 rfl (by kernel_rfl) (fun K_11 hKK_11 hcK_11 => ?_)
    refine r_call (vs := [_]) .none rfl cl52 rfl (fun w hw => c_keyof c.h w) ?_
    refine r_nil (e_d (i := 4) (brk := (fun j => [9].contains j)) (ph' := true) hKK_11 hcK_11 rfl (fun _ => GLe.refl _) (fun _ => .keep (fun _ _ h => h) (.keep (fun _ _ h => h) (.nil))) ?_)
    clear hKK_11 hcK_11 K_11
    refine d_eff 7 rfl (by kernel_rfl) (fun K_12 hKK_12 hcK_12 => ?_)
    refine r_callf (vs := [_, _]) .none rfl cl53 rfl (fun _ _ _ hle hz => hz.mono hle) (fun w hw => c_tests8 _ _ c sv (by omega) hs2 hone w hw) (fun G_13 v_16 hn_14 hr_15 => ?_)
    replace hs2 := hs2.mono hn_14.le
    replace hs := hs.mono hn_14.le
    have u_17 := hr_15
    refine r_nil (e_d (i := 7) (brk := (fun j => [9].contains j)) (ph' := true) hKK_12 hcK_12 rfl (fun _ => hn_14.le) (fun _ => .keep (fun _ _ h => h) (.keep (fun _ _ h => h) (.nil))) ?_)
    clear hKK_12 hcK_12 K_12
    obtain ⟨a_18, c_19, rfl⟩ := SlG.len u_17
    refine d_val1 8 rfl rfl (by kernel_rfl) (fun j hj => by have h : 9 < j := (Nat.lt_of_lt_of_le (by decide : 9 < 10) hj); simp; omega) .none rfl (p_build (vs := [(0, Value.int _ _), (1, Value.agg #[_, _, _]), (2, Value.slice _ _ _)]) rfl (bl64_0i1_1a3_2s3 _ _ _ _ _ _ _)) ?_
    refine d_eff 9 rfl (by kernel_rfl) (fun K_20 hKK_20 hcK_20 => ?_)
    refine r_stw (k := 0) .none sz64 rfl rfl (IsRow.lit _) (one_lit rfl (all_cons rfl (all_cons rfl (all_cons rfl (all_cons rfl (all_cons (u_17).one (all_cons rfl rfl))))))) rfl ?_
    refine r_nil (e_d (i := 9) (brk := (fun j => [9].contains j)) (ph' := false) hKK_20 hcK_20 rfl (fun h => by cases h) (fun h => by cases h) ?_)
    clear hKK_20 hcK_20 K_20
    refine d_nil (by kernel_rfl) ?_
    refine e_next ?_
    refine c_ret ?_
    refine e_ret1 Try.results30 (.cell (k := 0) rfl Try.underlying64 rfl sz64 rfl (rfl : _ = Value.agg #[_, _, _, _, _, _]) .nil) (fun w hm => ⟨fr _ _, fr_new _ _, fun b o e => hm.has b o (fr_le _ _ b o e), ?_, hm.since⟩)
    rw [stepOf_other (by omega)]
    exact ⟨_, _, rfl, u_17, Ss.nil⟩
    )
theorem c_cstep_n : ∀ n, CStepIs n
 | 0 => fun c sv va l G w hz _ _ _ _ => absurd hz (by have := size_subs c; omega)
 | n + 1 => fun c sv va l G w hz hsz hs hs2 hG => c_cstep_s n (c_cstep_n n) c sv va l hz hsz hs hs2 w hG
theorem c_ccomp (v : Value) (l : List CT) {G : Ghost} (hsz : sizeL l ≤ 1000) (hs : Cs G v l) (w : World) (hG : Has G w) :
  Calls Try.prog 24 #[v] w (Ret fun r w' => ∃ H : Ghost, (∀ b, H b ≠ none → w.heap.size ≤ b) ∧ Has H w' ∧ Ss H r (stepsOf [] l) ∧ Since nX w w') := by
 refine enter (args := [_]) (X := nX) (G := G) (l := [(0, v)]) Try.func24 rfl Try.ntmps24 hG ⟨rfl, trivial⟩ (Nat.le_of_ble_eq_true rfl) ?_
 refine c_seq ?_
 refine c_region ?_
 refine r_val .none rfl (p_assign rfl) ?_
 refine r_nil ?_
 refine e_next ?_
 refine c_seq ?_
 refine c_region ?_
 refine r_val .none rfl (p_move rfl) ?_
 refine r_callf (vs := [_, _]) .none rfl cl48 rfl (fun _ _ _ hle hz => hz.mono hle) (fun w hw => c_beh _ (c_cstep_n _) _ _ [] l (Nat.le_succ _) (by simpa using hsz) Tr.nil hs w hw) (fun G_1 v_4 hn_2 hr_3 => ?_)
 replace hs := hs.mono hn_2.le
 have u_5 := hr_3
 refine r_val .none rfl (p_assign rfl) ?_
 refine r_nil ?_
 refine e_next ?_
 refine c_ret ?_
 refine e_ret1 Try.results24 (.tmp rfl .nil) (fun w hm => ⟨fr _ _, fr_new _ _, fun b o e => hm.has b o (fr_le _ _ b o e), ?_, hm.since⟩)
 exact u_5
end Go.Proofs.Ytoflaphnlfggkaa

/- Walks: what Go functions of this chapter come to, each as a function on plain data; no condition but those that each theorem names. Printed by a program of this work (gen.py). -/
namespace Go.Proofs.Ytoflaphnlfggkaa
open Go.Gx Go.Gx.T4 Go.Gx.T3 Go.Gx.T6 Go.Gx.T8 Go.Gx.T4 Go.Gx.T3 Go.Gx.T8 Go.Gx.T4 Go.Gx.T3 Go.Gx.T8 Go.Gx.T6 Go.Gx.T4 Go.Gx.T3
theorem sz50 : SzIs Try.prog 50 1 := by
 unfold SzIs
 kernel_rfl
theorem lf61 : leafT Try.prog 9 61 = some [3, 3, 3] := by
 kernel_rfl
theorem ef61 : eqT Try.prog 9 61 = true := by
 kernel_rfl
theorem lf92 : leafT Try.prog 9 92 = some [3, 3, 3] := by
 kernel_rfl
theorem ef92 : eqT Try.prog 9 92 = true := by
 kernel_rfl
theorem eg61 : Try.prog.eqGuardType Try.prog.depth 61 = false := by
 kernel_rfl
theorem eg92 : Try.prog.eqGuardType Try.prog.depth 92 = false := by
 kernel_rfl
theorem cl24 : Callable Try.prog 24 := callable Try.func24 (by kernel_rfl) rfl
theorem cl29 : Callable Try.prog 29 := callable Try.func29 (by kernel_rfl) rfl
theorem cl50 : Callable Try.prog 50 := callable Try.func50 (by kernel_rfl) rfl
theorem cl51 : Callable Try.prog 51 := callable Try.func51 (by kernel_rfl) rfl
theorem bl61_0i1_1i1_2i1 (x0 : Int) (x1 : Int) (x2 : Int) : Program.built Try.prog 61 [(0, Value.int .i64 x0), (1, Value.int .i64 x1), (2, Value.int .i64 x2)] = some #[Value.int .i64 x0, Value.int .i64 x1, Value.int .i64 x2] := by
 kernel_rfl
def CsameIs (n : Nat) : Prop := ∀ (c c2 : ST) (ta sb ta2 sb2 : Value) (G : Ghost) (w : World), SizeOf.sizeOf c ≤ n → SlL G ta 3 tC t0 c.h.ts → Ss G sb c.subs → SlL G ta2 3 tC t0 c2.h.ts → Ss G sb2 c2.subs → Has G w → Calls Try.prog 29 #[Value.agg #[Value.int .i64 c.h.k, Value.int .i64 c.h.k0, Value.int .i64 c.h.k1, Value.int .i64 c.h.k2, ta, sb], Value.agg #[Value.int .i64 c2.h.k, Value.int .i64 c2.h.k0, Value.int .i64 c2.h.k1, Value.int .i64 c2.h.k2, ta2, sb2]] w (Ret fun r w' => r = Value.bool (seq c c2) ∧ Since nX w w')
theorem c_awake8   (w : World)  :
  Calls Try.prog 20 #[] w (Ret fun r w' => r = Value.bool true ∧ Since nX w w') := by
 refine enter (args := []) (X := nX) (G := (fun _ => none)) (l := []) Try.func20 rfl Try.ntmps20 (fun _ _ h => by cases h) trivial (Nat.le_of_ble_eq_true rfl) ?_
 refine c_seq ?_
 refine c_region ?_
 refine r_val .none rfl (p_assign rfl) ?_
 refine r_nil ?_
 refine e_next ?_
 refine c_seq ?_
 refine c_region ?_
 refine r_val .none rfl (p_build (vs := [(0, Value.bool _), (1, Value.int _ _)]) rfl (bl35_0b1_1i1 _ _)) ?_
 refine r_val .none rfl (p_build (vs := [(0, Value.bool _), (1, Value.int _ _)]) rfl (bl35_0b1_1i1 _ _)) ?_
 refine r_val .none rfl (p_build (vs := [(1, Value.int _ _)]) rfl (bl35_1i1 _)) ?_
 refine r_alloc .none rfl zr35 (IsRow.lit _) (fun b_1 => ?_)
 refine r_alloc .none rfl zr35 (IsRow.lit _) (fun b_2 => ?_)
 refine r_alloc .none rfl zr35 (IsRow.lit _) (fun b_3 => ?_)
 refine r_stw (k := 2) .none sz35 rfl rfl (IsRow.lit _) (one_lit rfl rfl) rfl ?_
 refine r_stw (k := 1) .none sz35 rfl rfl (IsRow.lit _) (one_lit rfl rfl) rfl ?_
 refine r_stw (k := 0) .none sz35 rfl rfl (IsRow.lit _) (one_lit rfl rfl) rfl ?_
 refine r_nil ?_
 refine e_next ?_
 refine c_seq ?_
 refine c_region ?_
 refine r_val .none rfl (p_ldw (k := 2) Try.underlying35 rfl sz35 rfl rfl (rfl : _ = Value.agg #[_, _])) ?_
 refine r_val .none rfl (p_ldw (k := 0) Try.underlying35 rfl sz35 rfl rfl (rfl : _ = Value.agg #[_, _])) ?_
 refine r_val .none rfl (p_ldw (k := 1) Try.underlying35 rfl sz35 rfl rfl (rfl : _ = Value.agg #[_, _])) ?_
 refine r_val .none rfl (p_build (vs := [(0, Value.agg #[_, _]), (1, Value.agg #[_, _]), (2, Value.agg #[_, _])]) rfl (bl36_0a2_1a2_2a2 _ _ _ _ _ _)) ?_
 refine r_val .none rfl (p_build (vs := [(0, Value.int _ _), (1, Value.agg #[_, _, _, _, _, _])]) rfl (bl38_0i1_1a6 _ _ _ _ _ _ _)) ?_
 refine r_val .none rfl (p_ldw (k := 1) Try.underlying35 rfl sz35 rfl rfl (rfl : _ = Value.agg #[_, _])) ?_
 refine r_val .none rfl (p_ldw (k := 0) Try.underlying35 rfl sz35 rfl rfl (rfl : _ = Value.agg #[_, _])) ?_
 refine r_val .none rfl (p_ldw (k := 2) Try.underlying35 rfl sz35 rfl rfl (rfl : _ = Value.agg #[_, _])) ?_
 refine r_val .none rfl (p_build (vs := [(0, Value.agg #[_, _]), (1, Value.agg #[_, _]), (2, Value.agg #[_, _])]) rfl (bl36_0a2_1a2_2a2 _ _ _ _ _ _)) ?_
 refine r_val .none rfl (p_build (vs := [(0, Value.int _ _), (1, Value.agg #[_, _, _, _, _, _])]) rfl (bl38_0i1_1a6 _ _ _ _ _ _ _)) ?_
 refine r_bslice (vs := [(0, Value.agg #[_, _, _, _, _, _, _, _]), (1, Value.agg #[_, _, _, _, _, _, _, _])]) (c := #[_, _, _, _, _, _, _, _, _, _, _, _, _, _, _, _]) .none rfl Try.underlying22 el38 rfl rfl rfl (bs38_20a8_1a8 _ _ _ _ _ _ _ _ _ _ _ _ _ _ _ _) (IsRow.lit _) (fun b_4 => ?_)
 refine r_freezeB (k := 0) 2 8 rfl rfl (by decide) (fun G_1 hn_2 hs_3 => ?_)
 have h18 : SlL G_1 (Value.slice (some ⟨b_4, 0, none⟩) 2 2) 8 cvC d0 [(.mk ⟨1, true, 1, false, 4, true, 2⟩ [], (Value.slice none 0 0)), (.mk ⟨1, true, 2, false, 4, true, 1⟩ [], (Value.slice none 0 0))] := SlG.congr hs_3 (fun i hi j hj => by match i, hi with | 0, _ => (match j, hj with | 0, _ => rfl | 1, _ => rfl | 2, _ => rfl | 3, _ => rfl | 4, _ => rfl | 5, _ => rfl | 6, _ => rfl | 7, _ => rfl) | 1, _ => (match j, hj with | 0, _ => rfl | 1, _ => rfl | 2, _ => rfl | 3, _ => rfl | 4, _ => rfl | 5, _ => rfl | 6, _ => rfl | 7, _ => rfl))
 have th18 : Cs G_1 (Value.slice (some ⟨b_4, 0, none⟩) 2 2) (L8) := Tr.mk _ h18 (by intro p hm0; simp only [List.mem_cons, List.not_mem_nil, or_false] at hm0; rcases hm0 with rfl | rfl; exact Tr.nil; exact Tr.nil)
 refine r_callf (vs := [_]) .none rfl cl24 rfl (fun _ _ _ hle hz => hz.mono hle) (fun w hw => c_ccomp _ L8 (by decide) th18 w hw) (fun G_4 v_7 hn_5 hr_6 => ?_)
 replace h18 := h18.mono hn_5.le
 replace th18 := th18.mono hn_5.le
 have u_8 := (hr_6).mono (fr_le _ _)
 obtain ⟨qs, hq, hqt, hqs, hql⟩ := (u_8).inv
 obtain ⟨a0, b0, a1, b1, rfl⟩ := L8_open hql
 have ht0 : SlL _ a0 3 tC t0 [] := hqt (S80, a0, b0) (by simp)
 have ht1 : SlL _ a1 3 tC t0 [(0, 0, 2), (2, 0, 0)] := hqt (S81, a1, b1) (by simp)
 refine r_val .none rfl (p_assign rfl) ?_
 refine r_nil ?_
 refine e_next ?_
 refine c_seq ?_
 refine c_region ?_
 refine r_val .none rfl (p_move rfl) ?_
 refine r_val .none rfl (p_leng Try.underlying50 rfl hq) ?_
 have bd_9 := (hq).bound
 refine r_val .none rfl (p_eq rfl rfl) ?_
 refine r_val .none rfl (p_move rfl) ?_
 refine' r_and (c := 23) (d := 30) [_, _, _, _, _, _, _] rfl (fun h_10 Q_11 hQ_12 => ?_) (fun h_10 Q_11 hQ_12 => ?_) ?_
 rotate_left 1
 ·
  replace h_10 := of_decide_eq_true h_10
  refine r_val (.some rfl rfl) rfl (p_move rfl) ?_
  refine r_iaddr_g (i := 1) (.some rfl rfl) rfl Try.underlying50 sz64 rfl hq rfl (by first | exact of_decide_eq_true rfl | omega) (fun p_15 o_16 R_14 => ?_)
  refine r_val (.some rfl rfl) rfl (p_field Try.underlying64 rfl sz61 rfl) ?_
  refine r_val (.some rfl rfl) rfl (p_ldga (j := 1) Try.underlying61 rfl sz61 rfl R_14 (by first | exact of_decide_eq_true rfl | omega) (rfl : _ = Value.agg #[_, _, _])) ?_
  refine r_val (.some rfl rfl) rfl (p_build (vs := [(0, Value.int _ _), (1, Value.int _ _), (2, Value.int _ _)]) rfl (bl61_0i1_1i1_2i1 _ _ _)) ?_
  refine r_val (.some rfl rfl) rfl (p_eqa rfl rfl (eq_flat Try.underlying61 rfl lf61 ef61 eg61 (.cons (.int Try.underlying3) (.cons (.int Try.underlying3) (.cons (.int Try.underlying3) (.nil)))) (.cons (.int Try.underlying3) (.cons (.int Try.underlying3) (.cons (.int Try.underlying3) (.nil)))))) ?_
  refine r_val .none rfl (p_pick_t rfl rfl) ?_
  refine r_nil (e_fin (d := 30) hQ_12 rfl (by repeat (first | exact .refl | refine .put rfl ?_ | refine .say rfl ?_ | refine .say2 rfl (by first | assumption | simp_all) ?_)))
 ·
  repeat (first | refine r_skip rfl (.no rfl rfl) ?_ | refine r_skip rfl (.un rfl rfl) ?_)
  refine r_val (by first | exact .none | exact .some rfl rfl) rfl (p_pick_f rfl rfl) ?_
  refine r_nil (e_fin (d := 30) hQ_12 rfl (by repeat (first | exact .refl | refine .put rfl ?_ | refine .say rfl ?_ | refine .say2 rfl (by first | assumption | simp_all) ?_)))
 refine r_val .none rfl (p_move rfl) ?_
 refine' r_and (c := 31) (d := 38) [_, _, _, _, _, _, _] rfl (fun h_17 Q_18 hQ_19 => ?_) (fun h_17 Q_18 hQ_19 => ?_) ?_
 rotate_left 1
 ·
  try simp only [norms] at h_17
  refine r_val (.some rfl rfl) rfl (p_move rfl) ?_
  refine r_iaddr_g (i := 0) (.some rfl rfl) rfl Try.underlying50 sz64 rfl hq rfl (by first | exact of_decide_eq_true rfl | omega) (fun p_22 o_23 R_21 => ?_)
  refine r_val (.some rfl rfl) rfl (p_field Try.underlying64 rfl sz62 rfl) ?_
  refine r_val (.some rfl rfl) rfl (p_ldg (j := 4) Try.underlying62 rfl rfl R_21 (by first | exact of_decide_eq_true rfl | omega) rfl) ?_
  refine r_val (.some rfl rfl) rfl (p_leng Try.underlying62 rfl ht0) ?_
  have bd_24 := (ht0).bound
  refine r_val (.some rfl rfl) rfl (p_eq rfl rfl) ?_
  refine r_val .none rfl (p_pick_t rfl rfl) ?_
  refine r_nil (e_fin (d := 38) hQ_19 rfl (by repeat (first | exact .refl | refine .put rfl ?_ | refine .say rfl ?_ | refine .say2 rfl (by first | assumption | simp_all) ?_)))
 ·
  repeat (first | refine r_skip rfl (.no rfl rfl) ?_ | refine r_skip rfl (.un rfl rfl) ?_)
  refine r_val (by first | exact .none | exact .some rfl rfl) rfl (p_pick_f rfl rfl) ?_
  refine r_nil (e_fin (d := 38) hQ_19 rfl (by repeat (first | exact .refl | refine .put rfl ?_ | refine .say rfl ?_ | refine .say2 rfl (by first | assumption | simp_all) ?_)))
 refine r_val .none rfl (p_move rfl) ?_
 refine' r_and (c := 39) (d := 46) [_, _, _, _, _, _, _] rfl (fun h_25 Q_26 hQ_27 => ?_) (fun h_25 Q_26 hQ_27 => ?_) ?_
 rotate_left 1
 ·
  try simp only [norms] at h_25
  refine r_val (.some rfl rfl) rfl (p_move rfl) ?_
  refine r_iaddr_g (i := 1) (.some rfl rfl) rfl Try.underlying50 sz64 rfl hq rfl (by first | exact of_decide_eq_true rfl | omega) (fun p_30 o_31 R_29 => ?_)
  refine r_val (.some rfl rfl) rfl (p_field Try.underlying64 rfl sz62 rfl) ?_
  refine r_val (.some rfl rfl) rfl (p_ldg (j := 4) Try.underlying62 rfl rfl R_29 (by first | exact of_decide_eq_true rfl | omega) rfl) ?_
  refine r_val (.some rfl rfl) rfl (p_leng Try.underlying62 rfl ht1) ?_
  have bd_32 := (ht1).bound
  refine r_val (.some rfl rfl) rfl (p_eq rfl rfl) ?_
  refine r_val .none rfl (p_pick_t rfl rfl) ?_
  refine r_nil (e_fin (d := 46) hQ_27 rfl (by repeat (first | exact .refl | refine .put rfl ?_ | refine .say rfl ?_ | refine .say2 rfl (by first | assumption | simp_all) ?_)))
 ·
  repeat (first | refine r_skip rfl (.no rfl rfl) ?_ | refine r_skip rfl (.un rfl rfl) ?_)
  refine r_val (by first | exact .none | exact .some rfl rfl) rfl (p_pick_f rfl rfl) ?_
  refine r_nil (e_fin (d := 46) hQ_27 rfl (by repeat (first | exact .refl | refine .put rfl ?_ | refine .say rfl ?_ | refine .say2 rfl (by first | assumption | simp_all) ?_)))
 refine r_val .none rfl (p_move rfl) ?_
 refine' r_and (c := 47) (d := 56) [_, _, _, _, _, _, _, _, _] rfl (fun h_33 Q_34 hQ_35 => ?_) (fun h_33 Q_34 hQ_35 => ?_) ?_
 rotate_left 1
 ·
  try simp only [norms] at h_33
  refine r_val (.some rfl rfl) rfl (p_move rfl) ?_
  refine r_iaddr_g (i := 1) (.some rfl rfl) rfl Try.underlying50 sz64 rfl hq rfl (by first | exact of_decide_eq_true rfl | omega) (fun p_38 o_39 R_37 => ?_)
  refine r_val (.some rfl rfl) rfl (p_field Try.underlying64 rfl sz62 rfl) ?_
  refine r_val (.some rfl rfl) rfl (p_ldg (j := 4) Try.underlying62 rfl rfl R_37 (by first | exact of_decide_eq_true rfl | omega) rfl) ?_
  refine r_iaddr_g (i := 1) (.some rfl rfl) rfl Try.underlying62 sz92 rfl ht1 rfl (by first | exact of_decide_eq_true rfl | omega) (fun p_41 o_42 R_40 => ?_)
  refine r_val (.some rfl rfl) rfl (p_ldga0 Try.underlying92 rfl sz92 rfl R_40 (by first | exact of_decide_eq_true rfl | omega) (rfl : _ = Value.agg #[_, _, _])) ?_
  refine r_val (.some rfl rfl) rfl (p_build (vs := [(0, Value.int _ _), (1, Value.int _ _), (2, Value.int _ _)]) rfl (bl92_0i1_1i1_2i1 _ _ _)) ?_
  refine r_val (.some rfl rfl) rfl (p_eqa rfl rfl (eq_flat Try.underlying92 rfl lf92 ef92 eg92 (.cons (.int Try.underlying3) (.cons (.int Try.underlying3) (.cons (.int Try.underlying3) (.nil)))) (.cons (.int Try.underlying3) (.cons (.int Try.underlying3) (.cons (.int Try.underlying3) (.nil)))))) ?_
  refine r_val .none rfl (p_pick_t rfl rfl) ?_
  refine r_nil (e_fin (d := 56) hQ_35 rfl (by repeat (first | exact .refl | refine .put rfl ?_ | refine .say rfl ?_ | refine .say2 rfl (by first | assumption | simp_all) ?_)))
 ·
  repeat (first | refine r_skip rfl (.no rfl rfl) ?_ | refine r_skip rfl (.un rfl rfl) ?_)
  refine r_val (by first | exact .none | exact .some rfl rfl) rfl (p_pick_f rfl rfl) ?_
  refine r_nil (e_fin (d := 56) hQ_35 rfl (by repeat (first | exact .refl | refine .put rfl ?_ | refine .say rfl ?_ | refine .say2 rfl (by first | assumption | simp_all) ?_)))
 refine r_val .none rfl (p_assign rfl) ?_
 refine r_nil ?_
 refine e_next ?_
 refine c_ret ?_
 refine e_ret1 Try.results20 (.tmp rfl .nil) (fun w hm => ⟨?_, hm.since⟩)
 exact congrArg Value.bool (by rfl)
theorem c_eqT (v v2 : Value) (a b : List TD) {G : Ghost} (hr : SlL G v 3 tC t0 a) (hr2 : SlL G v2 3 tC t0 b) (w : World) (hG : Has G w) :
  Calls Try.prog 50 #[v, v2] w (Ret fun r w' => r = Value.bool (decide (a = b)) ∧ Since nX w w') := by
 refine enter (args := [_, _]) (X := nX) (G := G) (l := [(0, v), (1, v2)]) Try.func50 rfl Try.ntmps50 hG ⟨rfl, rfl, trivial⟩ (Nat.le_of_ble_eq_true rfl) ?_
 have hbd := hr.bound
 have hbd2 := hr2.bound
 refine c_seq ?_
 refine c_region ?_
 refine r_val .none rfl (p_assign rfl) ?_
 refine r_nil ?_
 refine e_next ?_
 refine c_seq ?_
 refine c_seq ?_
 refine c_region ?_
 refine r_val .none rfl (p_move rfl) ?_
 refine r_val .none rfl (p_leng Try.underlying62 rfl hr) ?_
 have bd_1 := (hr).bound
 refine r_val .none rfl (p_move rfl) ?_
 refine r_val .none rfl (p_leng Try.underlying62 rfl hr2) ?_
 have bd_2 := (hr2).bound
 refine r_val .none rfl (p_ne rfl rfl) ?_
 refine r_nil ?_
 refine e_next ?_
 refine c_splitd (d := 10) rfl (fun h_3 => ?_) (fun h_3 => ?_)
 ·
  first
   | (exfalso; omega)
   | (
    refine c_cond_t rfl ?_
    refine c_seq ?_
    refine c_region ?_
    refine r_val .none rfl (p_assign rfl) ?_
    refine r_nil ?_
    refine e_next ?_
    refine c_ret ?_
    refine e_ret_then ?_
    refine e_ret1 Try.results50 (.tmp rfl .nil) (fun w hm => ⟨?_, hm.since⟩)
    first
    | exact congrArg Value.bool (decide_eq_false (ne_of_len (by omega))).symm
    | exact congrArg Value.bool (decide_eq_false (ne_of_get hE)).symm
    | (have hk := hphi.2.2; rw [List.take_of_length_le (by omega), List.take_of_length_le (by omega)] at hk; exact congrArg Value.bool (decide_eq_true hk).symm)
    )
 ·
  first
   | (exfalso; omega)
   | (
    refine c_cond_f rfl ?_
    refine c_skip ?_
    refine e_next ?_
    refine c_seq ?_
    refine c_seq ?_
    refine c_region ?_
    refine r_val .none rfl (p_move rfl) ?_
    refine r_val .none rfl (p_leng Try.underlying62 rfl hr) ?_
    have bd_4 := (hr).bound
    refine r_val .none rfl (p_move rfl) ?_
    refine r_nil ?_
    refine e_next ?_
    refine c_block ?_
    refine c_name (d := 0) rfl (fun u_5 hu_5 => ?_)
    refine c_name (d := 1) rfl (fun u_6 hu_6 => ?_)
    refine c_name (d := 12) rfl (fun u_7 hu_7 => ?_)
    refine c_loop (σ := Nat) (fun k => [(13, Value.int .i64 (k : Nat)), (0, u_5), (1, u_6), (12, u_7)]) (fun k => []) (fun _ => _) (fun k => k ≤ a.length ∧ a.length = b.length ∧ a.take k = b.take k) (fun k => a.length - k) (0) ⟨Nat.zero_le _, by omega, rfl⟩ rfl ⟨rfl, rfl, rfl, rfl, trivial⟩ (.nil) (fun k hphi => ?_)
    subst hu_5
    subst hu_6
    subst hu_7
    refine c_seq ?_
    refine c_region ?_
    refine r_val .none rfl (p_lt rfl rfl) ?_
    refine r_nil ?_
    refine e_next ?_
    refine c_seq ?_
    refine c_splitd (d := 14) rfl (fun h_8 => ?_) (fun h_8 => ?_)
    ·
     first
      | (exfalso; omega)
      | (
       refine c_cond_t rfl ?_
       refine c_skip ?_
       refine e_next ?_
       refine c_seq ?_
       refine c_block ?_
       refine c_seq ?_
       refine c_region ?_
       refine r_val .none rfl (p_move rfl) ?_
       refine r_val .none rfl (p_assign rfl) ?_
       refine r_nil ?_
       refine e_next ?_
       refine c_seq ?_
       refine c_region_q mixed (by kernel_rfl) ?_
       refine q_val .none rfl (p_move rfl) ?_
       refine q_val .none rfl (p_move rfl) ?_
       refine q_iaddr_g .none rfl Try.underlying62 sz92 rfl hr rfl (by first | exact of_decide_eq_true rfl | omega) (fun p_10 o_11 R_9 => ?_)
       refine q_val .none rfl (p_ldga0 Try.underlying92 rfl sz92 rfl R_9 (by first | exact of_decide_eq_true rfl | omega) (rfl : _ = Value.agg #[_, _, _])) ?_
       refine q_val .none rfl (p_move rfl) ?_
       refine q_val .none rfl (p_move rfl) ?_
       refine q_iaddr_g .none rfl Try.underlying62 sz92 rfl hr2 rfl (by first | exact of_decide_eq_true rfl | omega) (fun p_13 o_14 R_12 => ?_)
       refine q_val .none rfl (p_ldga0 Try.underlying92 rfl sz92 rfl R_12 (by first | exact of_decide_eq_true rfl | omega) (rfl : _ = Value.agg #[_, _, _])) ?_
       refine q_val .none rfl (p_nea rfl rfl (eq_flat Try.underlying92 rfl lf92 ef92 eg92 (.cons (.int Try.underlying3) (.cons (.int Try.underlying3) (.cons (.int Try.underlying3) (.nil)))) (.cons (.int Try.underlying3) (.cons (.int Try.underlying3) (.cons (.int Try.underlying3) (.nil)))))) ?_
       refine q_nil ?_
       refine e_next ?_
       refine c_splitn (d := 24) rfl (fun h_15 => ?_) (fun h_15 => ?_)
       ·
        have hE : a.getD k t0 ≠ b.getD k t0 := of_decide_eq_false ((tC_eq _ _).symm.trans h_15)
        first
         | (exfalso; omega)
         | (
          refine c_cond_t rfl ?_
          refine c_seq ?_
          refine c_region ?_
          refine r_val .none rfl (p_assign rfl) ?_
          refine r_nil ?_
          refine e_next ?_
          refine c_ret ?_
          refine e_ret_block ?_
          refine e_ret_then ?_
          refine e_ret_then ?_
          refine e_ret_block ?_
          refine e_ret_then ?_
          refine e_ret1 Try.results50 (.tmp rfl .nil) (fun w hm => ⟨?_, hm.since⟩)
          first
          | exact congrArg Value.bool (decide_eq_false (ne_of_len (by omega))).symm
          | exact congrArg Value.bool (decide_eq_false (ne_of_get hE)).symm
          | (have hk := hphi.2.2; rw [List.take_of_length_le (by omega), List.take_of_length_le (by omega)] at hk; exact congrArg Value.bool (decide_eq_true hk).symm)
          )
       ·
        have hE : a.getD k t0 = b.getD k t0 := of_decide_eq_true ((tC_eq _ _).symm.trans h_15)
        first
         | (exfalso; omega)
         | (
          refine c_cond_f rfl ?_
          refine c_skip ?_
          refine e_norm_block ?_
          refine e_next ?_
          refine c_region ?_
          refine r_val .none rfl (p_add rfl rfl (by omega)) ?_
          refine r_val .none rfl (p_move rfl) ?_
          refine r_nil ?_
          refine e_round (k + 1) ⟨⟨by omega, hphi.2.1, take_eq_succ (d := t0) (by omega) (by omega) hphi.2.2 hE⟩, by omega⟩ rfl ⟨rfl, rfl, rfl, rfl, trivial⟩ (.nil)
          )
       )
    ·
     first
      | (exfalso; omega)
      | (
       refine c_cond_f rfl ?_
       refine c_exit ?_
       refine e_exit_then ?_
       refine e_exit_then ?_
       refine e_exit_block ?_
       refine e_next ?_
       refine c_seq ?_
       refine c_region ?_
       refine r_val .none rfl (p_assign rfl) ?_
       refine r_nil ?_
       refine e_next ?_
       refine c_ret ?_
       refine e_ret1 Try.results50 (.tmp rfl .nil) (fun w hm => ⟨?_, hm.since⟩)
       first
       | exact congrArg Value.bool (decide_eq_false (ne_of_len (by omega))).symm
       | exact congrArg Value.bool (decide_eq_false (ne_of_get hE)).symm
       | (have hk := hphi.2.2; rw [List.take_of_length_le (by omega), List.take_of_length_le (by omega)] at hk; exact congrArg Value.bool (decide_eq_true hk).symm)
       )
    )
theorem c_eqfS (n : Nat) (ih : CsameIs n) (v v2 : Value) (l l2 : List ST) {G : Ghost} (hz : ∀ x ∈ l, SizeOf.sizeOf x ≤ n) (hs : Ss G v l) (hs2 : Ss G v2 l2) (w : World) (hG : Has G w) :
  Calls Try.prog 51 #[v, v2, Value.func (.func 29) #[] #[]] w (Ret fun r w' => r = Value.bool (seqL l l2) ∧ Since nX w w') := by
 refine enter (args := [_, _, _]) (X := nX) (G := G) (l := [(0, v), (1, v2), (2, Value.func (.func 29) #[] #[])]) Try.func51 rfl Try.ntmps51 hG ⟨rfl, rfl, rfl, trivial⟩ (Nat.le_of_ble_eq_true rfl) ?_
 obtain ⟨rs, hr, hrt, hrs, hl⟩ := hs.inv
 obtain ⟨rs2, hr2, hrt2, hrs2, hl2⟩ := hs2.inv
 have hbd := hr.bound
 have hbd2 := hr2.bound
 refine c_seq ?_
 refine c_region ?_
 refine r_val .none rfl (p_assign rfl) ?_
 refine r_nil ?_
 refine e_next ?_
 refine c_seq ?_
 refine c_seq ?_
 refine c_region ?_
 refine r_val .none rfl (p_move rfl) ?_
 refine r_val .none rfl (p_leng Try.underlying50 rfl hr) ?_
 have bd_1 := (hr).bound
 refine r_val .none rfl (p_move rfl) ?_
 refine r_val .none rfl (p_leng Try.underlying50 rfl hr2) ?_
 have bd_2 := (hr2).bound
 refine r_val .none rfl (p_ne rfl rfl) ?_
 refine r_nil ?_
 refine e_next ?_
 refine c_splitd (d := 14) rfl (fun h_3 => ?_) (fun h_3 => ?_)
 ·
  first
   | (exfalso; omega)
   | (
    refine c_cond_t rfl ?_
    refine c_seq ?_
    refine c_region ?_
    refine r_val .none rfl (p_assign rfl) ?_
    refine r_nil ?_
    refine e_next ?_
    refine c_ret ?_
    refine e_ret_then ?_
    refine e_ret1 Try.results51 (.tmp rfl .nil) (fun w hm => ⟨?_, hm.since⟩)
    first
    | (rw [hl, hl2, seqL_len (by simp; omega)])
    | (rw [hl, hl2, ← hphi.2.2, seqL_no (by omega) (by omega) hE])
    | (rw [hl, hl2, ← hphi.2.2, List.drop_eq_nil_of_le (by simp; omega), List.drop_eq_nil_of_le (by simp; omega)]; rfl)
    )
 ·
  first
   | (exfalso; omega)
   | (
    refine c_cond_f rfl ?_
    refine c_skip ?_
    refine e_next ?_
    refine c_seq ?_
    refine c_seq ?_
    refine c_region ?_
    refine r_val .none rfl (p_move rfl) ?_
    refine r_val .none rfl (p_leng Try.underlying50 rfl hr) ?_
    have bd_4 := (hr).bound
    refine r_val .none rfl (p_move rfl) ?_
    refine r_nil ?_
    refine e_next ?_
    refine c_block ?_
    refine c_name (d := 1) rfl (fun u_5 hu_5 => ?_)
    refine c_name (d := 2) rfl (fun u_6 hu_6 => ?_)
    refine c_name (d := 15) rfl (fun u_7 hu_7 => ?_)
    refine c_name (d := 16) rfl (fun u_8 hu_8 => ?_)
    refine c_loop (σ := Nat) (fun k => [(17, Value.int .i64 (k : Nat)), (1, u_5), (2, u_6), (15, u_7), (16, u_8)]) (fun k => []) (fun _ => _) (fun k => k ≤ rs.length ∧ rs.length = rs2.length ∧ seqL ((rs.map Prod.fst).drop k) ((rs2.map Prod.fst).drop k) = seqL (rs.map Prod.fst) (rs2.map Prod.fst)) (fun k => rs.length - k) (0) ⟨Nat.zero_le _, by omega, rfl⟩ rfl ⟨rfl, rfl, rfl, rfl, rfl, trivial⟩ (.nil) (fun k hphi => ?_)
    subst hu_5
    subst hu_6
    subst hu_7
    subst hu_8
    refine c_seq ?_
    refine c_region ?_
    refine r_val .none rfl (p_lt rfl rfl) ?_
    refine r_nil ?_
    refine e_next ?_
    refine c_seq ?_
    refine c_splitd (d := 18) rfl (fun h_9 => ?_) (fun h_9 => ?_)
    ·
     first
      | (exfalso; omega)
      | (
       refine c_cond_t rfl ?_
       refine c_skip ?_
       refine e_next ?_
       refine c_seq ?_
       refine c_block ?_
       refine c_seq ?_
       refine c_region ?_
       refine r_val .none rfl (p_move rfl) ?_
       refine r_iaddr_g .none rfl Try.underlying50 sz64 rfl hr rfl (by first | exact of_decide_eq_true rfl | omega) (fun p_11 o_12 R_10 => ?_)
       have ht_13 := hrt _ (getD_mem (i := k) (d := s0) (by omega))
       have hc_14 := hrs _ (getD_mem (i := k) (d := s0) (by omega))
       refine r_val .none rfl (p_ldga0 Try.underlying64 rfl sz64 rfl R_10 (by first | exact of_decide_eq_true rfl | omega) (rfl : _ = Value.agg #[_, _, _, _, _, _])) ?_
       refine r_alloc .none rfl zr64 (IsRow.lit _) (fun b_1 => ?_)
       refine r_val .none rfl (p_assign rfl) ?_
       refine r_stw (k := 0) .none sz64 rfl rfl (IsRow.lit _) (one_lit rfl (all_cons rfl (all_cons rfl (all_cons rfl (all_cons rfl (all_cons (ht_13).one (all_cons (hc_14).one rfl))))))) rfl ?_
       refine r_nil ?_
       refine e_next ?_
       refine c_seq ?_
       refine c_region ?_
       refine r_val .none rfl (p_move rfl) ?_
       refine r_val .none rfl (p_move rfl) ?_
       refine r_iaddr_g .none rfl Try.underlying50 sz64 rfl hr2 rfl (by first | exact of_decide_eq_true rfl | omega) (fun p_16 o_17 R_15 => ?_)
       have ht_18 := hrt2 _ (getD_mem (i := k) (d := s0) (by omega))
       have hc_19 := hrs2 _ (getD_mem (i := k) (d := s0) (by omega))
       refine r_val .none rfl (p_ldga0 Try.underlying64 rfl sz64 rfl R_15 (by first | exact of_decide_eq_true rfl | omega) (rfl : _ = Value.agg #[_, _, _, _, _, _])) ?_
       refine r_alloc .none rfl zr64 (IsRow.lit _) (fun b_2 => ?_)
       refine r_stw (k := 0) .none sz64 rfl rfl (IsRow.lit _) (one_lit rfl (all_cons rfl (all_cons rfl (all_cons rfl (all_cons rfl (all_cons (ht_18).one (all_cons (hc_19).one rfl))))))) rfl ?_
       refine r_nil ?_
       refine e_next ?_
       refine c_seq ?_
       refine c_region ?_
       refine r_val .none rfl (p_move rfl) ?_
       refine r_val .none rfl (p_ldw (k := 1) Try.underlying64 rfl sz64 rfl rfl (rfl : _ = Value.agg #[_, _, _, _, _, _])) ?_
       refine r_val .none rfl (p_ldw (k := 0) Try.underlying64 rfl sz64 rfl rfl (rfl : _ = Value.agg #[_, _, _, _, _, _])) ?_
       refine r_fun (cs := []) .none rfl ?_
       refine r_call (vs := [_, _]) .none rfl cl29 rfl (fun w hw => ih (rs.getD k s0).1 _ _ _ _ _ _ w (hz _ (by rw [hl]; exact sv_mem (k := k) (by omega))) ht_13 hc_14 ht_18 hc_19 hw) ?_
       refine r_val .none rfl (p_not rfl) ?_
       refine r_nil ?_
       refine e_next ?_
       refine c_splitn (d := 30) rfl (fun h_20 => ?_) (fun h_20 => ?_)
       ·
        have hE := h_20
        first
         | (exfalso; omega)
         | (
          refine c_cond_t rfl ?_
          refine c_seq ?_
          refine c_region ?_
          refine r_val .none rfl (p_assign rfl) ?_
          refine r_nil ?_
          refine e_next ?_
          refine c_ret ?_
          refine e_ret_block ?_
          refine e_ret_then ?_
          refine e_ret_then ?_
          refine e_ret_block ?_
          refine e_ret_then ?_
          refine e_ret1 Try.results51 (.tmp rfl .nil) (fun w hm => ⟨?_, hm.since⟩)
          first
          | (rw [hl, hl2, seqL_len (by simp; omega)])
          | (rw [hl, hl2, ← hphi.2.2, seqL_no (by omega) (by omega) hE])
          | (rw [hl, hl2, ← hphi.2.2, List.drop_eq_nil_of_le (by simp; omega), List.drop_eq_nil_of_le (by simp; omega)]; rfl)
          )
       ·
        have hE := h_20
        first
         | (exfalso; omega)
         | (
          refine c_cond_f rfl ?_
          refine c_skip ?_
          refine e_norm_block ?_
          refine e_next ?_
          refine c_region ?_
          refine r_val .none rfl (p_add rfl rfl (by omega)) ?_
          refine r_val .none rfl (p_move rfl) ?_
          refine r_nil ?_
          refine e_round (k + 1) ⟨⟨by omega, hphi.2.1, by rw [seqL_yes (by omega) (by omega) hE]; exact hphi.2.2⟩, by omega⟩ rfl ⟨rfl, rfl, rfl, rfl, rfl, trivial⟩ (.drop (.drop (.nil)))
          )
       )
    ·
     first
      | (exfalso; omega)
      | (
       refine c_cond_f rfl ?_
       refine c_exit ?_
       refine e_exit_then ?_
       refine e_exit_then ?_
       refine e_exit_block ?_
       refine e_next ?_
       refine c_seq ?_
       refine c_region ?_
       refine r_val .none rfl (p_assign rfl) ?_
       refine r_nil ?_
       refine e_next ?_
       refine c_ret ?_
       refine e_ret1 Try.results51 (.tmp rfl .nil) (fun w hm => ⟨?_, hm.since⟩)
       first
       | (rw [hl, hl2, seqL_len (by simp; omega)])
       | (rw [hl, hl2, ← hphi.2.2, seqL_no (by omega) (by omega) hE])
       | (rw [hl, hl2, ← hphi.2.2, List.drop_eq_nil_of_le (by simp; omega), List.drop_eq_nil_of_le (by simp; omega)]; rfl)
       )
    )
theorem c_csame_s (n : Nat) (ih : CsameIs n) (c c2 : ST) (ta sb ta2 sb2 : Value) {G : Ghost} (hz : SizeOf.sizeOf c ≤ n + 1) (ht : SlL G ta 3 tC t0 c.h.ts) (hs : Ss G sb c.subs) (ht2 : SlL G ta2 3 tC t0 c2.h.ts) (hs2 : Ss G sb2 c2.subs) (w : World) (hG : Has G w) :
  Calls Try.prog 29 #[Value.agg #[Value.int .i64 c.h.k, Value.int .i64 c.h.k0, Value.int .i64 c.h.k1, Value.int .i64 c.h.k2, ta, sb], Value.agg #[Value.int .i64 c2.h.k, Value.int .i64 c2.h.k0, Value.int .i64 c2.h.k1, Value.int .i64 c2.h.k2, ta2, sb2]] w (Ret fun r w' => r = Value.bool (seq c c2) ∧ Since nX w w') := by
 refine enter (args := [_, _]) (X := nX) (G := G) (l := [(0, Value.agg #[Value.int .i64 c.h.k, Value.int .i64 c.h.k0, Value.int .i64 c.h.k1, Value.int .i64 c.h.k2, ta, sb]), (1, Value.agg #[Value.int .i64 c2.h.k, Value.int .i64 c2.h.k0, Value.int .i64 c2.h.k1, Value.int .i64 c2.h.k2, ta2, sb2])]) Try.func29 rfl Try.ntmps29 hG ⟨rfl, rfl, trivial⟩ (Nat.le_of_ble_eq_true rfl) ?_
 refine c_seq ?_
 refine c_region ?_
 refine r_box .none rfl rfl (IsRow.lit _) (fun b_1 => ?_)
 refine r_box .none rfl rfl (IsRow.lit _) (fun b_2 => ?_)
 refine r_val .none rfl (p_assign rfl) ?_
 refine r_nil ?_
 refine e_next ?_
 refine c_seq ?_
 refine c_region ?_
 refine r_val .none rfl (p_field Try.underlying64 rfl sz3 rfl) ?_
 refine r_val .none rfl (p_ld (k := 1) Try.underlying3 rfl rfl rfl (by first | exact of_decide_eq_true rfl | omega) (rfl : _ = Value.int _ _)) ?_
 refine r_val .none rfl (p_field Try.underlying64 rfl sz3 rfl) ?_
 refine r_val .none rfl (p_ld (k := 0) Try.underlying3 rfl rfl rfl (by first | exact of_decide_eq_true rfl | omega) (rfl : _ = Value.int _ _)) ?_
 refine r_val .none rfl (p_eq rfl rfl) ?_
 refine r_val .none rfl (p_move rfl) ?_
 refine' r_and (c := 10) (d := 16) [_, _, _, _, _, _] rfl (fun h_1 Q_2 hQ_3 => ?_) (fun h_1 Q_2 hQ_3 => ?_) ?_
 rotate_left 1
 ·
  replace h_1 := of_decide_eq_true h_1
  refine r_val (.some rfl rfl) rfl (p_field Try.underlying64 rfl sz61 rfl) ?_
  refine r_val (.some rfl rfl) rfl (p_lda (k := 1) Try.underlying61 rfl sz61 rfl rfl (by first | exact of_decide_eq_true rfl | omega) (rfl : _ = Value.agg #[_, _, _])) ?_
  refine r_val (.some rfl rfl) rfl (p_field Try.underlying64 rfl sz61 rfl) ?_
  refine r_val (.some rfl rfl) rfl (p_lda (k := 0) Try.underlying61 rfl sz61 rfl rfl (by first | exact of_decide_eq_true rfl | omega) (rfl : _ = Value.agg #[_, _, _])) ?_
  refine r_val (.some rfl rfl) rfl (p_eqa rfl rfl (eq_flat Try.underlying61 rfl lf61 ef61 eg61 (.cons (.int Try.underlying3) (.cons (.int Try.underlying3) (.cons (.int Try.underlying3) (.nil)))) (.cons (.int Try.underlying3) (.cons (.int Try.underlying3) (.cons (.int Try.underlying3) (.nil)))))) ?_
  refine r_val .none rfl (p_pick_t rfl rfl) ?_
  refine r_nil (e_fin (d := 16) hQ_3 rfl (by repeat (first | exact .refl | refine .put rfl ?_ | refine .say rfl ?_ | refine .say2 rfl (by first | assumption | simp_all) ?_)))
 ·
  repeat (first | refine r_skip rfl (.no rfl rfl) ?_ | refine r_skip rfl (.un rfl rfl) ?_)
  refine r_val (by first | exact .none | exact .some rfl rfl) rfl (p_pick_f rfl rfl) ?_
  refine r_nil (e_fin (d := 16) hQ_3 rfl (by repeat (first | exact .refl | refine .put rfl ?_ | refine .say rfl ?_ | refine .say2 rfl (by first | assumption | simp_all) ?_)))
 refine r_val .none rfl (p_move rfl) ?_
 refine' r_and (c := 17) (d := 23) [_, _, _, _, _, _] rfl (fun h_5 Q_6 hQ_7 => ?_) (fun h_5 Q_6 hQ_7 => ?_) ?_
 rotate_left 1
 ·
  try simp only [norms] at h_5
  refine r_val (.some rfl rfl) rfl (p_field Try.underlying64 rfl sz62 rfl) ?_
  refine r_val (.some rfl rfl) rfl (p_ld (k := 1) Try.underlying62 rfl rfl rfl (by first | exact of_decide_eq_true rfl | omega) rfl) ?_
  refine r_val (.some rfl rfl) rfl (p_field Try.underlying64 rfl sz62 rfl) ?_
  refine r_val (.some rfl rfl) rfl (p_ld (k := 0) Try.underlying62 rfl rfl rfl (by first | exact of_decide_eq_true rfl | omega) rfl) ?_
  refine r_call (vs := [_, _]) (.some rfl rfl) rfl cl50 rfl (fun w hw => c_eqT _ _ _ _ ht ht2 w hw) ?_
  refine r_val .none rfl (p_pick_t rfl rfl) ?_
  refine r_nil (e_fin (d := 23) hQ_7 rfl (by repeat (first | exact .refl | refine .put rfl ?_ | refine .say rfl ?_ | refine .say2 rfl (by first | assumption | simp_all) ?_)))
 ·
  repeat (first | refine r_skip rfl (.no rfl rfl) ?_ | refine r_skip rfl (.un rfl rfl) ?_)
  refine r_val (by first | exact .none | exact .some rfl rfl) rfl (p_pick_f rfl rfl) ?_
  refine r_nil (e_fin (d := 23) hQ_7 rfl (by repeat (first | exact .refl | refine .put rfl ?_ | refine .say rfl ?_ | refine .say2 rfl (by first | assumption | simp_all) ?_)))
 refine r_val .none rfl (p_move rfl) ?_
 refine' r_and (c := 24) (d := 30) [_, _, _, _, _, _] rfl (fun h_9 Q_10 hQ_11 => ?_) (fun h_9 Q_10 hQ_11 => ?_) ?_
 rotate_left 1
 ·
  try simp only [norms] at h_9
  refine r_val (.some rfl rfl) rfl (p_field Try.underlying64 rfl sz50 rfl) ?_
  refine r_val (.some rfl rfl) rfl (p_ld (k := 1) Try.underlying50 rfl rfl rfl (by first | exact of_decide_eq_true rfl | omega) rfl) ?_
  refine r_val (.some rfl rfl) rfl (p_field Try.underlying64 rfl sz50 rfl) ?_
  refine r_val (.some rfl rfl) rfl (p_ld (k := 0) Try.underlying50 rfl rfl rfl (by first | exact of_decide_eq_true rfl | omega) rfl) ?_
  refine r_call (vs := [_, _, _]) (.some rfl rfl) rfl cl51 rfl (fun w hw => c_eqfS n ih _ _ _ _ (fun x hx => by have := List.sizeOf_lt_of_mem hx; have := s_subs c; omega) hs hs2 w hw) ?_
  refine r_val .none rfl (p_pick_t rfl rfl) ?_
  refine r_nil (e_fin (d := 30) hQ_11 rfl (by repeat (first | exact .refl | refine .put rfl ?_ | refine .say rfl ?_ | refine .say2 rfl (by first | assumption | simp_all) ?_)))
 ·
  repeat (first | refine r_skip rfl (.no rfl rfl) ?_ | refine r_skip rfl (.un rfl rfl) ?_)
  refine r_val (by first | exact .none | exact .some rfl rfl) rfl (p_pick_f rfl rfl) ?_
  refine r_nil (e_fin (d := 30) hQ_11 rfl (by repeat (first | exact .refl | refine .put rfl ?_ | refine .say rfl ?_ | refine .say2 rfl (by first | assumption | simp_all) ?_)))
 refine r_val .none rfl (p_assign rfl) ?_
 refine r_nil ?_
 refine e_next ?_
 refine c_ret ?_
 refine e_ret1 Try.results29 (.tmp rfl .nil) (fun w hm => ⟨?_, hm.since⟩)
 rw [seq_eq]
 first
 | rfl
 | (show _ = _; congr 1; simp only [Bool.and_assoc]; rfl)
theorem c_csame_n : ∀ n, CsameIs n
 | 0 => fun c c2 ta sb ta2 sb2 G w hz _ _ _ _ _ => absurd hz (by have := s_pos c; omega)
 | n + 1 => fun c c2 ta sb ta2 sb2 G w hz ht hs ht2 hs2 hG => c_csame_s n (c_csame_n n) c c2 ta sb ta2 sb2 hz ht hs ht2 hs2 w hG
theorem c_csame (c c2 : ST) (ta sb ta2 sb2 : Value) {G : Ghost} (ht : SlL G ta 3 tC t0 c.h.ts) (hs : Ss G sb c.subs) (ht2 : SlL G ta2 3 tC t0 c2.h.ts) (hs2 : Ss G sb2 c2.subs) (w : World) (hG : Has G w) : Calls Try.prog 29 #[Value.agg #[Value.int .i64 c.h.k, Value.int .i64 c.h.k0, Value.int .i64 c.h.k1, Value.int .i64 c.h.k2, ta, sb], Value.agg #[Value.int .i64 c2.h.k, Value.int .i64 c2.h.k0, Value.int .i64 c2.h.k1, Value.int .i64 c2.h.k2, ta2, sb2]] w (Ret fun r w' => r = Value.bool (seq c c2) ∧ Since nX w w') := c_csame_n _ c c2 ta sb ta2 sb2 G w (Nat.le_refl _) ht hs ht2 hs2 hG
end Go.Proofs.Ytoflaphnlfggkaa
