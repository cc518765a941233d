/- Plain laws of steps: trees with tests; what conditions are compiled to; no program in sight. -/
import Derived.Test.YtoflaphnlfggkaaPl04
import Derived.Test.YtoflaphnlfggkaaGxFreeze
namespace Go.Gx.T8
open Go.Gx Go.Gx.T3 Go.Gx.T4

abbrev TD := Int × Int × Int
def tC (t : TD) : List Value := [.int .i64 t.1, .int .i64 t.2.1, .int .i64 t.2.2]
abbrev t0 : TD := (0, 0, 0)
/-- A step but for what stands below it. -/
structure SH where
  k : Int
  k0 : Int
  k1 : Int
  k2 : Int
  ts : List TD
inductive ST where
  | mk (h : SH) (subs : List ST)
def ST.h : ST → SH | .mk h _ => h
def ST.subs : ST → List ST | .mk _ l => l
abbrev SVal := ST × Value × Value
abbrev s0 : SVal := (.mk ⟨0, 0, 0, 0, []⟩ [], .slice none 0 0, .slice none 0 0)
def sC (p : SVal) : List Value := [.int .i64 p.1.h.k, .int .i64 p.1.h.k0, .int .i64 p.1.h.k1, .int .i64 p.1.h.k2, p.2.1, p.2.2]
/-- The value v is a slice of steps. -/
inductive Ss (G : Ghost) : Value → List ST → Prop
  | mk {v : Value} (rs : List SVal) (h : SlL G v 6 sC s0 rs) (ht : ∀ p ∈ rs, SlL G p.2.1 3 tC t0 p.1.h.ts) (hs : ∀ p ∈ rs, Ss G p.2.2 p.1.subs) : Ss G v (rs.map Prod.fst)
theorem Ss.inv {G : Ghost} {v : Value} {l : List ST} (h : Ss G v l) : ∃ rs : List SVal, SlL G v 6 sC s0 rs ∧ (∀ p ∈ rs, SlL G p.2.1 3 tC t0 p.1.h.ts) ∧ (∀ p ∈ rs, Ss G p.2.2 p.1.subs) ∧ l = rs.map Prod.fst := by
  cases h with
  | mk rs h ht hs => exact ⟨rs, h, ht, hs, rfl⟩
theorem Ss.mono {G G' : Ghost} {v : Value} {l : List ST} (h : Ss G v l) (hle : GLe G G') : Ss G' v l := by
  induction h with
  | mk rs h ht _ ih => exact .mk rs (h.mono hle) (fun p hp => (ht p hp).mono hle) ih
theorem Ss.one {G : Ghost} {v : Value} {l : List ST} (h : Ss G v l) : v.oneCell' = true := by
  cases h with
  | mk rs h _ _ => exact h.one
theorem Ss.nil {G : Ghost} : Ss G (.slice none 0 0) [] := Ss.mk [] (SlG.nil _ _ _) (by simp) (by simp)

/-- A part of a slice of trees, from its beginning on. -/
theorem Tr.take {α : Type} {subs : α → List α} {cf : α × Value → List Value} {sz k : Nat} {d : α × Value} {G : Ghost} {v : Value} {rs : List (α × Value)} (hk : k ≤ rs.length) (h : SlG G v k sz (fun i => at_ (cf (rs.getD i d)))) (hs : ∀ p ∈ rs, Tr subs cf sz d G p.2 (subs p.1)) : SlL G v sz cf d (rs.take k) ∧ Tr subs cf sz d G v ((rs.take k).map Prod.fst) := by
  have h1 : SlL G v sz cf d (rs.take k) := by
    unfold SlL
    rw [List.length_take, Nat.min_eq_left hk]
    refine h.congr fun i hi j _ => ?_
    simp [List.getD, List.getElem?_take, hi]
  exact ⟨h1, Tr.mk _ h1 fun p hp => hs p (List.mem_of_mem_take hp)⟩

theorem rv_ones {G : Ghost} {rs : List (CT × Value)} (hp : ∀ p ∈ rs, Rs G p.2 p.1.subs) : ∀ i, i < rs.length → ∀ j, j < 8 → (at_ (rvC (rs.getD i d0)) j).oneCell' = true := by
  intro i hi j hj
  have h := (hp _ (getD_mem (d := d0) hi)).one
  match j, hj with
  | 0, _ => rfl
  | 1, _ => rfl
  | 2, _ => rfl
  | 3, _ => rfl
  | 4, _ => rfl
  | 5, _ => rfl
  | 6, _ => rfl
  | 7, _ => exact h

/-! ### where a variable is bound -/
def firstF (h : Hd) (v : Int) : Option Int :=
  if h.v0 = true ∧ h.n0 = v then some 0 else if h.v1 = true ∧ h.n1 = v then some 1 else if h.v2 = true ∧ h.n2 = v then some 2 else none
def bound (v : Int) : List CT → Int → Option (Int × Int)
  | [], _ => none
  | c :: t, b => if c.h.k = 1 then (match firstF c.h v with | some f => some (b, f) | none => bound v t (b + 1)) else bound v t b
theorem bound_skip {v b : Int} {c : CT} {t : List CT} (h : c.h.k ≠ 1) : bound v (c :: t) b = bound v t b := by rw [bound, if_neg h]
theorem bound_next {v b : Int} {c : CT} {t : List CT} (h : c.h.k = 1) (hf : firstF c.h v = none) : bound v (c :: t) b = bound v t (b + 1) := by rw [bound, if_pos h, hf]
theorem bound_here {v b f : Int} {c : CT} {t : List CT} (h : c.h.k = 1) (hf : firstF c.h v = some f) : bound v (c :: t) b = some (b, f) := by rw [bound, if_pos h, hf]
theorem firstF_at {h : Hd} {v : Int} (f : Int) (e : (f = 0 ∧ vi h.v0 = 1 ∧ h.n0 = v) ∨ (f = 1 ∧ ¬ (vi h.v0 = 1 ∧ h.n0 = v) ∧ vi h.v1 = 1 ∧ h.n1 = v) ∨ (f = 2 ∧ ¬ (vi h.v0 = 1 ∧ h.n0 = v) ∧ ¬ (vi h.v1 = 1 ∧ h.n1 = v) ∧ vi h.v2 = 1 ∧ h.n2 = v)) : firstF h v = some f := by
  have b0 : vi h.v0 = 1 ↔ h.v0 = true := by cases h.v0 <;> simp [vi]
  have b1 : vi h.v1 = 1 ↔ h.v1 = true := by cases h.v1 <;> simp [vi]
  have b2 : vi h.v2 = 1 ↔ h.v2 = true := by cases h.v2 <;> simp [vi]
  rw [b0, b1, b2] at e
  unfold firstF
  rcases e with ⟨rfl, e⟩ | ⟨rfl, e1, e⟩ | ⟨rfl, e1, e2, e⟩
  · rw [if_pos e]
  · rw [if_neg e1, if_pos e]
  · rw [if_neg e1, if_neg e2, if_pos e]
theorem firstF_no {h : Hd} {v : Int} (e : ¬ (vi h.v0 = 1 ∧ h.n0 = v) ∧ ¬ (vi h.v1 = 1 ∧ h.n1 = v) ∧ ¬ (vi h.v2 = 1 ∧ h.n2 = v)) : firstF h v = none := by
  have b0 : vi h.v0 = 1 ↔ h.v0 = true := by cases h.v0 <;> simp [vi]
  have b1 : vi h.v1 = 1 ↔ h.v1 = true := by cases h.v1 <;> simp [vi]
  have b2 : vi h.v2 = 1 ↔ h.v2 = true := by cases h.v2 <;> simp [vi]
  rw [b0, b1, b2] at e
  unfold firstF
  rw [if_neg e.1, if_neg e.2.1, if_neg e.2.2]
theorem firstF_lt {h : Hd} {v f : Int} (e : firstF h v = some f) : 0 ≤ f ∧ f ≤ 2 := by
  unfold firstF at e
  repeat' split at e
  all_goals simp at e
  all_goals omega
theorem bound_lt {v : Int} : ∀ {l : List CT} {b : Int} {x : Int × Int}, bound v l b = some x → (b ≤ x.1 ∧ x.1 < b + l.length) ∧ 0 ≤ x.2 ∧ x.2 ≤ 2
  | [], _, _, h => by simp [bound] at h
  | c :: t, b, x, h => by
    rw [bound] at h
    split at h
    · split at h
      · rename_i f hf
        simp at h; subst h
        have := firstF_lt hf
        simp; omega
      · have := bound_lt h; simp; omega
    · have := bound_lt h; simp; omega

/-! ### steps -/
def vF (h : Hd) : Nat → Bool | 0 => h.v0 | 1 => h.v1 | _ => h.v2
def nF (h : Hd) : Nat → Int | 0 => h.n0 | 1 => h.n1 | _ => h.n2
/-- Is term g what term f is? -/
def sameF (h : Hd) (g f : Nat) : Bool := decide (vF h g = vF h f) && decide (nF h g = nF h f)
/-- The first term ahead of term f, from g on, that is alike. -/
def dupF (h : Hd) (f : Nat) : Option Int := if f ≥ 1 ∧ sameF h 0 f = true then some 0 else if f ≥ 2 ∧ sameF h 1 f = true then some 1 else none
/-- The test of field f. -/
def testF (ch : List CT) (h : Hd) (f : Nat) : List TD :=
  if vF h f = true then (match bound (nF h f) ch 0 with
    | some x => [((f : Int), x.1, x.2)]
    | none => match dupF h f with | some g => [((f : Int), -1, g)] | none => []) else []
def testsTo (ch : List CT) (h : Hd) : Nat → List TD
  | 0 => []
  | f + 1 => testsTo ch h f ++ testF ch h f
theorem testsTo_succ (ch : List CT) (h : Hd) (f : Nat) : testsTo ch h (f + 1) = testsTo ch h f ++ testF ch h f := rfl
def keyTo (h : Hd) (f i : Nat) : Int := if i < f ∧ vF h i = false then nF h i else 0
mutual
def stepOf : List CT → CT → ST
  | ch, .mk h l => if h.k = 3 then .mk ⟨h.k, 0, 0, 0, []⟩ (stepsOf ch l) else .mk ⟨h.k, keyTo h 3 0, keyTo h 3 1, keyTo h 3 2, testsTo ch h 3⟩ []
def stepsOf : List CT → List CT → List ST
  | _, [] => []
  | ch, c :: t => stepOf ch c :: stepsOf (ch ++ [c]) t
end
theorem stepOf_ncc {ch : List CT} {c : CT} (h : c.h.k = 3) : stepOf ch c = .mk ⟨c.h.k, 0, 0, 0, []⟩ (stepsOf ch c.subs) := by
  cases c with | mk hd l => have h' : hd.k = 3 := h; rw [stepOf, if_pos h']; rfl
theorem stepOf_other {ch : List CT} {c : CT} (h : c.h.k ≠ 3) : stepOf ch c = .mk ⟨c.h.k, keyTo c.h 3 0, keyTo c.h 3 1, keyTo c.h 3 2, testsTo ch c.h 3⟩ [] := by
  cases c with | mk hd l => have h' : hd.k ≠ 3 := h; rw [stepOf, if_neg h']; rfl
theorem stepsOf_append (a b : List CT) : ∀ ch, stepsOf ch (a ++ b) = stepsOf ch a ++ stepsOf (ch ++ a) b := by
  induction a with
  | nil => intro ch; simp [stepsOf]
  | cons c t ih => intro ch; simp [stepsOf, ih]
theorem stepsOf_len : ∀ (l ch : List CT), (stepsOf ch l).length = l.length
  | [], _ => by simp [stepsOf]
  | c :: t, ch => by simp [stepsOf, stepsOf_len t]
theorem stepsOf_take {rs : List (CT × Value)} {k : Nat} {ch : List CT} (hk : k < rs.length) : stepsOf ch ((rs.map Prod.fst).take (k + 1)) = stepsOf ch ((rs.map Prod.fst).take k) ++ [stepOf (ch ++ (rs.map Prod.fst).take k) (rs.getD k d0).1] := by
  rw [map_take (d := d0) hk, stepsOf_append]; simp [stepsOf]
theorem testsTo_len (ch : List CT) (h : Hd) : ∀ f, (testsTo ch h f).length ≤ f
  | 0 => Nat.le_refl _
  | f + 1 => by
    have := testsTo_len ch h f
    have h2 : (testF ch h f).length ≤ 1 := by
      unfold testF; repeat' split
      all_goals simp
    rw [testsTo, List.length_append]; omega
theorem same_cs (h : Hd) (g f : Nat) : csEq [.int .i64 (vi (vF h g)), .int .i64 (nF h g)] [.int .i64 (vi (vF h f)), .int .i64 (nF h f)] = sameF h g f := by
  unfold sameF
  cases vF h g <;> cases vF h f <;> simp [csEq, cEq, vi]
theorem vF_no {h : Hd} {f : Nat} (e : vi (vF h f) = 0) : vF h f = false := by cases x : vF h f <;> simp_all [vi]
theorem vF_yes {h : Hd} {f : Nat} (e : ¬ vi (vF h f) = 0) : vF h f = true := by cases x : vF h f <;> simp_all [vi]
theorem T1 {ch : List CT} {h : Hd} {f : Nat} (hv : vF h f = false) : testF ch h f = [] := by unfold testF; rw [if_neg (by rw [hv]; decide)]
theorem T2 {ch : List CT} {h : Hd} {f : Nat} (hv : vF h f = true) (hb : (bound (nF h f) ch 0).isSome = true) : testF ch h f = [((f : Int), ((bound (nF h f) ch 0).getD (0, 0)).1, ((bound (nF h f) ch 0).getD (0, 0)).2)] := by
  unfold testF
  obtain ⟨x, hx⟩ := Option.isSome_iff_exists.1 hb
  rw [if_pos hv, hx]; rfl
theorem T3 {ch : List CT} {h : Hd} {f : Nat} {g : Int} (hv : vF h f = true) (hb : (bound (nF h f) ch 0).isSome = false) (hd : dupF h f = some g) : testF ch h f = [((f : Int), -1, g)] := by
  unfold testF
  have hn : bound (nF h f) ch 0 = none := by
    cases e : bound (nF h f) ch 0 with
    | none => rfl
    | some x => rw [e] at hb; cases hb
  rw [if_pos hv, hn, hd]
theorem T4 {ch : List CT} {h : Hd} {f : Nat} (hv : vF h f = true) (hb : (bound (nF h f) ch 0).isSome = false) (hd : dupF h f = none) : testF ch h f = [] := by
  unfold testF
  have hn : bound (nF h f) ch 0 = none := by
    cases e : bound (nF h f) ch 0 with
    | none => rfl
    | some x => rw [e] at hb; cases hb
  rw [if_pos hv, hn, hd]
theorem dup0 (h : Hd) : dupF h 0 = none := by simp [dupF]
theorem dup1_yes {h : Hd} (s : sameF h 0 1 = true) : dupF h 1 = some 0 := by simp [dupF, s]
theorem dup1_no {h : Hd} (s : sameF h 0 1 = false) : dupF h 1 = none := by simp [dupF, s]
theorem dup2_0 {h : Hd} (s : sameF h 0 2 = true) : dupF h 2 = some 0 := by simp [dupF, s]
theorem dup2_1 {h : Hd} (s : sameF h 0 2 = false) (s' : sameF h 1 2 = true) : dupF h 2 = some 1 := by simp [dupF, s, s']
theorem dup2_no {h : Hd} (s : sameF h 0 2 = false) (s' : sameF h 1 2 = false) : dupF h 2 = none := by simp [dupF, s, s']
theorem key_set {h : Hd} {f : Nat} (hv : vF h f = false) : keyTo h (f + 1) f = nF h f := by unfold keyTo; rw [if_pos ⟨by omega, hv⟩]
theorem key_not {h : Hd} {f : Nat} (hv : vF h f = true) : keyTo h (f + 1) f = 0 := by unfold keyTo; rw [if_neg (by simp [hv])]
theorem key_else {h : Hd} {f i : Nat} (hi : i ≠ f) : keyTo h (f + 1) i = keyTo h f i := by
  unfold keyTo
  by_cases e : i < f
  · have e2 : i < f + 1 := by omega
    simp [e, e2]
  · have e2 : ¬ i < f + 1 := by omega
    simp [e, e2]

/-! ### right conditions, and few -/
def fineL (l : List CT) : Bool := (small 18 (.mk h0 l) 5 0).1 && ((l.all fun c => decide (check c 1 = 0)) && decide (sizeL l ≤ 16))
theorem fineL_small {l : List CT} (h : (small 18 (.mk h0 l) 5 0).1 = false) : fineL l = false := by rw [fineL, h]; rfl
theorem fineL_bad {l : List CT} {c : CT} (hc : c ∈ l) (h : check c 1 ≠ 0) : fineL l = false := by
  rw [← Bool.not_eq_true]
  intro e
  simp only [fineL, Bool.and_eq_true, List.all_eq_true, decide_eq_true_eq] at e
  exact h (e.2.1 c hc)
theorem fineL_end {l : List CT} (h : (small 18 (.mk h0 l) 5 0).1 = true) (ha : ∀ c ∈ l, check c 1 = 0) : fineL l = decide (sizeL l ≤ 16) := by
  rw [fineL, h, List.all_eq_true.2 (fun c hc => decide_eq_true (ha c hc))]; rfl
theorem fineL_yes {l : List CT} (h : fineL l = true) : (∀ c ∈ l, check c 1 = 0) ∧ sizeL l ≤ 16 := by
  simp only [fineL, Bool.and_eq_true, List.all_eq_true, decide_eq_true_eq] at h
  exact ⟨h.2.1, h.2.2⟩
theorem fine_size {l : List CT} (h : (small 18 (.mk h0 l) 5 0).1 = true) : sizeL l ≤ 1000 := by
  have := small_le (m := 18) h
  rw [size_eq] at this
  have e : (CT.mk h0 l).subs = l := rfl
  rw [e] at this; omega
end Go.Gx.T8
namespace Go.Gx.T8
open Go.Gx Go.Gx.T3 Go.Gx.T4
theorem Tr.take2 {α : Type} {subs : α → List α} {cf : α × Value → List Value} {sz k : Nat} {d : α × Value} {G : Ghost} {v : Value} {rs : List (α × Value)} (hk : k ≤ rs.length) (h : SlG G v k sz (fun i => at_ (cf (rs.getD i d)))) (hs : ∀ p ∈ rs, Tr subs cf sz d G p.2 (subs p.1)) : Tr subs cf sz d G v ((rs.map Prod.fst).take k) := by
  rw [← List.map_take]; exact (Tr.take hk h hs).2
theorem Ss.len {G : Ghost} {v : Value} {l : List ST} (h : Ss G v l) : ∃ a cap, v = .slice a l.length cap := by
  cases h with
  | mk rs h _ _ => obtain ⟨a, c, e⟩ := SlG.len h; exact ⟨a, c, by simpa using e⟩
mutual
/-- How many steps and tests there are. -/
def ssz : ST → Nat
  | .mk h l => 1 + h.ts.length + sszL l
def sszL : List ST → Nat
  | [] => 0
  | s :: t => ssz s + sszL t
end
theorem ssz_eq (s : ST) : ssz s = 1 + s.h.ts.length + sszL s.subs := by cases s; rw [ssz]; rfl
theorem sszL_len : ∀ l : List ST, l.length ≤ sszL l
  | [] => Nat.le_refl _
  | s :: t => by have := sszL_len t; have := ssz_eq s; rw [sszL]; simp; omega
theorem sszL_mem : ∀ {l : List ST} {x : ST}, x ∈ l → ssz x ≤ sszL l
  | c :: t, x, h => by
    rw [sszL]
    rcases List.mem_cons.1 h with rfl | h
    · omega
    · have := sszL_mem h; omega
theorem sv_mem {rs : List SVal} {k : Nat} (hk : k < rs.length) : (rs.getD k s0).1 ∈ rs.map Prod.fst := List.mem_map.2 ⟨_, getD_mem hk, rfl⟩
theorem sv_take {rs : List SVal} {k : Nat} (hk : k < rs.length) : (rs.map Prod.fst).take (k + 1) = (rs.map Prod.fst).take k ++ [(rs.getD k s0).1] := by
  rw [List.take_succ_eq_append_getElem (by simpa using hk)]
  simp [List.getD, List.getElem?_eq_getElem hk]
theorem sv_at {l : List ST} {rs : List SVal} {k n : Nat} (hl : l = rs.map Prod.fst) (hk : k < rs.length) (hz : SizeOf.sizeOf l ≤ n + 1) : SizeOf.sizeOf (rs.getD k s0).1.subs ≤ n := by
  have h1 : (rs.getD k s0).1 ∈ l := by rw [hl]; exact sv_mem hk
  have h2 := List.sizeOf_lt_of_mem h1
  have h3 : SizeOf.sizeOf (rs.getD k s0).1.subs < SizeOf.sizeOf (rs.getD k s0).1 := by
    cases (rs.getD k s0).1 with
    | mk h l => simp [ST.subs]; omega
  omega
theorem ts_next {ts : List TD} {j : Nat} (hj : j < ts.length) : ts.take (j + 1) = ts.take j ++ [ts.getD j t0] := by
  rw [List.take_succ_eq_append_getElem hj]; simp [List.getD, List.getElem?_eq_getElem hj]
mutual
theorem ssz_of : ∀ (c : CT) (ch : List CT), ssz (stepOf ch c) ≤ 4 * size c
  | .mk h l, ch => by
    rw [stepOf, size]
    split
    · have := sszL_of l ch
      rw [ssz]; simp; omega
    · have := testsTo_len ch h 3
      rw [ssz, sszL]; simp; omega
theorem sszL_of : ∀ (l : List CT) (ch : List CT), sszL (stepsOf ch l) ≤ 4 * sizeL l
  | [], _ => by simp [stepsOf, sszL]
  | c :: t, ch => by
    have h1 := ssz_of c ch
    have h2 := sszL_of t (ch ++ [c])
    rw [stepsOf, sszL, sizeL]; omega
end
end Go.Gx.T8
