/- Texts of this work, laid together: a logic of steps, plain laws, and walks of Go functions, each without a condition but those that its theorems name. -/
import Derived.Test.YtplefabpplfjbaaKFeedPlays1
import Derived.Test.YtplefabpplfjbaaRows
import Derived.ArgAppend
/- Plain laws of conditions: trees; what is wrong with one; no program in sight. -/
namespace Go.Gx.T4
open Go.Gx Go.Gx.T3

/-- A condition but for what stands below it. -/
structure Hd where
  k : Int
  v0 : Bool
  n0 : Int
  v1 : Bool
  n1 : Int
  v2 : Bool
  n2 : Int
inductive CT where
  | mk (h : Hd) (subs : List CT)
namespace CT
def h : CT → Hd | .mk h _ => h
def subs : CT → List CT | .mk _ l => l
end CT
abbrev h0 : Hd := ⟨0, false, 0, false, 0, false, 0⟩
abbrev d0 : CT × Value := (.mk h0 [], .slice none 0 0)
/-- The cells of a condition: the program's own, and the document's. -/
def cvC (p : CT × Value) : List Value := [.int .i64 p.1.h.k, .bool p.1.h.v0, .int .i64 p.1.h.n0, .bool p.1.h.v1, .int .i64 p.1.h.n1, .bool p.1.h.v2, .int .i64 p.1.h.n2, p.2]
def rvC (p : CT × Value) : List Value := [.int .i64 p.1.h.k, .int .i64 (vi p.1.h.v0), .int .i64 p.1.h.n0, .int .i64 (vi p.1.h.v1), .int .i64 p.1.h.n1, .int .i64 (vi p.1.h.v2), .int .i64 p.1.h.n2, p.2]
abbrev Cs (G : Ghost) (v : Value) (l : List CT) : Prop := Tr CT.subs cvC 8 d0 G v l
abbrev Rs (G : Ghost) (v : Value) (l : List CT) : Prop := Tr CT.subs rvC 8 d0 G v l

/-! ### what is wrong -/
def headOk (h : Hd) : Bool := termRight h.v0 h.n0 && (termRight h.v1 h.n1 && termRight h.v2 h.n2)
def headNone (h : Hd) : Bool := !h.v0 && decide (h.n0 = 0) && (!h.v1 && decide (h.n1 = 0)) && (!h.v2 && decide (h.n2 = 0))
mutual
def check : CT → Int → Int
  | .mk h l, d => if 3 < max d 1 then 5 else if h.k = 3 then (if headNone h = false then 4 else if l.length = 0 then 2 else checkL l (max d 1 + 1)) else if h.k ≠ 1 ∧ h.k ≠ 2 then 3 else if headOk h = false ∨ 0 < l.length then 4 else 0
def checkL : List CT → Int → Int
  | [], _ => 0
  | c :: t, d => if check c d = 0 then checkL t d else check c d
end
mutual
theorem check_up : ∀ (c : CT) (d : Int), 1 ≤ d → check c (d + 1) = 0 → check c d = 0
  | .mk h l, d, hd, hc => by
    have h1 : max d 1 = d := by omega
    have h2 : max (d + 1) 1 = d + 1 := by omega
    rw [check, h1]
    rw [check, h2] at hc
    by_cases c1 : 3 < d + 1
    · rw [if_pos c1] at hc; omega
    rw [if_neg c1] at hc
    rw [if_neg (by omega)]
    by_cases c2 : h.k = 3
    · rw [if_pos c2] at hc ⊢
      by_cases c3 : headNone h = false
      · rw [if_pos c3] at hc; omega
      rw [if_neg c3] at hc ⊢
      by_cases c4 : l.length = 0
      · rw [if_pos c4] at hc; omega
      rw [if_neg c4] at hc ⊢
      exact checkL_up l (d + 1) (by omega) hc
    · rw [if_neg c2] at hc ⊢; exact hc
theorem checkL_up : ∀ (l : List CT) (d : Int), 1 ≤ d → checkL l (d + 1) = 0 → checkL l d = 0
  | [], _, _, _ => by rw [checkL]
  | c :: t, d, hd, hc => by
    rw [checkL] at hc ⊢
    by_cases c1 : check c (d + 1) = 0
    · rw [if_pos c1] at hc
      rw [if_pos (check_up c d hd c1)]
      exact checkL_up t d hd hc
    · rw [if_neg c1] at hc; exact absurd hc c1
end
/-- Whether it was right at the depth ahead. -/
def rgt (c : CT) (s : Nat) : Bool := decide (s = 1 ∨ check c ((s : Int) - 1) = 0)
/-! ### how many there are, and how deep -/
mutual
def size : CT → Nat
  | .mk _ l => 1 + sizeL l
def sizeL : List CT → Nat
  | [] => 0
  | c :: t => size c + sizeL t
end
section
variable (m : Int)
mutual
def small : CT → Int → Int → Bool × Int
  | .mk _ l, deep, n => if m < n + 1 ∨ deep < 0 then (false, n + 1) else smallL l (deep - 1) (n + 1)
def smallL : List CT → Int → Int → Bool × Int
  | [], _, n => (true, n)
  | c :: t, deep, n => if (small c deep n).1 = true then smallL t deep (small c deep n).2 else (false, (small c deep n).2)
end
end
mutual
theorem small_lt (m : Int) : ∀ (c : CT) (deep n : Int), 0 ≤ n → n ≤ m → n ≤ (small m c deep n).2 ∧ (small m c deep n).2 ≤ m + 1 ∧ ((small m c deep n).1 = true → (small m c deep n).2 ≤ m)
  | .mk h l, deep, n, h0, h1 => by
    rw [small]
    split
    · exact ⟨by omega, by omega, fun h => by cases h⟩
    · have := smallL_lt m l (deep - 1) (n + 1) (by omega) (by omega)
      exact ⟨by omega, this.2.1, this.2.2⟩
theorem smallL_lt (m : Int) : ∀ (l : List CT) (deep n : Int), 0 ≤ n → n ≤ m → n ≤ (smallL m l deep n).2 ∧ (smallL m l deep n).2 ≤ m + 1 ∧ ((smallL m l deep n).1 = true → (smallL m l deep n).2 ≤ m)
  | [], _, n, h0, h1 => by
    rw [smallL]; exact ⟨Int.le_refl _, by simp; omega, fun _ => h1⟩
  | c :: t, deep, n, h0, h1 => by
    have hc := small_lt m c deep n h0 h1
    rw [smallL]
    split
    · rename_i hy
      have := smallL_lt m t deep (small m c deep n).2 (by omega) (hc.2.2 hy)
      exact ⟨by omega, this.2.1, this.2.2⟩
    · exact ⟨hc.1, hc.2.1, fun h => by cases h⟩
end

abbrev cA : CT := .mk ⟨1, false, 1, false, 1, true, 1⟩ []
abbrev cB (c : CT) : CT := .mk ⟨3, false, 0, false, 0, false, 0⟩ [c]
mutual
theorem small_size (m : Int) : ∀ (c : CT) (deep n : Int), (small m c deep n).1 = true → (small m c deep n).2 = n + size c
  | .mk h l, deep, n, hs => by
    rw [small] at hs ⊢
    split at hs
    · cases hs
    · rename_i hc
      rw [if_neg hc, smallL_size m l (deep - 1) (n + 1) hs, size]
      omega
theorem smallL_size (m : Int) : ∀ (l : List CT) (deep n : Int), (smallL m l deep n).1 = true → (smallL m l deep n).2 = n + sizeL l
  | [], _, n, _ => by rw [smallL, sizeL]; simp
  | c :: t, deep, n, hs => by
    rw [smallL] at hs ⊢
    split at hs
    · rename_i hc
      rw [if_pos hc, smallL_size m t deep _ hs, small_size m c deep n hc, sizeL]
      omega
    · cases hs
end
theorem starL_one {A : Asrt} {w : World} {F : Nat → Prop} (h : (starL [A]).holds w F) : A.holds w F := by
  obtain ⟨F1, F2, h1, h2, _, h4⟩ := h
  have e : F = F1 := by
    funext b
    refine propext ((h4 b).trans ⟨fun h => ?_, .inl⟩)
    rcases h with h | h
    · exact h
    · exact (h2.2 b h).elim
  rw [e]; exact h1
/-- A number in a cell. -/
abbrev cntA (T p : Nat) (n : Int) : Asrt := box p 1 T (at_ [.int .i64 n])
end Go.Gx.T4

/- Plain laws of steps: trees with tests; what conditions are compiled to; no program in sight. -/
namespace Go.Gx.T8
open Go.Gx Go.Gx.T3 Go.Gx.T4

abbrev TD := Int × Int × Int
def tC (t : TD) : List Value := [.int .i64 t.1, .int .i64 t.2.1, .int .i64 t.2.2]
abbrev t0 : TD := (0, 0, 0)
/-- A step but for what stands below it. -/
structure SH where
  k : Int
  k0 : Int
  k1 : Int
  k2 : Int
  ts : List TD
inductive ST where
  | mk (h : SH) (subs : List ST)
def ST.h : ST → SH | .mk h _ => h
def ST.subs : ST → List ST | .mk _ l => l
abbrev SVal := ST × Value × Value
abbrev s0 : SVal := (.mk ⟨0, 0, 0, 0, []⟩ [], .slice none 0 0, .slice none 0 0)
def sC (p : SVal) : List Value := [.int .i64 p.1.h.k, .int .i64 p.1.h.k0, .int .i64 p.1.h.k1, .int .i64 p.1.h.k2, p.2.1, p.2.2]
/-- The value v is a slice of steps. -/
inductive Ss (G : Ghost) : Value → List ST → Prop
  | mk {v : Value} (rs : List SVal) (h : SlL G v 6 sC s0 rs) (ht : ∀ p ∈ rs, SlL G p.2.1 3 tC t0 p.1.h.ts) (hs : ∀ p ∈ rs, Ss G p.2.2 p.1.subs) : Ss G v (rs.map Prod.fst)
theorem Ss.inv {G : Ghost} {v : Value} {l : List ST} (h : Ss G v l) : ∃ rs : List SVal, SlL G v 6 sC s0 rs ∧ (∀ p ∈ rs, SlL G p.2.1 3 tC t0 p.1.h.ts) ∧ (∀ p ∈ rs, Ss G p.2.2 p.1.subs) ∧ l = rs.map Prod.fst := by
  cases h with
  | mk rs h ht hs => exact ⟨rs, h, ht, hs, rfl⟩
theorem Ss.mono {G G' : Ghost} {v : Value} {l : List ST} (h : Ss G v l) (hle : GLe G G') : Ss G' v l := by
  induction h with
  | mk rs h ht _ ih => exact .mk rs (h.mono hle) (fun p hp => (ht p hp).mono hle) ih
theorem Ss.one {G : Ghost} {v : Value} {l : List ST} (h : Ss G v l) : v.oneCell' = true := by
  cases h with
  | mk rs h _ _ => exact h.one
theorem Ss.nil {G : Ghost} : Ss G (.slice none 0 0) [] := Ss.mk [] (SlG.nil _ _ _) (by simp) (by simp)

/-- A part of a slice of trees, from its beginning on. -/
theorem Tr.take {α : Type} {subs : α → List α} {cf : α × Value → List Value} {sz k : Nat} {d : α × Value} {G : Ghost} {v : Value} {rs : List (α × Value)} (hk : k ≤ rs.length) (h : SlG G v k sz (fun i => at_ (cf (rs.getD i d)))) (hs : ∀ p ∈ rs, Tr subs cf sz d G p.2 (subs p.1)) : SlL G v sz cf d (rs.take k) ∧ Tr subs cf sz d G v ((rs.take k).map Prod.fst) := by
  have h1 : SlL G v sz cf d (rs.take k) := by
    unfold SlL
    rw [List.length_take, Nat.min_eq_left hk]
    refine h.congr fun i hi j _ => ?_
    simp [List.getD, hi]
  exact ⟨h1, Tr.mk _ h1 fun p hp => hs p (List.mem_of_mem_take hp)⟩

/-! ### where a variable is bound -/
def firstF (h : Hd) (v : Int) : Option Int :=
  if h.v0 = true ∧ h.n0 = v then some 0 else if h.v1 = true ∧ h.n1 = v then some 1 else if h.v2 = true ∧ h.n2 = v then some 2 else none
def bound (v : Int) : List CT → Int → Option (Int × Int)
  | [], _ => none
  | c :: t, b => if c.h.k = 1 then (match firstF c.h v with | some f => some (b, f) | none => bound v t (b + 1)) else bound v t b
/-! ### steps -/
def vF (h : Hd) : Nat → Bool | 0 => h.v0 | 1 => h.v1 | _ => h.v2
def nF (h : Hd) : Nat → Int | 0 => h.n0 | 1 => h.n1 | _ => h.n2
/-- Is term g what term f is? -/
def sameF (h : Hd) (g f : Nat) : Bool := decide (vF h g = vF h f) && decide (nF h g = nF h f)
/-- The first term ahead of term f, from g on, that is alike. -/
def dupF (h : Hd) (f : Nat) : Option Int := if f ≥ 1 ∧ sameF h 0 f = true then some 0 else if f ≥ 2 ∧ sameF h 1 f = true then some 1 else none
/-- The test of field f. -/
def testF (ch : List CT) (h : Hd) (f : Nat) : List TD :=
  if vF h f = true then (match bound (nF h f) ch 0 with
    | some x => [((f : Int), x.1, x.2)]
    | none => match dupF h f with | some g => [((f : Int), -1, g)] | none => []) else []
def testsTo (ch : List CT) (h : Hd) : Nat → List TD
  | 0 => []
  | f + 1 => testsTo ch h f ++ testF ch h f
def keyTo (h : Hd) (f i : Nat) : Int := if i < f ∧ vF h i = false then nF h i else 0
mutual
def stepOf : List CT → CT → ST
  | ch, .mk h l => if h.k = 3 then .mk ⟨h.k, 0, 0, 0, []⟩ (stepsOf ch l) else .mk ⟨h.k, keyTo h 3 0, keyTo h 3 1, keyTo h 3 2, testsTo ch h 3⟩ []
def stepsOf : List CT → List CT → List ST
  | _, [] => []
  | ch, c :: t => stepOf ch c :: stepsOf (ch ++ [c]) t
end
theorem testsTo_len (ch : List CT) (h : Hd) : ∀ f, (testsTo ch h f).length ≤ f
  | 0 => Nat.le_refl _
  | f + 1 => by
    have := testsTo_len ch h f
    have h2 : (testF ch h f).length ≤ 1 := by
      unfold testF; repeat' split
      all_goals simp
    rw [testsTo, List.length_append]; omega
theorem T3 {ch : List CT} {h : Hd} {f : Nat} {g : Int} (hv : vF h f = true) (hb : (bound (nF h f) ch 0).isSome = false) (hd : dupF h f = some g) : testF ch h f = [((f : Int), -1, g)] := by
  unfold testF
  have hn : bound (nF h f) ch 0 = none := by
    cases e : bound (nF h f) ch 0 with
    | none => rfl
    | some x => rw [e] at hb; cases hb
  rw [if_pos hv, hn, hd]
theorem T4 {ch : List CT} {h : Hd} {f : Nat} (hv : vF h f = true) (hb : (bound (nF h f) ch 0).isSome = false) (hd : dupF h f = none) : testF ch h f = [] := by
  unfold testF
  have hn : bound (nF h f) ch 0 = none := by
    cases e : bound (nF h f) ch 0 with
    | none => rfl
    | some x => rw [e] at hb; cases hb
  rw [if_pos hv, hn, hd]
/-! ### right conditions, and few -/
def fineL (l : List CT) : Bool := (small 18 (.mk h0 l) 5 0).1 && ((l.all fun c => decide (check c 1 = 0)) && decide (sizeL l ≤ 16))
end Go.Gx.T8
namespace Go.Gx.T8
open Go.Gx Go.Gx.T3 Go.Gx.T4
theorem Ss.len {G : Ghost} {v : Value} {l : List ST} (h : Ss G v l) : ∃ a cap, v = .slice a l.length cap := by
  cases h with
  | mk rs h _ _ => obtain ⟨a, c, e⟩ := SlG.len h; exact ⟨a, c, by simpa using e⟩
mutual
/-- How many steps and tests there are. -/
def ssz : ST → Nat
  | .mk h l => 1 + h.ts.length + sszL l
def sszL : List ST → Nat
  | [] => 0
  | s :: t => ssz s + sszL t
end
mutual
theorem ssz_of : ∀ (c : CT) (ch : List CT), ssz (stepOf ch c) ≤ 4 * size c
  | .mk h l, ch => by
    rw [stepOf, size]
    split
    · have := sszL_of l ch
      rw [ssz]; simp; omega
    · have := testsTo_len ch h 3
      rw [ssz, sszL]; simp; omega
theorem sszL_of : ∀ (l : List CT) (ch : List CT), sszL (stepsOf ch l) ≤ 4 * sizeL l
  | [], _ => by simp [stepsOf, sszL]
  | c :: t, ch => by
    have h1 := ssz_of c ch
    have h2 := sszL_of t (ch ++ [c])
    rw [stepsOf, sszL, sizeL]; omega
end
end Go.Gx.T8

/- Plain laws of chains of conditions; no program in sight. -/
namespace Go.Gx
theorem RowAt.congr {G : Ghost} {b o n : Nat} {f g : Nat → Value} (h : RowAt G b o n f) (e : ∀ i, i < n → f i = g i) : RowAt G b o n g := by
  obtain ⟨c, T, fr, h1, h2⟩ := h
  exact ⟨c, T, fr, h1, fun j hj => by rw [h2 j hj, e j hj]⟩
end Go.Gx
namespace Go.Gx.T6
open Go.Gx Go.Gx.T3 Go.Gx.T4 Go.Gx.T8

theorem nil_rs {α : Type} {G : Ghost} {n c : Nat} {sz : Nat} {cells : α → List Value} {e : α} {rs : List α} (h : SlL G (.slice none n c) sz cells e rs) : rs = [] := by
  obtain ⟨a, cap, e1, _, h2⟩ := h
  simp only [Value.slice.injEq] at e1
  obtain ⟨rfl, _⟩ := e1
  rcases rs with _ | ⟨x, t⟩
  · rfl
  · obtain ⟨_, _, e3, _⟩ := h2 (by simp)
    cases e3

mutual
/-- The chains of what stands in a condition, and its own. -/
def chain1 : List CT → CT → List (List CT)
  | ah, .mk h l => (if h.k = 3 then chains ah l else []) ++ [ah ++ [.mk h l]]
/-- The chains of conditions behind a beginning. -/
def chains : List CT → List CT → List (List CT)
  | _, [] => []
  | ah, c :: t => chain1 ah c ++ chains (ah ++ [c]) t
end
mutual
theorem chain1_len : ∀ (c : CT) (ah : List CT), (chain1 ah c).length ≤ size c
  | .mk h l, ah => by
    have := chains_len l ah
    rw [chain1, size]
    split <;> simp <;> omega
theorem chains_len : ∀ (l : List CT) (ah : List CT), (chains ah l).length ≤ sizeL l
  | [], _ => by simp [chains, sizeL]
  | c :: t, ah => by
    have h1 := chain1_len c ah
    have h2 := chains_len t (ah ++ [c])
    rw [chains, sizeL, List.length_append]; omega
end
/-- What is known of the chains that were found: each is a slice of conditions. -/
abbrev ChC (G : Ghost) (z : List (List CT × Value)) : Prop := ∀ q ∈ z, Cs G q.2 q.1
theorem ChC.mono {G G' : Ghost} {z : List (List CT × Value)} (h : ChC G z) (hle : GLe G G') : ChC G' z := fun q hq => (h q hq).mono hle
/-! ### alike -/
def hEq (a b : Hd) : Bool := decide (a.k = b.k) && csEq [.bool a.v0, .int .i64 a.n0, .bool a.v1, .int .i64 a.n1, .bool a.v2, .int .i64 a.n2] [.bool b.v0, .int .i64 b.n0, .bool b.v1, .int .i64 b.n1, .bool b.v2, .int .i64 b.n2]
def hRb (a b : Hd) : Bool := csEq [.int .i64 (vi a.v0), .int .i64 a.n0, .int .i64 (vi a.v1), .int .i64 a.n1, .int .i64 (vi a.v2), .int .i64 a.n2] [.int .i64 (vi b.v0), .int .i64 b.n0, .int .i64 (vi b.v1), .int .i64 b.n1, .int .i64 (vi b.v2), .int .i64 b.n2]
theorem hEq_iff (a b : Hd) : hEq a b = true ↔ a = b := by
  obtain ⟨a0, a1, a2, a3, a4, a5, a6⟩ := a
  obtain ⟨b0, b1, b2, b3, b4, b5, b6⟩ := b
  simp [hEq, csEq, cEq]
mutual
def ceq : CT → CT → Bool
  | .mk h l, .mk h' l' => hEq h h' && ceqL l l'
def ceqL : List CT → List CT → Bool
  | [], [] => true
  | c :: t, c' :: t' => ceq c c' && ceqL t t'
  | _, _ => false
end
mutual
theorem ceq_iff : ∀ (a b : CT), ceq a b = true ↔ a = b
  | .mk h l, .mk h' l' => by
    rw [ceq, Bool.and_eq_true, hEq_iff, ceqL_iff l l']
    simp
theorem ceqL_iff : ∀ (l l' : List CT), ceqL l l' = true ↔ l = l'
  | [], [] => by simp [ceqL]
  | [], _ :: _ => by simp [ceqL]
  | _ :: _, [] => by simp [ceqL]
  | c :: t, c' :: t' => by
    rw [ceqL, Bool.and_eq_true, ceq_iff c c', ceqL_iff t t']
    simp
end
/-- The chains that conditions end themselves. -/
def ownC (l : List CT) : List Int := (List.range l.length).map fun i => (sizeL (l.take (i + 1)) : Int) - 1
def ownCTo (l : List CT) (k : Nat) : List Int := (List.range k).map fun i => (sizeL (l.take (i + 1)) : Int) - 1
abbrev RhC (G : Ghost) (z : List (List CT × Value)) : Prop := ∀ q ∈ z, Rs G q.2 q.1
theorem RhC.mono {G G' : Ghost} {z : List (List CT × Value)} (h : RhC G z) (hle : GLe G G') : RhC G' z := fun q hq => (h q hq).mono hle
end Go.Gx.T6

/- Walks: what Go functions of this chapter come to, each as a function on plain data; no condition but those that each theorem names. Printed by a program of this work (gen.py). -/
namespace Go.Proofs.Ytplefabpplfjbaa
open Go.Gx Go.Gx.T21 Go.Gx.T6 Go.Gx.T4
theorem mixed : Try.prog.follows .mixedOrders = true := by
 kernel_rfl
theorem sz3 : SzIs Try.prog 3 1 := by
 unfold SzIs
 kernel_rfl
theorem sz67 : SzIs Try.prog 67 1 := by
 unfold SzIs
 kernel_rfl
theorem sz71 : SzIs Try.prog 71 1 := by
 unfold SzIs
 kernel_rfl
theorem zr70 : ZeroIs Try.prog 70 (Value.pointer none) := by
 unfold ZeroIs
 kernel_rfl
theorem bl69_0m1 (x0 : Option Nat) : Program.built Try.prog 69 [(0, Value.map x0)] = some #[Value.map x0, Value.int .i64 0] := by
 kernel_rfl
theorem bl73_0c1 (x0 : Option Nat) : Program.built Try.prog 73 [(0, Value.chan x0)] = some #[Value.chan x0, Value.int .i64 0] := by
 kernel_rfl
theorem el3 : ElemIs Try.prog 3 1 8 (Value.int .i64 0) := by
 unfold ElemIs
 kernel_rfl
theorem el36 : ElemIs Try.prog 36 3 48 (Value.agg #[Value.bool false, Value.string ⟨#[]⟩, Value.slice none 0 0]) := by
 unfold ElemIs
 kernel_rfl
theorem e_conv1 {Q : Exit → Act → World → Prop} {e : Exit} {N : Nat} {X : Nat → Prop} {w0 : World} {G : Ghost} {l : List (Nat × Value)} {L : List Asrt} {A B : Asrt} (hI : ∀ w F, A.holds w F → B.holds w F) (h : ERuns Q e N X w0 G l (B :: L)) : ERuns Q e N X w0 G l (A :: L) := fun a w hS => h a w ⟨hS.fr, hS.mem.since, hS.mem.has, Sep.one (fun _ hf => hI _ _ hf) hS.mem.sep⟩
theorem c_cloneI_a (a : Option Addr) (cap : Nat) (rs : List (Int)) {G : Ghost} (hr : SlL G (Value.slice a rs.length cap) 1 cI (0 : Int) rs) (hlen : rs.length ≤ 1000) (w : World) (hG : Has G w) :
  Calls Try.prog 24 #[Value.slice a rs.length cap] w (Ret fun r w' => Since nX w w' ∧ ∃ F', (rowA r 3 1 (rs).length ((rs).flatMap cI)).holds w' F' ∧ ∀ b, F' b → w.heap.size ≤ b) := by
 refine enter (args := [_]) (X := nX) (G := G) (l := [(0, Value.slice a rs.length cap)]) Try.func24 rfl Try.ntmps24 hG ⟨rfl, trivial⟩ (Nat.le_of_ble_eq_true rfl) ?_
 refine c_seq ?_
 refine c_region ?_
 refine r_val .none rfl (p_assign rfl) ?_
 refine r_nil ?_
 refine e_next ?_
 refine c_seq ?_
 refine c_seq ?_
 refine c_region ?_
 refine r_val .none rfl (p_move rfl) ?_
 refine r_val .none rfl (p_eqnil Try.underlying22 rfl rfl) ?_
 refine r_nil ?_
 refine e_next ?_
 refine c_split (d := 4) rfl (fun h_1 => ?_) (fun h_1 => ?_)
 ·
  have hrs : rs = [] := by cases a with | none => exact nil_rs hr | some x => cases h_1
  refine c_cond_t rfl ?_
  refine c_seq ?_
  refine c_region ?_
  refine r_val .none rfl (p_assign rfl) ?_
  refine r_nilrow 3 1 ?_
  refine r_nil ?_
  refine e_next ?_
  refine c_ret ?_
  refine e_ret_then ?_
  refine e_ret1 Try.results24 (.tmp rfl .nil) (fun w hm => hm.made [rowA (.slice none 0 0) 3 1 (rs).length ((rs).flatMap cI)] (.keep (fun _ _ h => rowA_congr (by rw [hrs]; rfl) (by rw [hrs]; rfl) _ _ h) (.nil)) _ (fun F' h => starL_one h))
 ·
  refine c_cond_f rfl ?_
  refine c_skip ?_
  refine e_next ?_
  refine c_seq ?_
  refine c_region ?_
  refine r_bslice0 .none rfl Try.underlying22 el3 (fun v_2 => ?_)
  refine r_val .none rfl (p_move rfl) ?_
  refine r_append_g (k := 0) .none rfl Try.underlying22 el3 rfl (by decide) rfl rfl rfl hr (fun _ _ _ hj => one_lit rfl rfl _ hj) (by simp only [maxLen]; omega) (by omega) (fun v_3 => ?_)
  refine r_row1 (k := 0) rfl (fun o_4 => ?_)
  refine r_val .none rfl (p_assign rfl) ?_
  refine r_nil ?_
  refine e_next ?_
  refine c_ret ?_
  refine e_ret1 Try.results24 (.tmp rfl .nil) (fun w hm => hm.made [rowA v_3 3 1 (rs).length ((rs).flatMap cI)] (.keep (fun _ _ h => rowA_congr (by omega) (by rw [flat_all (cells := cI) (fun _ => rfl)]; rfl) _ _ h) (.nil)) _ (fun F' h => starL_one h))
theorem c_cloneI (v : Value) (rs : List (Int)) {G : Ghost} (hr : SlL G v 1 cI (0 : Int) rs) (hlen : rs.length ≤ 1000) (w : World) (hG : Has G w) : Calls Try.prog 24 #[v] w (Ret fun r w' => Since nX w w' ∧ ∃ F', (rowA r 3 1 (rs).length ((rs).flatMap cI)).holds w' F' ∧ ∀ b, F' b → w.heap.size ≤ b) := by
 obtain ⟨a, cap, rfl⟩ := SlG.len hr
 exact c_cloneI_a a cap rs hr hlen w hG
theorem c_fnew {G : Ghost}  (w : World) (hG : Has G w) :
  Calls Try.prog 6 #[] w (Ret fun r w' => ∃ p, r = Value.pointer (some ⟨p, 0, none⟩) ∧ Since nX w w' ∧ ∃ F', (feedA 69 73 3 p ([], 0)).holds w' F' ∧ ∀ b, F' b → w.heap.size ≤ b) := by
 refine enter (args := []) (X := nX) (G := G) (l := []) Try.func6 rfl Try.ntmps6 hG trivial (Nat.le_of_ble_eq_true rfl) ?_
 refine c_seq ?_
 refine c_region ?_
 refine r_val .none rfl (p_assign rfl) ?_
 refine r_nil ?_
 refine e_next ?_
 refine c_seq ?_
 refine c_region ?_
 refine r_makemap .none rfl kI veL (fun m_1 => ?_)
 refine r_val .none rfl (p_build (vs := [(0, Value.map _)]) rfl (bl69_0m1 _)) ?_
 refine r_box .none rfl rfl (IsRow.lit _) (fun b_1 => ?_)
 refine r_val .none rfl (p_assign rfl) ?_
 refine r_nil ?_
 refine e_next ?_
 refine c_ret ?_
 refine e_hnil (lisA 73 3) ?_
 refine e_front (k := 2) rfl ?_
 refine e_front (k := 2) rfl ?_
 refine e_ret1 Try.results6 (.tmp rfl .nil) (fun w hm => ⟨_, rfl, hm.made [box b_1 2 69 (at_ [.map (some m_1), .int .i64 0]), mapA m_1 kI veL ([] : List (Int × LB)), hoard (lisA 73 3) []] (.keep (fun _ _ h => box_congr (fun i hi => by match i, hi with | 0, _ => rfl | 1, _ => rfl) _ _ h) (.keep (fun _ _ h => h) (.keep (fun _ _ h => h) (.nil)))) (feedA 69 73 3 _ ([], 0)) (fun F' h => ⟨(m_1, []), rfl, h⟩)⟩)
theorem c_fopen {F : Nat → Prop} {G : Ghost} (p : Nat) (room : Int) (s : FS) (hk : ∀ id x, lkp s.1 id = some x → id ≤ s.2) (hla : 0 ≤ s.2 ∧ s.2 ≤ 1000000) (w : World) (hG : Has G w) (hA : (feedA 69 73 3 p s).holds w F) (hFG : ∀ b, F b → G b = none) :
  Calls Try.prog 9 #[Value.pointer (some ⟨p, 0, none⟩), Value.int .i64 room] w (Ret fun r w' => r = Value.tuple #[Value.int .i64 (openI s room), Value.int .i64 (openE s room)] ∧ Kept (feedA 69 73 3 p (openS s room)) F w w') := by
 refine enterO (args := [_, _]) (G := G) (A := feedA 69 73 3 p s) (l := [(0, Value.pointer (some ⟨p, 0, none⟩)), (1, Value.int .i64 room)]) Try.func9 rfl Try.ntmps9 hG hA hFG ⟨rfl, rfl, trivial⟩ (Nat.le_of_ble_eq_true rfl) ?_
 refine c_unex (fun z => ?_)
 obtain ⟨m, l⟩ := z
 refine c_unand (fun hc => ?_)
 dsimp only at hc ⊢
 refine c_unpack ?_
 have hno : lkp l (s.2 + 1) = none := by (cases hq : lkp l (s.2 + 1) with | none => rfl | some v => (have h9 := hk (s.2 + 1) (eraL v) (by rw [hc, eraF_lkp, hq]; rfl); omega))
 have hsl : (s.1.length : Int) = (l.length : Int) := by rw [hc, eraF_len]
 refine c_seq ?_
 refine c_region ?_
 refine r_val .none rfl (p_assign rfl) ?_
 refine r_val .none rfl (p_assign rfl) ?_
 refine r_nil ?_
 refine e_next ?_
 refine c_seq ?_
 refine c_block ?_
 refine c_seq ?_
 refine c_region ?_
 refine r_val .none rfl (p_move rfl) ?_
 refine r_val .none rfl (p_lt rfl rfl) ?_
 refine r_val .none rfl (p_move rfl) ?_
 refine r_splitd (d := 9) rfl (fun h_1 => ?_) (fun h_1 => ?_)
 ·
  have hR : room < 1 ∨ 1000 < room := .inl h_1
  first
   | (exfalso; omega)
   | (
    refine r_skip rfl (.no rfl rfl) ?_
    refine r_skip rfl (.no rfl rfl) ?_
    refine r_val .none rfl (p_pick_t rfl rfl) ?_
    refine r_val .none rfl (p_assign rfl) ?_
    refine r_nil ?_
    refine e_next ?_
    refine c_cond_t rfl ?_
    refine c_seq ?_
    refine c_region ?_
    refine r_val .none rfl (p_assign rfl) ?_
    refine r_val .none rfl (p_assign rfl) ?_
    refine r_nil ?_
    refine e_next ?_
    refine c_ret ?_
    refine e_ret_block ?_
    refine e_ret_then ?_
    refine e_retn Try.results9 (.tmp rfl (.tmp rfl .nil)) rfl (fun w hm => ?_)
    rw [openI, openE, openS, if_pos hR, if_pos hR, if_pos hR]
    exact ⟨rfl, hm.kept [box p 2 69 (at_ [.map (some m), .int .i64 (s.2)]), mapA m kI veL (l), hoard (lisA 73 3) (l)] (.keep (fun _ _ h => h) (.keep (fun _ _ h => h) (.keep (fun _ _ h => h) (.nil)))) (feedA 69 73 3 p (s)) (fun F' h => ⟨(m, l), hc, h⟩)⟩
    )
 ·
  have hR1 : ¬ room < 1 := h_1
  first
   | (exfalso; omega)
   | (
    refine r_val (.some rfl rfl) rfl (p_move rfl) ?_
    refine r_val (.some rfl rfl) rfl (p_gt rfl rfl) ?_
    refine r_val .none rfl (p_pick_f rfl rfl) ?_
    refine r_val .none rfl (p_assign rfl) ?_
    refine r_nil ?_
    refine e_next ?_
    refine c_splitd (d := 6) rfl (fun h_2 => ?_) (fun h_2 => ?_)
    ·
     have hR : room < 1 ∨ 1000 < room := by (have h9 := h_2; omega)
     first
      | (exfalso; omega)
      | (
       refine c_cond_t rfl ?_
       refine c_seq ?_
       refine c_region ?_
       refine r_val .none rfl (p_assign rfl) ?_
       refine r_val .none rfl (p_assign rfl) ?_
       refine r_nil ?_
       refine e_next ?_
       refine c_ret ?_
       refine e_ret_block ?_
       refine e_ret_then ?_
       refine e_retn Try.results9 (.tmp rfl (.tmp rfl .nil)) rfl (fun w hm => ?_)
       rw [openI, openE, openS, if_pos hR, if_pos hR, if_pos hR]
       exact ⟨rfl, hm.kept [box p 2 69 (at_ [.map (some m), .int .i64 (s.2)]), mapA m kI veL (l), hoard (lisA 73 3) (l)] (.keep (fun _ _ h => h) (.keep (fun _ _ h => h) (.keep (fun _ _ h => h) (.nil)))) (feedA 69 73 3 p (s)) (fun F' h => ⟨(m, l), hc, h⟩)⟩
       )
    ·
     have hR : ¬ (room < 1 ∨ 1000 < room) := by (have h9 := h_2; omega)
     first
      | (exfalso; omega)
      | (
       refine c_cond_f rfl ?_
       refine c_seq ?_
       refine c_region ?_
       refine r_val .none rfl (p_move rfl) ?_
       refine r_val .none rfl (p_nilcheck rfl) ?_
       refine r_val .none rfl (p_field Try.underlying69 rfl sz67 rfl) ?_
       refine r_val .none rfl (p_ld (k := 0) Try.underlying67 rfl rfl rfl (by first | exact of_decide_eq_true rfl | omega) (rfl : _ = Value.map _)) ?_
       refine r_val .none rfl (p_len_map (i := 1) Try.underlying67 rfl rfl) ?_
       refine r_val .none rfl (p_ge rfl rfl) ?_
       refine r_val .none rfl (p_assign rfl) ?_
       refine r_nil ?_
       refine e_next ?_
       refine c_splitd (d := 13) rfl (fun h_3 => ?_) (fun h_3 => ?_)
       ·
        have hB : 16 ≤ (s.1.length : Int) := by (have h9 := h_3; omega)
        first
         | (exfalso; omega)
         | (
          refine c_cond_t rfl ?_
          refine c_seq ?_
          refine c_region ?_
          refine r_val .none rfl (p_assign rfl) ?_
          refine r_val .none rfl (p_assign rfl) ?_
          refine r_nil ?_
          refine e_next ?_
          refine c_ret ?_
          refine e_ret_block ?_
          refine e_ret_then ?_
          refine e_retn Try.results9 (.tmp rfl (.tmp rfl .nil)) rfl (fun w hm => ?_)
          rw [openI, openE, openS, if_neg hR, if_neg hR, if_neg hR, if_pos hB, if_pos hB, if_pos hB]
          exact ⟨rfl, hm.kept [box p 2 69 (at_ [.map (some m), .int .i64 (s.2)]), mapA m kI veL (l), hoard (lisA 73 3) (l)] (.keep (fun _ _ h => h) (.keep (fun _ _ h => h) (.keep (fun _ _ h => h) (.nil)))) (feedA 69 73 3 p (s)) (fun F' h => ⟨(m, l), hc, h⟩)⟩
          )
       ·
        have hB : ¬ 16 ≤ (s.1.length : Int) := by (have h9 := h_3; omega)
        first
         | (exfalso; omega)
         | (
          refine c_cond_f rfl ?_
          refine c_skip ?_
          refine e_norm_block ?_
          refine e_next ?_
          refine c_seq ?_
          refine c_region ?_
          refine r_val .none rfl (p_move rfl) ?_
          refine r_val .none rfl (p_nilcheck rfl) ?_
          refine r_val .none rfl (p_field Try.underlying69 rfl sz3 rfl) ?_
          refine r_val .none rfl (p_ld (k := 0) Try.underlying3 rfl rfl rfl (by first | exact of_decide_eq_true rfl | omega) (rfl : _ = Value.int _ _)) ?_
          refine r_val .none rfl (p_add rfl rfl (by omega)) ?_
          refine r_val .none rfl (p_nilcheck rfl) ?_
          refine r_val .none rfl (p_field Try.underlying69 rfl sz3 rfl) ?_
          refine r_st (k := 0) .none sz3 rfl rfl rfl rfl (by first | exact of_decide_eq_true rfl | omega) ?_
          refine r_nil ?_
          refine e_next ?_
          refine c_seq ?_
          refine c_region_d (fun _ => false) _ mixed (.keep (fun _ _ h => h) (.drop (.keep (fun _ _ h => h) (.nil)))) ?_
          refine d_val1 0 rfl rfl (by kernel_rfl) (fun _ _ => rfl) .none rfl (p_move rfl) ?_
          refine d_val1 1 rfl rfl (by kernel_rfl) (fun _ _ => rfl) .none rfl (p_nilcheck rfl) ?_
          refine d_val1 2 rfl rfl (by kernel_rfl) (fun _ _ => rfl) .none rfl (p_field Try.underlying69 rfl sz67 rfl) ?_
          refine d_val1 3 rfl rfl (by kernel_rfl) (fun _ _ => rfl) .none rfl (p_ld (k := 0) Try.underlying67 rfl rfl rfl (by first | exact of_decide_eq_true rfl | omega) (rfl : _ = Value.map _)) ?_
          refine d_val1 4 rfl rfl (by kernel_rfl) (fun _ _ => rfl) .none rfl (p_move rfl) ?_
          refine d_val1 5 rfl rfl (by kernel_rfl) (fun _ _ => rfl) .none rfl (p_nilcheck rfl) ?_
          refine d_val1 6 rfl rfl (by kernel_rfl) (fun _ _ => rfl) .none rfl (p_field Try.underlying69 rfl sz3 rfl) ?_
          refine d_val1 7 rfl rfl (by kernel_rfl) (fun _ _ => rfl) .none rfl (p_ld (k := 0) Try.underlying3 rfl rfl rfl (by first | exact of_decide_eq_true rfl | omega) (rfl : _ = Value.int _ _)) ?_
          refine d_val1 8 rfl rfl (by kernel_rfl) (fun _ _ => rfl) .none rfl (p_move rfl) ?_
          obtain ⟨rm, rfl⟩ : ∃ rm : Nat, room = (rm : Int) := ⟨room.toNat, by omega⟩
          refine d_eff 9 rfl (by kernel_rfl) (fun K_4 hKK_4 hcK_4 => ?_)
          refine r_makechan .none rfl Try.underlying71 el36 rfl (by omega) (by omega) (fun c_5 => ?_)
          refine r_nil (e_d (i := 9) (brk := (fun _ => false)) (ph' := true) hKK_4 hcK_4 rfl (fun _ => GLe.refl _) (fun _ => .drop (.keep (fun _ _ h => h) (.drop (.keep (fun _ _ h => h) (.nil))))) ?_)
          clear hKK_4 hcK_4 K_4
          refine d_val1 10 rfl rfl (by kernel_rfl) (fun _ _ => rfl) .none rfl (p_build (vs := [(0, Value.chan _)]) rfl (bl73_0c1 _)) ?_
          refine d_eff 11 rfl (by kernel_rfl) (fun K_6 hKK_6 hcK_6 => ?_)
          refine r_box .none rfl rfl (IsRow.lit _) (fun b_1 => ?_)
          refine r_nil (e_d (i := 11) (brk := (fun _ => false)) (ph' := true) hKK_6 hcK_6 rfl (fun _ => GLe.refl _) (fun _ => .drop (.drop (.keep (fun _ _ h => h) (.drop (.keep (fun _ _ h => h) (.nil)))))) ?_)
          clear hKK_6 hcK_6 K_6
          refine d_eff 12 rfl (by kernel_rfl) (fun K_7 hKK_7 hcK_7 => ?_)
          refine r_mapup (i := 3) (k := s.2 + 1) (a := (b_1, c_5, rm, 0, [])) .none Try.underlying67 (KeyT.int Try.underlying3) rfl rfl rfl rfl ?_
          refine r_nil (e_d (i := 12) (brk := (fun _ => false)) (ph' := true) hKK_7 hcK_7 rfl (fun _ => GLe.refl _) (fun _ => .drop (.drop (.keep (fun _ _ h => h) (.drop (.keep (fun _ _ h => h) (.nil)))))) ?_)
          clear hKK_7 hcK_7 K_7
          refine d_nil (by kernel_rfl) ?_
          refine e_next ?_
          refine c_seq ?_
          refine c_region ?_
          refine r_val .none rfl (p_move rfl) ?_
          refine r_val .none rfl (p_nilcheck rfl) ?_
          refine r_val .none rfl (p_field Try.underlying69 rfl sz3 rfl) ?_
          refine r_val .none rfl (p_ld (k := 2) Try.underlying3 rfl rfl rfl (by first | exact of_decide_eq_true rfl | omega) (rfl : _ = Value.int _ _)) ?_
          refine r_val .none rfl (p_assign rfl) ?_
          refine r_val .none rfl (p_assign rfl) ?_
          refine r_nil ?_
          refine e_next ?_
          refine c_ret ?_
          refine e_front (k := 4) rfl ?_
          refine e_front (k := 2) rfl ?_
          refine e_front (k := 2) rfl ?_
          refine e_conv1 (B := box b_1 2 73 (at_ [.chan (some c_5), .int .i64 0])) (fun _ _ h => box_congr (fun i hi => by match i, hi with | 0, _ => rfl | 1, _ => rfl) _ _ h) ?_
          refine e_lnew (k := s.2 + 1) (lost := 0) hno ?_
          refine e_front (k := 2) rfl ?_
          refine e_front (k := 2) rfl ?_
          refine e_retn Try.results9 (.tmp rfl (.tmp rfl .nil)) rfl (fun w hm => ?_)
          rw [openI, openE, openS, if_neg hR, if_neg hR, if_neg hR, if_neg hB, if_neg hB, if_neg hB]
          exact ⟨rfl, hm.kept [box p 2 69 (at_ [.map (some m), .int .i64 (s.2 + 1)]), mapA m kI veL ((mput l (s.2 + 1) (b_1, c_5, rm, 0, []))), hoard (lisA 73 3) ((mput l (s.2 + 1) (b_1, c_5, rm, 0, [])))] (.keep (fun _ _ h => box_congr (fun i hi => by match i, hi with | 0, _ => rfl | 1, _ => rfl) _ _ h) (.keep (fun _ _ h => h) (.keep (fun _ _ h => h) (.nil)))) (feedA 69 73 3 p (mput s.1 (s.2 + 1) (rm, 0, []), s.2 + 1)) (fun F' h => ⟨(m, (mput l (s.2 + 1) (b_1, c_5, rm, 0, []))), (by dsimp only; rw [eraF_mput, hc]; rfl), h⟩)⟩
          )
       )
    )
theorem c_fwaits {F : Nat → Prop} {G : Ghost} (p : Nat) (id : Int) (s : FS)  (w : World) (hG : Has G w) (hA : (feedA 69 73 3 p s).holds w F) (hFG : ∀ b, F b → G b = none) :
  Calls Try.prog 13 #[Value.pointer (some ⟨p, 0, none⟩), Value.int .i64 id] w (Ret fun r w' => r = Value.int .i64 ((((lkp s.1 id).map fun x => x.2.2.length).getD 0 : Nat) : Int) ∧ Kept (feedA 69 73 3 p s) F w w') := by
 refine enterO (args := [_, _]) (G := G) (A := feedA 69 73 3 p s) (l := [(0, Value.pointer (some ⟨p, 0, none⟩)), (1, Value.int .i64 id)]) Try.func13 rfl Try.ntmps13 hG hA hFG ⟨rfl, rfl, trivial⟩ (Nat.le_of_ble_eq_true rfl) ?_
 refine c_unex (fun z => ?_)
 obtain ⟨m, l⟩ := z
 refine c_unand (fun hc => ?_)
 dsimp only at hc ⊢
 refine c_unpack ?_
 refine c_seq ?_
 refine c_region ?_
 refine r_val .none rfl (p_assign rfl) ?_
 refine r_nil ?_
 refine e_next ?_
 refine c_seq ?_
 refine c_seq ?_
 refine c_region ?_
 refine r_val .none rfl (p_move rfl) ?_
 refine r_val .none rfl (p_nilcheck rfl) ?_
 refine r_val .none rfl (p_field Try.underlying69 rfl sz67 rfl) ?_
 refine r_val .none rfl (p_ld (k := 0) Try.underlying67 rfl rfl rfl (by first | exact of_decide_eq_true rfl | omega) (rfl : _ = Value.map _)) ?_
 refine r_val .none rfl (p_move rfl) ?_
 rcases hN : lkp l id with _ | ⟨b, c, cap, lost, its⟩
 ·
  refine r_val .none rfl (p_lookup_no (i := 1) Try.underlying67 (KeyT.int Try.underlying3) zr70 rfl rfl rfl hN) ?_
  refine r_val .none rfl (p_assign rfl) ?_
  refine r_nil ?_
  refine e_next ?_
  refine c_seq ?_
  refine c_region ?_
  refine r_val .none rfl (p_move rfl) ?_
  refine r_val .none rfl (p_ne_ptr Try.underlying70 (by first | exact .inr rfl | exact .inl rfl) rfl rfl) ?_
  refine r_say (d := 13) (v := Value.bool false) rfl ?_
  refine r_nil ?_
  refine e_next ?_
  refine c_cond_f rfl ?_
  refine c_skip ?_
  refine e_next ?_
  refine c_seq ?_
  refine c_region ?_
  refine r_val .none rfl (p_assign rfl) ?_
  refine r_nil ?_
  refine e_next ?_
  refine c_ret ?_
  refine e_ret1 Try.results13 (.tmp rfl .nil) (fun w hm => ⟨?_, hm.kept [box p 2 69 (at_ [.map (some m), .int .i64 (s.2)]), mapA m kI veL (l), hoard (lisA 73 3) (l)] (.keep (fun _ _ h => h) (.keep (fun _ _ h => h) (.keep (fun _ _ h => h) (.nil)))) (feedA 69 73 3 p (s)) (fun F' h => ⟨(m, l), hc, h⟩)⟩)
  (rw [hc, eraF_lkp, hN]; rfl)
 ·
  refine r_front (k := 2) rfl ?_
  refine r_lfocus hN ?_
  refine r_val .none rfl (p_lookup_yes (i := 5) Try.underlying67 (KeyT.int Try.underlying3) zr70 rfl rfl rfl hN) ?_
  refine r_val .none rfl (p_assign rfl) ?_
  refine r_nil ?_
  refine e_next ?_
  refine c_seq ?_
  refine c_region ?_
  refine r_val .none rfl (p_move rfl) ?_
  refine r_val .none rfl (p_ne_ptr Try.underlying70 (by first | exact .inr rfl | exact .inl rfl) rfl rfl) ?_
  refine r_say (d := 13) (v := Value.bool true) rfl ?_
  refine r_nil ?_
  refine e_next ?_
  refine c_cond_t rfl ?_
  refine c_seq ?_
  refine c_region ?_
  refine r_val .none rfl (p_move rfl) ?_
  refine r_val .none rfl (p_nilcheck rfl) ?_
  refine r_val .none rfl (p_field Try.underlying73 rfl sz71 rfl) ?_
  refine r_val .none rfl (p_ld (k := 0) Try.underlying71 rfl rfl rfl (by first | exact of_decide_eq_true rfl | omega) (rfl : _ = Value.chan _)) ?_
  refine r_val .none rfl (p_len_chan (i := 1) Try.underlying71 rfl rfl) ?_
  refine r_val .none rfl (p_assign rfl) ?_
  refine r_nil ?_
  refine e_next ?_
  refine c_ret ?_
  refine e_ret_then ?_
  refine e_front (k := 3) rfl ?_
  refine e_front (k := 3) rfl ?_
  refine e_front (k := 3) rfl ?_
  refine e_front (k := 3) rfl ?_
  refine e_lback (lost) (its) hN ?_
  rw [mput_same hN]
  refine e_front (k := 2) rfl ?_
  refine e_front (k := 2) rfl ?_
  refine e_ret1 Try.results13 (.tmp rfl .nil) (fun w hm => ⟨?_, hm.kept [box p 2 69 (at_ [.map (some m), .int .i64 (s.2)]), mapA m kI veL (l), hoard (lisA 73 3) (l)] (.keep (fun _ _ h => h) (.keep (fun _ _ h => h) (.keep (fun _ _ h => h) (.nil)))) (feedA 69 73 3 p (s)) (fun F' h => ⟨(m, l), hc, h⟩)⟩)
  (rw [hc, eraF_lkp, hN]; simp [eraL])
theorem c_flost {F : Nat → Prop} {G : Ghost} (p : Nat) (id : Int) (s : FS)  (w : World) (hG : Has G w) (hA : (feedA 69 73 3 p s).holds w F) (hFG : ∀ b, F b → G b = none) :
  Calls Try.prog 14 #[Value.pointer (some ⟨p, 0, none⟩), Value.int .i64 id] w (Ret fun r w' => r = Value.int .i64 (((lkp s.1 id).map fun x => x.2.1).getD 0) ∧ Kept (feedA 69 73 3 p s) F w w') := by
 refine enterO (args := [_, _]) (G := G) (A := feedA 69 73 3 p s) (l := [(0, Value.pointer (some ⟨p, 0, none⟩)), (1, Value.int .i64 id)]) Try.func14 rfl Try.ntmps14 hG hA hFG ⟨rfl, rfl, trivial⟩ (Nat.le_of_ble_eq_true rfl) ?_
 refine c_unex (fun z => ?_)
 obtain ⟨m, l⟩ := z
 refine c_unand (fun hc => ?_)
 dsimp only at hc ⊢
 refine c_unpack ?_
 refine c_seq ?_
 refine c_region ?_
 refine r_val .none rfl (p_assign rfl) ?_
 refine r_nil ?_
 refine e_next ?_
 refine c_seq ?_
 refine c_seq ?_
 refine c_region ?_
 refine r_val .none rfl (p_move rfl) ?_
 refine r_val .none rfl (p_nilcheck rfl) ?_
 refine r_val .none rfl (p_field Try.underlying69 rfl sz67 rfl) ?_
 refine r_val .none rfl (p_ld (k := 0) Try.underlying67 rfl rfl rfl (by first | exact of_decide_eq_true rfl | omega) (rfl : _ = Value.map _)) ?_
 refine r_val .none rfl (p_move rfl) ?_
 rcases hN : lkp l id with _ | ⟨b, c, cap, lost, its⟩
 ·
  refine r_val .none rfl (p_lookup_no (i := 1) Try.underlying67 (KeyT.int Try.underlying3) zr70 rfl rfl rfl hN) ?_
  refine r_val .none rfl (p_assign rfl) ?_
  refine r_nil ?_
  refine e_next ?_
  refine c_seq ?_
  refine c_region ?_
  refine r_val .none rfl (p_move rfl) ?_
  refine r_val .none rfl (p_ne_ptr Try.underlying70 (by first | exact .inr rfl | exact .inl rfl) rfl rfl) ?_
  refine r_say (d := 13) (v := Value.bool false) rfl ?_
  refine r_nil ?_
  refine e_next ?_
  refine c_cond_f rfl ?_
  refine c_skip ?_
  refine e_next ?_
  refine c_seq ?_
  refine c_region ?_
  refine r_val .none rfl (p_assign rfl) ?_
  refine r_nil ?_
  refine e_next ?_
  refine c_ret ?_
  refine e_ret1 Try.results14 (.tmp rfl .nil) (fun w hm => ⟨?_, hm.kept [box p 2 69 (at_ [.map (some m), .int .i64 (s.2)]), mapA m kI veL (l), hoard (lisA 73 3) (l)] (.keep (fun _ _ h => h) (.keep (fun _ _ h => h) (.keep (fun _ _ h => h) (.nil)))) (feedA 69 73 3 p (s)) (fun F' h => ⟨(m, l), hc, h⟩)⟩)
  (rw [hc, eraF_lkp, hN]; rfl)
 ·
  refine r_front (k := 2) rfl ?_
  refine r_lfocus hN ?_
  refine r_val .none rfl (p_lookup_yes (i := 5) Try.underlying67 (KeyT.int Try.underlying3) zr70 rfl rfl rfl hN) ?_
  refine r_val .none rfl (p_assign rfl) ?_
  refine r_nil ?_
  refine e_next ?_
  refine c_seq ?_
  refine c_region ?_
  refine r_val .none rfl (p_move rfl) ?_
  refine r_val .none rfl (p_ne_ptr Try.underlying70 (by first | exact .inr rfl | exact .inl rfl) rfl rfl) ?_
  refine r_say (d := 13) (v := Value.bool true) rfl ?_
  refine r_nil ?_
  refine e_next ?_
  refine c_cond_t rfl ?_
  refine c_seq ?_
  refine c_region ?_
  refine r_val .none rfl (p_move rfl) ?_
  refine r_val .none rfl (p_nilcheck rfl) ?_
  refine r_val .none rfl (p_field Try.underlying73 rfl sz3 rfl) ?_
  refine r_val .none rfl (p_ld (k := 0) Try.underlying3 rfl rfl rfl (by first | exact of_decide_eq_true rfl | omega) (rfl : _ = Value.int _ _)) ?_
  refine r_val .none rfl (p_assign rfl) ?_
  refine r_nil ?_
  refine e_next ?_
  refine c_ret ?_
  refine e_ret_then ?_
  refine e_front (k := 3) rfl ?_
  refine e_front (k := 3) rfl ?_
  refine e_front (k := 3) rfl ?_
  refine e_front (k := 3) rfl ?_
  refine e_lback (lost) (its) hN ?_
  rw [mput_same hN]
  refine e_front (k := 2) rfl ?_
  refine e_front (k := 2) rfl ?_
  refine e_ret1 Try.results14 (.tmp rfl .nil) (fun w hm => ⟨?_, hm.kept [box p 2 69 (at_ [.map (some m), .int .i64 (s.2)]), mapA m kI veL (l), hoard (lisA 73 3) (l)] (.keep (fun _ _ h => h) (.keep (fun _ _ h => h) (.keep (fun _ _ h => h) (.nil)))) (feedA 69 73 3 p (s)) (fun F' h => ⟨(m, l), hc, h⟩)⟩)
  (rw [hc, eraF_lkp, hN]; simp [eraL])
theorem c_flen {F : Nat → Prop} {G : Ghost} (p : Nat)  (s : FS)  (w : World) (hG : Has G w) (hA : (feedA 69 73 3 p s).holds w F) (hFG : ∀ b, F b → G b = none) :
  Calls Try.prog 22 #[Value.pointer (some ⟨p, 0, none⟩)] w (Ret fun r w' => r = Value.int .i64 (s.1.length : Nat) ∧ Kept (feedA 69 73 3 p s) F w w') := by
 refine enterO (args := [_]) (G := G) (A := feedA 69 73 3 p s) (l := [(0, Value.pointer (some ⟨p, 0, none⟩))]) Try.func22 rfl Try.ntmps22 hG hA hFG ⟨rfl, trivial⟩ (Nat.le_of_ble_eq_true rfl) ?_
 refine c_unex (fun z => ?_)
 obtain ⟨m, l⟩ := z
 refine c_unand (fun hc => ?_)
 dsimp only at hc ⊢
 refine c_unpack ?_
 refine c_seq ?_
 refine c_region ?_
 refine r_val .none rfl (p_assign rfl) ?_
 refine r_nil ?_
 refine e_next ?_
 refine c_seq ?_
 refine c_region ?_
 refine r_val .none rfl (p_move rfl) ?_
 refine r_val .none rfl (p_nilcheck rfl) ?_
 refine r_val .none rfl (p_field Try.underlying69 rfl sz67 rfl) ?_
 refine r_val .none rfl (p_ld (k := 0) Try.underlying67 rfl rfl rfl (by first | exact of_decide_eq_true rfl | omega) (rfl : _ = Value.map _)) ?_
 refine r_val .none rfl (p_len_map (i := 1) Try.underlying67 rfl rfl) ?_
 refine r_val .none rfl (p_assign rfl) ?_
 refine r_nil ?_
 refine e_next ?_
 refine c_ret ?_
 refine e_ret1 Try.results22 (.tmp rfl .nil) (fun w hm => ⟨?_, hm.kept [box p 2 69 (at_ [.map (some m), .int .i64 (s.2)]), mapA m kI veL (l), hoard (lisA 73 3) (l)] (.keep (fun _ _ h => h) (.keep (fun _ _ h => h) (.keep (fun _ _ h => h) (.nil)))) (feedA 69 73 3 p (s)) (fun F' h => ⟨(m, l), hc, h⟩)⟩)
 (rw [hc, eraF_len])
end Go.Proofs.Ytplefabpplfjbaa

/- News are sent: one listener after the other, in whatever order. -/
namespace Go.Gx.T21
open Go.Gx
theorem enc_same : ∀ {l l' : List (Int × LB)} {k : Int} {u v : LB}, l'.map (enc kI veL) = l.map (enc kI veL) → lkp l k = some u → lkp l' k = some v → v.1 = u.1
  | [], _, _, _, _, _, h, _ => by cases h
  | p :: t, [], _, _, _, h, _, _ => by simp at h
  | p :: t, q :: t', k, u, v, h, h1, h2 => by
    simp only [List.map_cons, List.cons.injEq] at h
    obtain ⟨h3, h4⟩ := h
    have h5 : q.1 = p.1 := by have := congrArg Prod.fst h3; simpa [enc, kI] using this
    have h6 : q.2.1 = p.2.1 := by have := congrArg Prod.snd h3; simpa [enc, veL] using this
    rw [lkp] at h1 h2
    by_cases e : p.1 = k
    · rw [if_pos e] at h1; rw [if_pos (h5.trans e)] at h2
      cases h1; cases h2; exact h6
    · rw [if_neg e] at h1; rw [if_neg (fun e2 => e (h5.symm.trans e2))] at h2
      exact enc_same h4 h1 h2
section
variable {n : NE} {s1 : List (Int × LS)} {l l' lft a b : List (Int × LB)} {q : Int × LB}
theorem send_at (hc : s1 = eraF l) (hnd : (l.map (·.1)).Nodup) (hsub : ∀ q ∈ lft, q ∈ l) (hl : lft = a ++ q :: b) (he : eraF l' = selF n (lft.map (·.1)) s1) (hs : l'.map (enc kI veL) = l.map (enc kI veL)) :
    ∃ c cap lost vs, lkp l' q.1 = some (q.2.1, c, cap, lost, vs) ∧ lkp s1 q.1 = some (cap, lost, vs.map (·.2)) := by
  have hq : q ∈ lft := by rw [hl]; simp
  have h1 : lkp l q.1 = some q.2 := lkp_mem hnd (hsub q hq)
  have h2 : lkp s1 q.1 = some (eraL q.2) := by rw [hc, eraF_lkp, h1]; rfl
  have h3 : lkp (eraF l') q.1 = some (eraL q.2) := by rw [he, selF_lkp _ _ _ (List.mem_map.2 ⟨q, hq, rfl⟩), h2]
  obtain ⟨b0, c, vs, h4, h5⟩ := eraF_some h3
  have h6 : b0 = q.2.1 := enc_same hs h1 h4
  subst h6
  exact ⟨c, _, _, vs, h4, by rw [h2, h5]⟩
theorem send_next (hc : s1 = eraF l) (hnd : (l.map (·.1)).Nodup) (hsub : ∀ q ∈ lft, q ∈ l) (hn2 : (lft.map (·.1)).Nodup) (hl : lft = a ++ q :: b) (he : eraF l' = selF n (lft.map (·.1)) s1) (hs : l'.map (enc kI veL) = l.map (enc kI veL))
    {c cap : Nat} {lost : Int} {vs : List NV} (hN : lkp l' q.1 = some (q.2.1, c, cap, lost, vs)) (hS : lkp s1 q.1 = some (cap, lost, vs.map (·.2))) (lost' : Int) (vs' : List NV) (h' : (cap, lost', vs'.map (·.2)) = sendL n (cap, lost, vs.map (·.2))) :
    (∀ q' ∈ a ++ b, q' ∈ l) ∧ ((a ++ b).map (·.1)).Nodup ∧ eraF (mput l' q.1 (q.2.1, c, cap, lost', vs')) = selF n ((a ++ b).map (·.1)) s1 ∧ (mput l' q.1 (q.2.1, c, cap, lost', vs')).map (enc kI veL) = l.map (enc kI veL) ∧
      cntF ((a ++ b).map (·.1)) s1 = cntF (lft.map (·.1)) s1 + if vs.length < cap then 1 else 0 := by
  have hmem : ∀ q' ∈ a ++ b, q' ∈ lft := fun q' h => by rw [hl]; rcases List.mem_append.1 h with h | h <;> simp [h]
  have hkeys : lft.map (·.1) = a.map (·.1) ++ q.1 :: b.map (·.1) := by rw [hl]; simp
  rw [hkeys] at hn2
  have hn3 := List.nodup_append.1 hn2
  have hn4 := List.nodup_cons.1 hn3.2.1
  have hS2 : ∀ x, x ∈ (a ++ b).map (·.1) ↔ x ∈ lft.map (·.1) ∧ ¬ x = q.1 := by
    intro x
    rw [hkeys, List.map_append, List.mem_append, List.mem_append, List.mem_cons]
    constructor
    · rintro (h | h)
      · exact ⟨.inl h, fun e => hn3.2.2 x h q.1 (by simp) e⟩
      · exact ⟨.inr (.inr h), fun e => hn4.1 (e ▸ h)⟩
    · rintro ⟨h | h | h, h2⟩
      · exact .inl h
      · exact absurd h h2
      · exact .inr h
  have hin : q.1 ∈ lft.map (·.1) := by rw [hkeys]; simp
  have hnd1 : (s1.map (·.1)).Nodup := by rw [hc, eraF_keys]; exact hnd
  obtain ⟨h1, h2⟩ := sel_step n hin hS2 hnd1 hS
  refine ⟨fun q' h => hsub q' (hmem q' h), ?_, ?_, ?_, ?_⟩
  · rw [List.map_append]
    exact List.nodup_append.2 ⟨hn3.1, hn4.2, fun x hx y hy => hn3.2.2 x hx y (by simp [hy])⟩
  · rw [eraF_mput, he, ← h1]
    congr 1
  · rw [← hs]
    exact (mput_enc hN (by rfl)).symm
  · rw [h2]; simp
end
theorem feed_row {TF TL TI : TypeId} {p m : Nat} {l : List (Int × LB)} {s : FS} {Z : Asrt} (hc : s.1 = eraF l) {w : World} {F : Nat → Prop} (h : (starL [Z, box p 2 TF (at_ [.map (some m), .int .i64 s.2]), mapA m kI veL l, hoard (lisA TL TI) l]).holds w F) : (starL [Z, feedA TF TL TI p s]).holds w F := by
  obtain ⟨F1, F2, h1, h2, h3⟩ := h
  exact ⟨F1, F2, h1, (starL_oneE w F2).2 ⟨(m, l), hc, h2⟩, h3⟩
def takeS (s : FS) (id : Int) (cap : Nat) (lost : Int) (t : List NE) : FS := (mput s.1 id (cap, lost, t), s.2)
end Go.Gx.T21

/- Walks: what Go functions of this chapter come to, each as a function on plain data; no condition but those that each theorem names. Printed by a program of this work (gen.py). -/
namespace Go.Proofs.Ytplefabpplfjbaa
open Go.Gx Go.Gx.T21 Go.Gx.T6 Go.Gx.T4
theorem sz4 : SzIs Try.prog 4 1 := by
 unfold SzIs
 kernel_rfl
theorem sz9 : SzIs Try.prog 9 1 := by
 unfold SzIs
 kernel_rfl
theorem sz22 : SzIs Try.prog 22 1 := by
 unfold SzIs
 kernel_rfl
theorem sz24 : SzIs Try.prog 24 2 := by
 unfold SzIs
 kernel_rfl
theorem sz36 : SzIs Try.prog 36 3 := by
 unfold SzIs
 kernel_rfl
theorem zr36 : ZeroIs Try.prog 36 (Value.agg #[Value.bool false, Value.string ⟨#[]⟩, Value.slice none 0 0]) := by
 unfold ZeroIs
 kernel_rfl
theorem cl24 : Callable Try.prog 24 := callable Try.func24 (by kernel_rfl) rfl
theorem bl24_0s1_1s3 (x0 : ByteArray) (x1 : Option Addr) (x2 : Nat) (x3 : Nat) : Program.built Try.prog 24 [(0, Value.string x0), (1, Value.slice x1 x2 x3)] = some #[Value.string x0, Value.slice x1 x2 x3] := by
 kernel_rfl
theorem bl36_0b1_1a2 (x0 : Bool) (x1 : Value) (x2 : Value) : Program.built Try.prog 36 [(0, Value.bool x0), (1, Value.agg #[x1, x2])] = some #[Value.bool x0, x1, x2] := by
 kernel_rfl
theorem bl36_  : Program.built Try.prog 36 [] = some #[Value.bool false, Value.string ⟨#[]⟩, Value.slice none 0 0] := by
 kernel_rfl
theorem c_fsend {F : Nat → Prop} {G : Ghost} (p : Nat) (cm : Bool) (rl : ByteArray) (vi : Value) (ids : List Int) (s : FS) (hs : SlL G vi 1 cI (0 : Int) ids) (hn : ids.length ≤ 1000) (hnd : (s.1.map (·.1)).Nodup) (hln : s.1.length ≤ 1000) (hlb : ∀ id x, lkp s.1 id = some x → 0 ≤ x.2.1 ∧ x.2.1 ≤ 1000000) (w : World) (hG : Has G w) (hA : (feedA 69 73 3 p s).holds w F) (hFG : ∀ b, F b → G b = none) :
  Calls Try.prog 10 #[Value.pointer (some ⟨p, 0, none⟩), Value.agg #[.bool cm, .string rl, vi]] w (Ret fun r w' => r = Value.int .i64 (haveF s.1 : Nat) ∧ Kept (feedA 69 73 3 p (sendF (cm, rl, ids) s.1, s.2)) F w w') := by
 refine enterO (args := [_, _]) (G := G) (A := feedA 69 73 3 p s) (l := [(0, Value.pointer (some ⟨p, 0, none⟩)), (1, Value.agg #[.bool cm, .string rl, vi])]) Try.func10 rfl Try.ntmps10 hG hA hFG ⟨rfl, rfl, trivial⟩ (Nat.le_of_ble_eq_true rfl) ?_
 refine c_unex (fun z => ?_)
 obtain ⟨m, l⟩ := z
 refine c_unand (fun hc => ?_)
 dsimp only at hc ⊢
 refine c_unpack ?_
 have hnl : (l.map (·.1)).Nodup := by rw [← eraF_keys, ← hc]; exact hnd
 have hll : l.length ≤ 1000 := by (have h9 := hln; rw [hc, eraF_len] at h9; exact h9)
 refine c_seq ?_
 refine c_region ?_
 refine r_box .none rfl rfl (IsRow.lit _) (fun b_1 => ?_)
 refine r_val .none rfl (p_assign rfl) ?_
 refine r_nil ?_
 refine e_next ?_
 refine c_seq ?_
 refine c_region ?_
 refine r_val .none rfl (p_assign rfl) ?_
 refine r_nil ?_
 refine e_next ?_
 refine c_seq ?_
 refine c_seq ?_
 refine c_region ?_
 refine r_val .none rfl (p_move rfl) ?_
 refine r_val .none rfl (p_nilcheck rfl) ?_
 refine r_val .none rfl (p_field Try.underlying69 rfl sz67 rfl) ?_
 refine r_val .none rfl (p_ld (k := 1) Try.underlying67 rfl rfl rfl (by first | exact of_decide_eq_true rfl | omega) (rfl : _ = Value.map _)) ?_
 refine r_range_map (i := 2) .none rfl Try.underlying67 rfl rfl (fun r_1 => ?_)
 refine r_nil ?_
 refine e_next ?_
 refine c_block ?_
 refine c_name (d := 3) rfl (fun u_2 hu_2 => ?_)
 refine c_name (d := 4) rfl (fun u_3 hu_3 => ?_)
 refine c_name (d := 13) rfl (fun u_4 hu_4 => ?_)
 refine c_nameL (k := 0) rfl (fun A_5 hA_5 => ?_)
 refine c_nameL (k := 1) rfl (fun A_6 hA_6 => ?_)
 refine c_loop (σ := List (Int × LB) × List (Int × LB) × Nat) (fun s' => [(5, Value.int .i64 (s'.2.2 : Nat)), (3, u_2), (4, u_3), (13, u_4)]) (fun s' => [A_5, A_6, ranA m r_1 kI veL l s'.1, hoard (lisA 73 3) s'.2.1]) (fun _ => _) (fun s' => (∀ q ∈ s'.1, q ∈ l) ∧ (s'.1.map (·.1)).Nodup ∧ eraF s'.2.1 = selF (cm, rl, ids) (s'.1.map (·.1)) s.1 ∧ s'.2.1.map (enc kI veL) = l.map (enc kI veL) ∧ s'.2.2 = cntF (s'.1.map (·.1)) s.1) (fun s' => s'.1.length) ((l, l, 0)) ⟨fun _ h => h, hnl, by rw [selF_all _ (fun q hq => by rw [hc] at hq; rw [← eraF_keys]; exact List.mem_map.2 ⟨q, hq, rfl⟩), hc], rfl, (cntF_all (fun q hq => by rw [hc] at hq; rw [← eraF_keys]; exact List.mem_map.2 ⟨q, hq, rfl⟩)).symm⟩ rfl ⟨rfl, rfl, rfl, rfl, trivial⟩ (.keep (fun _ _ h => h) (.keep (fun _ _ h => h) (.keep (fun _ _ h => h) (.keep (fun _ _ h => h) (.nil))))) (fun s' hphi => ?_)
 subst hu_2
 subst hu_3
 subst hu_4
 subst hA_5
 subst hA_6
 obtain ⟨lft, l2, hv⟩ := s'
 obtain ⟨hsub, hnd2, he, hs2, hcn⟩ := hphi
 dsimp only at hsub hnd2 he hs2 hcn ⊢
 have hcl : cntF (lft.map (·.1)) s.1 ≤ 1000 := Nat.le_trans (List.length_filter_le _ _) hln
 refine c_seq ?_
 refine c_region ?_
 refine r_next_map (i := 2) .none rfl rfl rfl (fun a_8 q_9 b_10 h_7 => ?_) (fun h_7 => ?_)
 ·
  refine r_val .none rfl (p_extract rfl rfl) ?_
  refine r_nil ?_
  refine e_next ?_
  refine c_seq ?_
  refine c_cond_t rfl ?_
  refine c_skip ?_
  refine e_next ?_
  refine c_block ?_
  refine c_seq ?_
  refine c_region ?_
  refine r_val .none rfl (p_entry (i := 2) rfl rfl) ?_
  refine r_val .none rfl (p_extract rfl rfl) ?_
  obtain ⟨c, cap, lost, vs, hN, hS⟩ := send_at hc hnl hsub h_7 he hs2
  have hlo := hlb q_9.1 _ hS
  dsimp only at hlo
  refine r_front (k := 3) rfl ?_
  refine r_lfocus hN ?_
  refine r_val .none rfl (p_assign rfl) ?_
  refine r_nil ?_
  refine e_next ?_
  refine c_seq ?_
  refine c_region_d (fun _ => false) _ mixed (.keep (fun _ _ h => h) (.keep (fun _ _ h => h) (.keep (fun _ _ h => h) (.keep (fun _ _ h => h) (.keep (fun _ _ h => h) (.keep (fun _ _ h => h) (.keep (fun _ _ h => h) (.nil)))))))) ?_
  refine d_val1 0 rfl rfl (by kernel_rfl) (fun _ _ => rfl) .none rfl (p_field Try.underlying36 rfl sz4 rfl) ?_
  refine d_val1 1 rfl rfl (by kernel_rfl) (fun _ _ => rfl) .none rfl (p_ld (k := 4) Try.underlying4 rfl rfl rfl (by first | exact of_decide_eq_true rfl | omega) (rfl : _ = Value.bool _)) ?_
  refine d_val1 2 rfl rfl (by kernel_rfl) (fun _ _ => rfl) .none rfl (p_field Try.underlying36 rfl sz24 rfl) ?_
  refine d_val1 3 rfl rfl (by kernel_rfl) (fun _ _ => rfl) .none rfl (p_field Try.underlying24 rfl sz9 rfl) ?_
  refine d_val1 4 rfl rfl (by kernel_rfl) (fun _ _ => rfl) .none rfl (p_ld (k := 4) Try.underlying9 rfl rfl rfl (by first | exact of_decide_eq_true rfl | omega) (rfl : _ = Value.string _)) ?_
  refine d_val1 5 rfl rfl (by kernel_rfl) (fun _ _ => rfl) .none rfl (p_field Try.underlying36 rfl sz24 rfl) ?_
  refine d_val1 6 rfl rfl (by kernel_rfl) (fun _ _ => rfl) .none rfl (p_field Try.underlying24 rfl sz22 rfl) ?_
  refine d_val1 7 rfl rfl (by kernel_rfl) (fun _ _ => rfl) .none rfl (p_ld (k := 4) Try.underlying22 rfl rfl rfl (by first | exact of_decide_eq_true rfl | omega) rfl) ?_
  refine d_eff2 8 11 rfl rfl (by kernel_rfl) (fun K_11 hKK_11 hcK_11 => ?_) (fun K_11 hKK_11 hcK_11 => ?_)
  ·
   refine r_callrow (vs := [_]) .none rfl cl24 rfl (fun w hw => c_cloneI vi ids hs hn w hw) (fun v_12 => ?_)
   refine r_nil (e_d (i := 8) (brk := (fun _ => false)) (ph' := true) hKK_11 hcK_11 rfl (fun _ => GLe.refl _) (fun _ => .drop (.keep (fun _ _ h => h) (.keep (fun _ _ h => h) (.keep (fun _ _ h => h) (.keep (fun _ _ h => h) (.keep (fun _ _ h => h) (.keep (fun _ _ h => h) (.keep (fun _ _ h => h) (.nil))))))))) ?_)
   clear hKK_11 hcK_11 K_11
   refine d_rowsl (k := 0) rfl (fun a_13 c_14 e_15 => ?_)
   subst e_15
   refine d_val1 9 rfl rfl (by kernel_rfl) (fun _ _ => rfl) .none rfl (p_build (vs := [(0, Value.string _), (1, Value.slice _ _ _)]) rfl (bl24_0s1_1s3 _ _ _ _)) ?_
   refine d_val1 10 rfl rfl (by kernel_rfl) (fun _ _ => rfl) .none rfl (p_build (vs := [(0, Value.bool _), (1, Value.agg #[_, _])]) rfl (bl36_0b1_1a2 _ _ _)) ?_
   refine d_eff 11 rfl (by kernel_rfl) (fun K_16 hKK_16 hcK_16 => ?_)
   refine r_alloc .none rfl zr36 (IsRow.lit _) (fun b_2 => ?_)
   refine r_nil (e_d (i := 11) (brk := (fun _ => false)) (ph' := true) hKK_16 hcK_16 rfl (fun _ => GLe.refl _) (fun _ => .drop (.drop (.keep (fun _ _ h => h) (.keep (fun _ _ h => h) (.keep (fun _ _ h => h) (.keep (fun _ _ h => h) (.keep (fun _ _ h => h) (.keep (fun _ _ h => h) (.keep (fun _ _ h => h) (.nil)))))))))) ?_)
   clear hKK_16 hcK_16 K_16
   refine d_eff 12 rfl (by kernel_rfl) (fun K_17 hKK_17 hcK_17 => ?_)
   refine r_stw (k := 0) .none sz36 rfl rfl (IsRow.lit _) (one_lit rfl rfl) rfl ?_
   refine r_nil (e_d (i := 12) (brk := (fun _ => false)) (ph' := true) hKK_17 hcK_17 rfl (fun _ => GLe.refl _) (fun _ => .drop (.drop (.keep (fun _ _ h => h) (.keep (fun _ _ h => h) (.keep (fun _ _ h => h) (.keep (fun _ _ h => h) (.keep (fun _ _ h => h) (.keep (fun _ _ h => h) (.keep (fun _ _ h => h) (.nil)))))))))) ?_)
   clear hKK_17 hcK_17 K_17
   refine d_nil (by kernel_rfl) ?_
   refine e_next ?_
   refine c_seq ?_
   refine c_seq ?_
   refine c_region ?_
   refine r_val .none rfl (p_move rfl) ?_
   refine r_val .none rfl (p_nilcheck rfl) ?_
   refine r_val .none rfl (p_field Try.underlying73 rfl sz71 rfl) ?_
   refine r_val .none rfl (p_ld (k := 2) Try.underlying71 rfl rfl rfl (by first | exact of_decide_eq_true rfl | omega) (rfl : _ = Value.chan _)) ?_
   refine r_nil ?_
   refine e_next ?_
   refine c_region ?_
   refine r_val .none rfl (p_ldw (k := 0) Try.underlying36 rfl sz36 rfl rfl (rfl : _ = Value.agg #[_, _, _])) ?_
   refine r_nil ?_
   refine e_next ?_
   refine c_seq ?_
   refine c_sel_send 3 rfl zr36 rfl rfl rfl (fun h_18 => ?_) (fun h_18 => ?_)
   ·
    have hrm := h_18
    refine r_conv (B := nrow 3 ((Value.slice a_13 ids.length c_14), (cm, rl, ids))) (k := 1) rfl (fun _ _ h => h) ?_
    dsimp only [List.set_cons_zero, List.set_cons_succ]
    refine r_front (k := 4) rfl ?_
    refine r_front (k := 2) rfl ?_
    refine r_rowsnoc ?_
    refine r_conv (B := chanA c cap ((vs ++ [((Value.slice a_13 ids.length c_14), (cm, rl, ids))]).map nvV)) (k := 3) rfl (fun _ _ h => by rw [List.map_append]; exact h) ?_
    dsimp only [List.set_cons_zero, List.set_cons_succ]
    have hlt : vs.length < cap := by (have h9 := hrm; rw [List.length_map] at h9; exact h9)
    refine r_val .none rfl (p_extract rfl rfl) ?_
    refine r_val .none rfl (p_eq rfl rfl) ?_
    refine r_say (d := 36) (v := Value.bool true) rfl ?_
    refine r_nil ?_
    refine e_next ?_
    refine c_block ?_
    refine c_cond_t rfl ?_
    refine c_region ?_
    refine r_val .none rfl (p_move rfl) ?_
    refine r_val .none rfl (p_add rfl rfl (by omega)) ?_
    refine r_val .none rfl (p_assign rfl) ?_
    refine r_nil ?_
    refine e_norm_block ?_
    refine e_norm_block ?_
    refine e_front (k := 4) rfl ?_
    refine e_front (k := 1) rfl ?_
    refine e_front (k := 4) rfl ?_
    refine e_front (k := 4) rfl ?_
    refine e_conv1 (B := box q_9.2.1 2 73 (at_ [.chan (some c), .int .i64 lost])) (fun _ _ h => box_congr (fun i hi => by match i, hi with | 0, _ => rfl | 1, _ => rfl) _ _ h) ?_
    refine e_lback lost (vs ++ [((Value.slice a_13 ids.length c_14), (cm, rl, ids))]) hN ?_
    refine e_front (k := 4) rfl ?_
    refine e_front (k := 4) rfl ?_
    refine e_front (k := 4) rfl ?_
    obtain ⟨n1, n2, n3, n4, n5⟩ := send_next hc hnl hsub hnd2 h_7 he hs2 hN hS lost (vs ++ [((Value.slice a_13 ids.length c_14), (cm, rl, ids))]) (by rw [sendL, if_pos (by simpa using hlt)]; simp)
    rw [if_pos hlt] at n5
    refine e_round ((a_8 ++ b_10, mput l2 q_9.1 (q_9.2.1, c, cap, lost, (vs ++ [((Value.slice a_13 ids.length c_14), (cm, rl, ids))])), hv + 1)) ⟨⟨n1, n2, n3, n4, by dsimp only; omega⟩, by dsimp only; rw [h_7, List.length_append, List.length_append, List.length_cons]; omega⟩ rfl ⟨rfl, rfl, rfl, rfl, trivial⟩ (.keep (fun _ _ h => h) (.keep (fun _ _ h => h) (.keep (fun _ _ h => ranE_A h) (.keep (fun _ _ h => h) (.drop (.nil))))))
   ·
    have hrm := h_18
    have hlt : ¬ vs.length < cap := by (have h9 := hrm; rw [List.length_map] at h9; omega)
    refine r_val .none rfl (p_extract rfl rfl) ?_
    refine r_val .none rfl (p_eq rfl rfl) ?_
    refine r_say (d := 36) (v := Value.bool false) rfl ?_
    refine r_nil ?_
    refine e_next ?_
    refine c_block ?_
    refine c_cond_f rfl ?_
    refine c_region ?_
    refine r_val .none rfl (p_move rfl) ?_
    refine r_val .none rfl (p_nilcheck rfl) ?_
    refine r_val .none rfl (p_field Try.underlying73 rfl sz3 rfl) ?_
    refine r_val .none rfl (p_ld (k := 2) Try.underlying3 rfl rfl rfl (by first | exact of_decide_eq_true rfl | omega) (rfl : _ = Value.int _ _)) ?_
    refine r_val .none rfl (p_add rfl rfl (by omega)) ?_
    refine r_val .none rfl (p_nilcheck rfl) ?_
    refine r_val .none rfl (p_field Try.underlying73 rfl sz3 rfl) ?_
    refine r_st (k := 2) .none sz3 rfl rfl rfl rfl (by first | exact of_decide_eq_true rfl | omega) ?_
    refine r_nil ?_
    refine e_norm_block ?_
    refine e_norm_block ?_
    refine e_front (k := 5) rfl ?_
    refine e_front (k := 5) rfl ?_
    refine e_front (k := 5) rfl ?_
    refine e_front (k := 5) rfl ?_
    refine e_conv1 (B := box q_9.2.1 2 73 (at_ [.chan (some c), .int .i64 (lost + 1)])) (fun _ _ h => box_congr (fun i hi => by match i, hi with | 0, _ => rfl | 1, _ => rfl) _ _ h) ?_
    refine e_lback (lost + 1) vs hN ?_
    refine e_front (k := 5) rfl ?_
    refine e_front (k := 5) rfl ?_
    refine e_front (k := 5) rfl ?_
    obtain ⟨n1, n2, n3, n4, n5⟩ := send_next hc hnl hsub hnd2 h_7 he hs2 hN hS (lost + 1) vs (by rw [sendL, if_neg (by simpa using hlt)])
    rw [if_neg hlt] at n5
    refine e_round ((a_8 ++ b_10, mput l2 q_9.1 (q_9.2.1, c, cap, (lost + 1), vs), hv)) ⟨⟨n1, n2, n3, n4, by dsimp only; omega⟩, by dsimp only; rw [h_7, List.length_append, List.length_append, List.length_cons]; omega⟩ rfl ⟨rfl, rfl, rfl, rfl, trivial⟩ (.keep (fun _ _ h => h) (.keep (fun _ _ h => h) (.keep (fun _ _ h => ranE_A h) (.keep (fun _ _ h => h) (.drop (.drop (.nil)))))))
  ·
   refine r_alloc .none rfl zr36 (IsRow.lit _) (fun b_3 => ?_)
   refine r_nil (e_d (i := 11) (brk := (fun _ => false)) (ph' := true) hKK_11 hcK_11 rfl (fun _ => GLe.refl _) (fun _ => .drop (.keep (fun _ _ h => h) (.keep (fun _ _ h => h) (.keep (fun _ _ h => h) (.keep (fun _ _ h => h) (.keep (fun _ _ h => h) (.keep (fun _ _ h => h) (.keep (fun _ _ h => h) (.nil))))))))) ?_)
   clear hKK_11 hcK_11 K_11
   refine d_eff 8 rfl (by kernel_rfl) (fun K_19 hKK_19 hcK_19 => ?_)
   refine r_callrow (vs := [_]) .none rfl cl24 rfl (fun w hw => c_cloneI vi ids hs hn w hw) (fun v_20 => ?_)
   refine r_nil (e_d (i := 8) (brk := (fun _ => false)) (ph' := true) hKK_19 hcK_19 rfl (fun _ => GLe.refl _) (fun _ => .drop (.drop (.keep (fun _ _ h => h) (.keep (fun _ _ h => h) (.keep (fun _ _ h => h) (.keep (fun _ _ h => h) (.keep (fun _ _ h => h) (.keep (fun _ _ h => h) (.keep (fun _ _ h => h) (.nil)))))))))) ?_)
   clear hKK_19 hcK_19 K_19
   refine d_rowsl (k := 0) rfl (fun a_21 c_22 e_23 => ?_)
   subst e_23
   refine d_val1 9 rfl rfl (by kernel_rfl) (fun _ _ => rfl) .none rfl (p_build (vs := [(0, Value.string _), (1, Value.slice _ _ _)]) rfl (bl24_0s1_1s3 _ _ _ _)) ?_
   refine d_val1 10 rfl rfl (by kernel_rfl) (fun _ _ => rfl) .none rfl (p_build (vs := [(0, Value.bool _), (1, Value.agg #[_, _])]) rfl (bl36_0b1_1a2 _ _ _)) ?_
   refine d_eff 12 rfl (by kernel_rfl) (fun K_24 hKK_24 hcK_24 => ?_)
   refine r_stw (k := 1) .none sz36 rfl rfl (IsRow.lit _) (one_lit rfl rfl) rfl ?_
   refine r_nil (e_d (i := 12) (brk := (fun _ => false)) (ph' := true) hKK_24 hcK_24 rfl (fun _ => GLe.refl _) (fun _ => .drop (.drop (.keep (fun _ _ h => h) (.keep (fun _ _ h => h) (.keep (fun _ _ h => h) (.keep (fun _ _ h => h) (.keep (fun _ _ h => h) (.keep (fun _ _ h => h) (.keep (fun _ _ h => h) (.nil)))))))))) ?_)
   clear hKK_24 hcK_24 K_24
   refine d_nil (by kernel_rfl) ?_
   refine e_next ?_
   refine c_seq ?_
   refine c_seq ?_
   refine c_region ?_
   refine r_val .none rfl (p_move rfl) ?_
   refine r_val .none rfl (p_nilcheck rfl) ?_
   refine r_val .none rfl (p_field Try.underlying73 rfl sz71 rfl) ?_
   refine r_val .none rfl (p_ld (k := 2) Try.underlying71 rfl rfl rfl (by first | exact of_decide_eq_true rfl | omega) (rfl : _ = Value.chan _)) ?_
   refine r_nil ?_
   refine e_next ?_
   refine c_region ?_
   refine r_val .none rfl (p_ldw (k := 1) Try.underlying36 rfl sz36 rfl rfl (rfl : _ = Value.agg #[_, _, _])) ?_
   refine r_nil ?_
   refine e_next ?_
   refine c_seq ?_
   refine c_sel_send 3 rfl zr36 rfl rfl rfl (fun h_25 => ?_) (fun h_25 => ?_)
   ·
    have hrm := h_25
    refine r_conv (B := nrow 3 ((Value.slice a_21 ids.length c_22), (cm, rl, ids))) (k := 0) rfl (fun _ _ h => h) ?_
    dsimp only [List.set_cons_zero, List.set_cons_succ]
    refine r_front (k := 4) rfl ?_
    refine r_front (k := 1) rfl ?_
    refine r_rowsnoc ?_
    refine r_conv (B := chanA c cap ((vs ++ [((Value.slice a_21 ids.length c_22), (cm, rl, ids))]).map nvV)) (k := 3) rfl (fun _ _ h => by rw [List.map_append]; exact h) ?_
    dsimp only [List.set_cons_zero, List.set_cons_succ]
    have hlt : vs.length < cap := by (have h9 := hrm; rw [List.length_map] at h9; exact h9)
    refine r_val .none rfl (p_extract rfl rfl) ?_
    refine r_val .none rfl (p_eq rfl rfl) ?_
    refine r_say (d := 36) (v := Value.bool true) rfl ?_
    refine r_nil ?_
    refine e_next ?_
    refine c_block ?_
    refine c_cond_t rfl ?_
    refine c_region ?_
    refine r_val .none rfl (p_move rfl) ?_
    refine r_val .none rfl (p_add rfl rfl (by omega)) ?_
    refine r_val .none rfl (p_assign rfl) ?_
    refine r_nil ?_
    refine e_norm_block ?_
    refine e_norm_block ?_
    refine e_front (k := 4) rfl ?_
    refine e_front (k := 1) rfl ?_
    refine e_front (k := 4) rfl ?_
    refine e_front (k := 4) rfl ?_
    refine e_conv1 (B := box q_9.2.1 2 73 (at_ [.chan (some c), .int .i64 lost])) (fun _ _ h => box_congr (fun i hi => by match i, hi with | 0, _ => rfl | 1, _ => rfl) _ _ h) ?_
    refine e_lback lost (vs ++ [((Value.slice a_21 ids.length c_22), (cm, rl, ids))]) hN ?_
    refine e_front (k := 4) rfl ?_
    refine e_front (k := 4) rfl ?_
    refine e_front (k := 4) rfl ?_
    obtain ⟨n1, n2, n3, n4, n5⟩ := send_next hc hnl hsub hnd2 h_7 he hs2 hN hS lost (vs ++ [((Value.slice a_21 ids.length c_22), (cm, rl, ids))]) (by rw [sendL, if_pos (by simpa using hlt)]; simp)
    rw [if_pos hlt] at n5
    refine e_round ((a_8 ++ b_10, mput l2 q_9.1 (q_9.2.1, c, cap, lost, (vs ++ [((Value.slice a_21 ids.length c_22), (cm, rl, ids))])), hv + 1)) ⟨⟨n1, n2, n3, n4, by dsimp only; omega⟩, by dsimp only; rw [h_7, List.length_append, List.length_append, List.length_cons]; omega⟩ rfl ⟨rfl, rfl, rfl, rfl, trivial⟩ (.keep (fun _ _ h => h) (.keep (fun _ _ h => h) (.keep (fun _ _ h => ranE_A h) (.keep (fun _ _ h => h) (.drop (.nil))))))
   ·
    have hrm := h_25
    have hlt : ¬ vs.length < cap := by (have h9 := hrm; rw [List.length_map] at h9; omega)
    refine r_val .none rfl (p_extract rfl rfl) ?_
    refine r_val .none rfl (p_eq rfl rfl) ?_
    refine r_say (d := 36) (v := Value.bool false) rfl ?_
    refine r_nil ?_
    refine e_next ?_
    refine c_block ?_
    refine c_cond_f rfl ?_
    refine c_region ?_
    refine r_val .none rfl (p_move rfl) ?_
    refine r_val .none rfl (p_nilcheck rfl) ?_
    refine r_val .none rfl (p_field Try.underlying73 rfl sz3 rfl) ?_
    refine r_val .none rfl (p_ld (k := 2) Try.underlying3 rfl rfl rfl (by first | exact of_decide_eq_true rfl | omega) (rfl : _ = Value.int _ _)) ?_
    refine r_val .none rfl (p_add rfl rfl (by omega)) ?_
    refine r_val .none rfl (p_nilcheck rfl) ?_
    refine r_val .none rfl (p_field Try.underlying73 rfl sz3 rfl) ?_
    refine r_st (k := 2) .none sz3 rfl rfl rfl rfl (by first | exact of_decide_eq_true rfl | omega) ?_
    refine r_nil ?_
    refine e_norm_block ?_
    refine e_norm_block ?_
    refine e_front (k := 5) rfl ?_
    refine e_front (k := 5) rfl ?_
    refine e_front (k := 5) rfl ?_
    refine e_front (k := 5) rfl ?_
    refine e_conv1 (B := box q_9.2.1 2 73 (at_ [.chan (some c), .int .i64 (lost + 1)])) (fun _ _ h => box_congr (fun i hi => by match i, hi with | 0, _ => rfl | 1, _ => rfl) _ _ h) ?_
    refine e_lback (lost + 1) vs hN ?_
    refine e_front (k := 5) rfl ?_
    refine e_front (k := 5) rfl ?_
    refine e_front (k := 5) rfl ?_
    obtain ⟨n1, n2, n3, n4, n5⟩ := send_next hc hnl hsub hnd2 h_7 he hs2 hN hS (lost + 1) vs (by rw [sendL, if_neg (by simpa using hlt)])
    rw [if_neg hlt] at n5
    refine e_round ((a_8 ++ b_10, mput l2 q_9.1 (q_9.2.1, c, cap, (lost + 1), vs), hv)) ⟨⟨n1, n2, n3, n4, by dsimp only; omega⟩, by dsimp only; rw [h_7, List.length_append, List.length_append, List.length_cons]; omega⟩ rfl ⟨rfl, rfl, rfl, rfl, trivial⟩ (.keep (fun _ _ h => h) (.keep (fun _ _ h => h) (.keep (fun _ _ h => ranE_A h) (.keep (fun _ _ h => h) (.drop (.drop (.nil)))))))
 ·
  refine r_unrange (i := 2) rfl ?_
  have hlf := h_7
  subst hlf
  refine r_val .none rfl (p_extract rfl rfl) ?_
  refine r_nil ?_
  refine e_next ?_
  refine c_seq ?_
  refine c_cond_f rfl ?_
  refine c_exit ?_
  refine e_exit_then ?_
  refine e_exit_then ?_
  refine e_exit_block ?_
  refine e_next ?_
  refine c_seq ?_
  refine c_region ?_
  refine r_val .none rfl (p_move rfl) ?_
  refine r_val .none rfl (p_assign rfl) ?_
  refine r_nil ?_
  refine e_next ?_
  refine c_ret ?_
  refine e_front (k := 3) rfl ?_
  refine e_front (k := 3) rfl ?_
  refine e_front (k := 3) rfl ?_
  refine e_ret1 Try.results10 (.tmp rfl .nil) (fun w hm => ⟨?_, hm.kept [box p 2 69 (at_ [.map (some m), .int .i64 (s.2)]), mapA m kI veL (l2), hoard (lisA 73 3) (l2)] (.keep (fun _ _ h => h) (.keep (fun _ _ h => mapA_recast hs2.symm h) (.keep (fun _ _ h => h) (.drop (.nil))))) (feedA 69 73 3 p (sendF (cm, rl, ids) s.1, s.2)) (fun F' h => ⟨(m, l2), (by dsimp only; rw [he]; exact (selF_nil _ _).symm), h⟩)⟩)
  (rw [hcn]; exact congrArg (fun z : Nat => Value.int .i64 (z : Int)) (cntF_nil s.1))
theorem c_ftake1 {F : Nat → Prop} {G : Ghost} (p : Nat) (id : Int) (cap0 : Nat) (lost0 : Int) (x : NE) (t : List NE) (s : FS) (hs0 : lkp s.1 id = some (cap0, lost0, x :: t)) (w : World) (hG : Has G w) (hA : (feedA 69 73 3 p s).holds w F) (hFG : ∀ b, F b → G b = none) :
  Calls Try.prog 11 #[Value.pointer (some ⟨p, 0, none⟩), Value.int .i64 id] w (Ret fun r w' => ∃ v, r = Value.tuple #[.agg #[.bool x.1, .string x.2.1, v], .bool true] ∧ Kept (starL [rowA v 3 1 x.2.2.length (x.2.2.flatMap cI), feedA 69 73 3 p (mput s.1 id (cap0, lost0, t), s.2)]) F w w') := by
 refine enterO (args := [_, _]) (G := G) (A := feedA 69 73 3 p s) (l := [(0, Value.pointer (some ⟨p, 0, none⟩)), (1, Value.int .i64 id)]) Try.func11 rfl Try.ntmps11 hG hA hFG ⟨rfl, rfl, trivial⟩ (Nat.le_of_ble_eq_true rfl) ?_
 refine c_unex (fun z => ?_)
 obtain ⟨m, l⟩ := z
 refine c_unand (fun hc => ?_)
 dsimp only at hc ⊢
 refine c_unpack ?_
 obtain ⟨b, c, vs, hN, hvs⟩ := eraF_some (hc ▸ hs0)
 dsimp only at hN hvs
 obtain ⟨y, ys, rfl⟩ : ∃ y ys, vs = y :: ys := by (cases vs with | nil => cases hvs | cons y ys => exact ⟨y, ys, rfl⟩)
 obtain ⟨hy, hys⟩ := List.cons.inj (show y.2 :: ys.map (·.2) = x :: t from hvs)
 subst hy
 refine c_seq ?_
 refine c_region ?_
 refine r_alloc .none rfl zr36 (IsRow.lit _) (fun b_1 => ?_)
 refine r_val .none rfl (p_assign rfl) ?_
 refine r_nil ?_
 refine e_next ?_
 refine c_seq ?_
 refine c_region ?_
 refine r_val .none rfl (p_move rfl) ?_
 refine r_val .none rfl (p_nilcheck rfl) ?_
 refine r_val .none rfl (p_field Try.underlying69 rfl sz67 rfl) ?_
 refine r_val .none rfl (p_ld (k := 1) Try.underlying67 rfl rfl rfl (by first | exact of_decide_eq_true rfl | omega) (rfl : _ = Value.map _)) ?_
 refine r_val .none rfl (p_move rfl) ?_
 refine r_front (k := 3) rfl ?_
 refine r_lfocus hN ?_
 refine r_val .none rfl (p_lookup_yes (i := 6) Try.underlying67 (KeyT.int Try.underlying3) zr70 rfl rfl rfl hN) ?_
 refine r_val .none rfl (p_assign rfl) ?_
 refine r_nil ?_
 refine e_next ?_
 refine c_seq ?_
 refine c_seq ?_
 refine c_region ?_
 refine r_val .none rfl (p_move rfl) ?_
 refine r_val .none rfl (p_eq_ptr Try.underlying70 (by first | exact .inr rfl | exact .inl rfl) rfl rfl) ?_
 refine r_say (d := 15) (v := Value.bool false) rfl ?_
 refine r_nil ?_
 refine e_next ?_
 refine c_cond_f rfl ?_
 refine c_skip ?_
 refine e_next ?_
 refine c_seq ?_
 refine c_region ?_
 refine r_val .none rfl (p_move rfl) ?_
 refine r_val .none rfl (p_nilcheck rfl) ?_
 refine r_val .none rfl (p_field Try.underlying73 rfl sz71 rfl) ?_
 refine r_val .none rfl (p_ld (k := 0) Try.underlying71 rfl rfl rfl (by first | exact of_decide_eq_true rfl | omega) (rfl : _ = Value.chan _)) ?_
 refine r_nil ?_
 refine e_next ?_
 refine c_seq ?_
 refine c_sel_recv 1 rfl zr36 rfl rfl (fun v_1 t_2 h_3 => ?_) (fun h_3 => ?_)
 ·
  obtain ⟨hq1, hq2⟩ := List.cons.inj (show nvV y :: ys.map nvV = v_1 :: t_2 from h_3)
  subst hq1; subst hq2
  refine r_say (d := 21) (v := Value.tuple #[.int .i64 0, .bool true, .agg #[.bool y.2.1, .string y.2.2.1, y.1]]) rfl ?_
  refine r_front (k := 2) rfl ?_
  refine r_rowshead ?_
  refine r_row1 (k := 0) rfl (fun oy => ?_)
  refine r_val .none rfl (p_extract rfl rfl) ?_
  refine r_val .none rfl (p_eq rfl rfl) ?_
  refine r_say (d := 23) (v := Value.bool true) rfl ?_
  refine r_nil ?_
  refine e_next ?_
  refine c_block ?_
  refine c_cond_t rfl ?_
  refine c_seq ?_
  refine c_region ?_
  refine r_val .none rfl (p_extract rfl rfl) ?_
  refine r_alloc .none rfl zr36 (IsRow.lit _) (fun b_2 => ?_)
  refine r_stw (k := 0) .none sz36 rfl rfl (IsRow.lit _) (one_lit rfl (all_cons rfl (all_cons rfl (all_cons oy rfl)))) rfl ?_
  refine r_nil ?_
  refine e_next ?_
  refine c_seq ?_
  refine c_region ?_
  refine r_val .none rfl (p_ldw (k := 0) Try.underlying36 rfl sz36 rfl rfl (rfl : _ = Value.agg #[_, _, _])) ?_
  refine r_stw (k := 6) .none sz36 rfl rfl (IsRow.lit _) (one_lit rfl (all_cons rfl (all_cons rfl (all_cons oy rfl)))) rfl ?_
  refine r_val .none rfl (p_assign rfl) ?_
  refine r_nil ?_
  refine e_next ?_
  refine c_ret ?_
  refine e_ret_block ?_
  refine e_front (k := 5) rfl ?_
  refine e_front (k := 3) rfl ?_
  refine e_front (k := 5) rfl ?_
  refine e_front (k := 5) rfl ?_
  refine e_lback lost0 ys hN ?_
  refine e_front (k := 5) rfl ?_
  refine e_front (k := 5) rfl ?_
  refine e_front (k := 4) rfl ?_
  refine e_retn Try.results11 (.cell (k := 5) rfl Try.underlying36 rfl sz36 rfl (rfl : _ = Value.agg #[_, _, _]) (.tmp rfl .nil)) rfl (fun w hm => ⟨y.1, ?_, hm.kept [rowA y.1 3 1 y.2.2.2.length (y.2.2.2.flatMap cI), box p 2 69 (at_ [.map (some m), .int .i64 s.2]), mapA m kI veL (mput l id (b, c, cap0, lost0, ys)), hoard (lisA 73 3) (mput l id (b, c, cap0, lost0, ys))] (.keep (fun _ _ h => h) (.keep (fun _ _ h => h) (.keep (fun _ _ h => mapA_retell (v := (b, c, cap0, lost0, ys)) hN rfl h) (.keep (fun _ _ h => h) (.drop (.drop (.nil))))))) (starL [rowA y.1 3 1 y.2.2.2.length (y.2.2.2.flatMap cI), feedA 69 73 3 p (mput s.1 id (cap0, lost0, t), s.2)]) (fun F' h => feed_row (by dsimp only; rw [eraF_mput, hc, ← hys]; rfl) h)⟩)
  rfl
 ·
  cases h_3
theorem c_ftake0 {F : Nat → Prop} {G : Ghost} (p : Nat) (id : Int) (s : FS) (hs0 : ((lkp s.1 id).map fun x => x.2.2).getD [] = []) (w : World) (hG : Has G w) (hA : (feedA 69 73 3 p s).holds w F) (hFG : ∀ b, F b → G b = none) :
  Calls Try.prog 11 #[Value.pointer (some ⟨p, 0, none⟩), Value.int .i64 id] w (Ret fun r w' => r = Value.tuple #[Value.agg #[.bool false, .string ByteArray.empty, .slice none 0 0], .bool false] ∧ Kept (feedA 69 73 3 p s) F w w') := by
 refine enterO (args := [_, _]) (G := G) (A := feedA 69 73 3 p s) (l := [(0, Value.pointer (some ⟨p, 0, none⟩)), (1, Value.int .i64 id)]) Try.func11 rfl Try.ntmps11 hG hA hFG ⟨rfl, rfl, trivial⟩ (Nat.le_of_ble_eq_true rfl) ?_
 refine c_unex (fun z => ?_)
 obtain ⟨m, l⟩ := z
 refine c_unand (fun hc => ?_)
 dsimp only at hc ⊢
 refine c_unpack ?_
 refine c_seq ?_
 refine c_region ?_
 refine r_alloc .none rfl zr36 (IsRow.lit _) (fun b_1 => ?_)
 refine r_val .none rfl (p_assign rfl) ?_
 refine r_nil ?_
 refine e_next ?_
 refine c_seq ?_
 refine c_region ?_
 refine r_val .none rfl (p_move rfl) ?_
 refine r_val .none rfl (p_nilcheck rfl) ?_
 refine r_val .none rfl (p_field Try.underlying69 rfl sz67 rfl) ?_
 refine r_val .none rfl (p_ld (k := 1) Try.underlying67 rfl rfl rfl (by first | exact of_decide_eq_true rfl | omega) (rfl : _ = Value.map _)) ?_
 refine r_val .none rfl (p_move rfl) ?_
 rcases hN : lkp l id with _ | ⟨b, c, cap, lost, its⟩
 ·
  refine r_val .none rfl (p_lookup_no (i := 2) Try.underlying67 (KeyT.int Try.underlying3) zr70 rfl rfl rfl hN) ?_
  refine r_val .none rfl (p_assign rfl) ?_
  refine r_nil ?_
  refine e_next ?_
  refine c_seq ?_
  refine c_seq ?_
  refine c_region ?_
  refine r_val .none rfl (p_move rfl) ?_
  refine r_val .none rfl (p_eq_ptr Try.underlying70 (by first | exact .inr rfl | exact .inl rfl) rfl rfl) ?_
  refine r_say (d := 15) (v := Value.bool true) rfl ?_
  refine r_nil ?_
  refine e_next ?_
  refine c_cond_t rfl ?_
  refine c_seq ?_
  refine c_region ?_
  refine r_val .none rfl (p_build (vs := []) rfl (bl36_ )) ?_
  refine r_stw (k := 0) .none sz36 rfl rfl (IsRow.lit _) (one_lit rfl rfl) rfl ?_
  refine r_val .none rfl (p_assign rfl) ?_
  refine r_nil ?_
  refine e_next ?_
  refine c_ret ?_
  refine e_ret_then ?_
  refine e_retn Try.results11 (.cell (k := 0) rfl Try.underlying36 rfl sz36 rfl (rfl : _ = Value.agg #[_, _, _]) (.tmp rfl .nil)) rfl (fun w hm => ⟨?_, hm.kept [box p 2 69 (at_ [.map (some m), .int .i64 (s.2)]), mapA m kI veL (l), hoard (lisA 73 3) (l)] (.drop (.keep (fun _ _ h => h) (.keep (fun _ _ h => h) (.keep (fun _ _ h => h) (.nil))))) (feedA 69 73 3 p (s)) (fun F' h => ⟨(m, l), hc, h⟩)⟩)
  rfl
 ·
  have hit : its = [] := by (rw [hc, eraF_lkp, hN] at hs0; simpa [eraL] using hs0)
  subst hit
  refine r_front (k := 3) rfl ?_
  refine r_lfocus hN ?_
  refine r_val .none rfl (p_lookup_yes (i := 6) Try.underlying67 (KeyT.int Try.underlying3) zr70 rfl rfl rfl hN) ?_
  refine r_val .none rfl (p_assign rfl) ?_
  refine r_nil ?_
  refine e_next ?_
  refine c_seq ?_
  refine c_seq ?_
  refine c_region ?_
  refine r_val .none rfl (p_move rfl) ?_
  refine r_val .none rfl (p_eq_ptr Try.underlying70 (by first | exact .inr rfl | exact .inl rfl) rfl rfl) ?_
  refine r_say (d := 15) (v := Value.bool false) rfl ?_
  refine r_nil ?_
  refine e_next ?_
  refine c_cond_f rfl ?_
  refine c_skip ?_
  refine e_next ?_
  refine c_seq ?_
  refine c_region ?_
  refine r_val .none rfl (p_move rfl) ?_
  refine r_val .none rfl (p_nilcheck rfl) ?_
  refine r_val .none rfl (p_field Try.underlying73 rfl sz71 rfl) ?_
  refine r_val .none rfl (p_ld (k := 0) Try.underlying71 rfl rfl rfl (by first | exact of_decide_eq_true rfl | omega) (rfl : _ = Value.chan _)) ?_
  refine r_nil ?_
  refine e_next ?_
  refine c_seq ?_
  refine c_sel_recv 1 rfl zr36 rfl rfl (fun v_1 t_2 h_3 => ?_) (fun h_3 => ?_)
  ·
   cases h_3
  ·
   refine r_val .none rfl (p_extract rfl rfl) ?_
   refine r_val .none rfl (p_eq rfl rfl) ?_
   refine r_say (d := 23) (v := Value.bool false) rfl ?_
   refine r_nil ?_
   refine e_next ?_
   refine c_block ?_
   refine c_cond_f rfl ?_
   refine c_seq ?_
   refine c_region ?_
   refine r_val .none rfl (p_build (vs := []) rfl (bl36_ )) ?_
   refine r_stw (k := 4) .none sz36 rfl rfl (IsRow.lit _) (one_lit rfl rfl) rfl ?_
   refine r_val .none rfl (p_assign rfl) ?_
   refine r_nil ?_
   refine e_next ?_
   refine c_ret ?_
   refine e_ret_block ?_
   refine e_front (k := 3) rfl ?_
   refine e_front (k := 3) rfl ?_
   refine e_front (k := 3) rfl ?_
   refine e_front (k := 3) rfl ?_
   refine e_lback (lost) ([]) hN ?_
   rw [mput_same hN]
   refine e_front (k := 3) rfl ?_
   refine e_front (k := 3) rfl ?_
   refine e_retn Try.results11 (.cell (k := 3) rfl Try.underlying36 rfl sz36 rfl (rfl : _ = Value.agg #[_, _, _]) (.tmp rfl .nil)) rfl (fun w hm => ⟨?_, hm.kept [box p 2 69 (at_ [.map (some m), .int .i64 (s.2)]), mapA m kI veL (l), hoard (lisA 73 3) (l)] (.keep (fun _ _ h => h) (.keep (fun _ _ h => h) (.keep (fun _ _ h => h) (.drop (.nil))))) (feedA 69 73 3 p (s)) (fun F' h => ⟨(m, l), hc, h⟩)⟩)
   rfl
end Go.Proofs.Ytplefabpplfjbaa

/- The laws of news, in plain words: who takes at once, and who takes nothing till all is sent. -/
namespace Go.Gx.T21
open Go.Gx
theorem lb_of {l : List (Int × LS)} (h : ∀ p ∈ l, 0 ≤ p.2.2.1 ∧ p.2.2.1 ≤ 1000000) : ∀ id x, lkp l id = some x → 0 ≤ x.2.1 ∧ x.2.1 ≤ 1000000 := fun id x e => h (id, x) (lkp_some e)
theorem le_of {l : List (Int × LS)} {n : Int} (h : ∀ p ∈ l, p.1 ≤ n) : ∀ id x, lkp l id = some x → id ≤ n := fun id x e => h (id, x) (lkp_some e)
theorem box_rowA {b n m sz : Nat} {E : TypeId} {f : Nat → Value} (hm : m = n * sz) (hn : n ≤ 1000) {w : World} {F : Nat → Prop} (h : (box b m E f).holds w F) : (rowA (.slice (some ⟨b, 0, none⟩) n n) E sz n (row f 0 (n * sz))).holds w F := by
  obtain ⟨⟨c, h1, h2⟩, hF⟩ := h
  subst hm
  refine ⟨⟨row_length _ _ _, .inr ⟨b, n, c, rfl, Nat.zero_le _, h1, Nat.le_refl _, by simp only [maxLen]; omega, h2.size, ?_⟩⟩, fun k => ⟨fun h => by rw [(hF k).1 h]; rfl, fun h => by simp [Value.ownBlock] at h; exact (hF k).2 h.symm⟩, by simp only [maxLen]; omega⟩
  have e := h2.eq
  rw [e]
  simp [List.take_of_length_le, row_length]
def R21 : ByteArray := ⟨#[114]⟩
def nOf (i : Nat) : NE := (false, R21, [(i : Int) + 1])
def nlF (m : Nat) : List NE := (List.range m).map nOf
/-- Both listeners, the one that takes nothing and the other one. -/
def two (k : Nat) (lost : Int) (its f : List NE) : FS := ([(1, (k, lost, its)), (2, (1, 0, f))], 2)
def sO (k i : Nat) : FS := two k ((i - k : Nat) : Int) (nlF (min i k)) []
def aw21 : FS := openS ([], 0) 1
def aw22 : FS := (sendF (true, R21, []) aw21.1, aw21.2)
def aw23 : FS := (sendF (false, R21, []) aw22.1, aw22.2)
end Go.Gx.T21

/- Walks: what Go functions of this chapter come to, each as a function on plain data; no condition but those that each theorem names. Printed by a program of this work (gen.py). -/
namespace Go.Proofs.Ytplefabpplfjbaa
open Go.Gx Go.Gx.T21 Go.Gx.T6 Go.Gx.T4
theorem cl6 : Callable Try.prog 6 := callable Try.func6 (by kernel_rfl) rfl
theorem cl7 : Callable Try.prog 7 := callable Try.func7 (by kernel_rfl) rfl
theorem cl9 : Callable Try.prog 9 := callable Try.func9 (by kernel_rfl) rfl
theorem cl10 : Callable Try.prog 10 := callable Try.func10 (by kernel_rfl) rfl
theorem cl11 : Callable Try.prog 11 := callable Try.func11 (by kernel_rfl) rfl
theorem cl13 : Callable Try.prog 13 := callable Try.func13 (by kernel_rfl) rfl
theorem cl14 : Callable Try.prog 14 := callable Try.func14 (by kernel_rfl) rfl
theorem bl24_0s1 (x0 : ByteArray) : Program.built Try.prog 24 [(0, Value.string x0)] = some #[Value.string x0, Value.slice none 0 0] := by
 kernel_rfl
theorem bl36_1a2 (x0 : Value) (x1 : Value) : Program.built Try.prog 36 [(1, Value.agg #[x0, x1])] = some #[Value.bool false, x0, x1] := by
 kernel_rfl
theorem c_awake21   (w : World)  :
  Calls Try.prog 7 #[] w (Ret fun r w' => r = Value.bool true ∧ Since nX w w') := by
 refine enter (args := []) (X := nX) (G := (fun _ => none)) (l := []) Try.func7 rfl Try.ntmps7 (fun _ _ h => by cases h) trivial (Nat.le_of_ble_eq_true rfl) ?_
 refine c_seq ?_
 refine c_region ?_
 refine r_val .none rfl (p_assign rfl) ?_
 refine r_nil ?_
 refine e_next ?_
 refine c_seq ?_
 refine c_region ?_
 refine r_callnew (vs := []) .none rfl cl6 rfl (fun w hw => c_fnew w hw) (fun p_1 => ?_)
 refine r_val .none rfl (p_assign rfl) ?_
 refine r_nil ?_
 refine e_next ?_
 refine c_seq ?_
 refine c_seq ?_
 refine c_region ?_
 refine r_val .none rfl (p_move rfl) ?_
 refine r_val .none rfl (p_eq_ptr Try.underlying25 (by first | exact .inr rfl | exact .inl rfl) rfl rfl) ?_
 refine r_say (d := 8) (v := Value.bool false) rfl ?_
 refine r_nil ?_
 refine e_next ?_
 refine c_cond_f rfl ?_
 refine c_skip ?_
 refine e_next ?_
 refine c_seq ?_
 refine c_region ?_
 refine r_val .none rfl (p_move rfl) ?_
 refine r_callo (k := 0) (vs := [_, _]) .none rfl cl9 rfl rfl (fun w F hw hA hFG => c_fopen _ 1 ([], 0) (le_of (by decide)) (by decide) w hw hA hFG) ?_
 refine r_say (d := 11) (v := Value.tuple #[Value.int .i64 1, Value.int .i64 0]) rfl ?_
 refine r_val .none rfl (p_move rfl) ?_
 refine r_val .none rfl (p_extract rfl rfl) ?_
 refine r_val .none rfl (p_extract rfl rfl) ?_
 refine r_val .none rfl (p_assign rfl) ?_
 refine r_val .none rfl (p_assign rfl) ?_
 refine r_nil ?_
 refine e_next ?_
 refine c_seq ?_
 refine c_region ?_
 refine r_val .none rfl (p_move rfl) ?_
 refine r_val .none rfl (p_build (vs := [(0, Value.string _)]) rfl (bl24_0s1 _)) ?_
 refine r_val .none rfl (p_build (vs := [(0, Value.bool _), (1, Value.agg #[_, _])]) rfl (bl36_0b1_1a2 _ _ _)) ?_
 refine r_callo (k := 0) (vs := [_, _]) .none rfl cl10 rfl rfl (fun w F hw hA hFG => c_fsend _ true R21 _ [] aw21 (SlG.nil _ _ _) (by decide) (by decide) (by decide) (lb_of (by decide)) w hw hA hFG) ?_
 refine r_say (d := 17) (v := Value.int .i64 1) rfl ?_
 refine r_val .none rfl (p_move rfl) ?_
 refine r_val .none rfl (p_build (vs := [(0, Value.string _)]) rfl (bl24_0s1 _)) ?_
 refine r_val .none rfl (p_build (vs := [(1, Value.agg #[_, _])]) rfl (bl36_1a2 _ _)) ?_
 refine r_callo (k := 0) (vs := [_, _]) .none rfl cl10 rfl rfl (fun w F hw hA hFG => c_fsend _ false R21 _ [] aw22 (SlG.nil _ _ _) (by decide) (by decide) (by decide) (lb_of (by decide)) w hw hA hFG) ?_
 refine r_say (d := 21) (v := Value.int .i64 0) rfl ?_
 refine r_val .none rfl (p_assign rfl) ?_
 refine r_val .none rfl (p_assign rfl) ?_
 refine r_nil ?_
 refine e_next ?_
 refine c_seq ?_
 refine c_region ?_
 refine r_val .none rfl (p_move rfl) ?_
 refine r_val .none rfl (p_eq rfl rfl) ?_
 refine r_say (d := 23) (v := Value.bool true) rfl ?_
 refine r_val .none rfl (p_move rfl) ?_
 refine r_val (.some rfl rfl) rfl (p_move rfl) ?_
 refine r_val (.some rfl rfl) rfl (p_eq rfl rfl) ?_
 refine r_say (d := 26) (v := Value.bool true) rfl ?_
 refine r_val .none rfl (p_pick_t rfl rfl) ?_
 refine r_val .none rfl (p_move rfl) ?_
 refine r_val (.some rfl rfl) rfl (p_move rfl) ?_
 refine r_val (.some rfl rfl) rfl (p_eq rfl rfl) ?_
 refine r_say (d := 30) (v := Value.bool true) rfl ?_
 refine r_val .none rfl (p_pick_t rfl rfl) ?_
 refine r_val .none rfl (p_move rfl) ?_
 refine r_val (.some rfl rfl) rfl (p_move rfl) ?_
 refine r_val (.some rfl rfl) rfl (p_eq rfl rfl) ?_
 refine r_say (d := 34) (v := Value.bool true) rfl ?_
 refine r_val .none rfl (p_pick_t rfl rfl) ?_
 refine r_val .none rfl (p_move rfl) ?_
 refine r_val (.some rfl rfl) rfl (p_move rfl) ?_
 refine r_callo (k := 0) (vs := [_, _]) (.some rfl rfl) rfl cl13 rfl rfl (fun w F hw hA hFG => c_fwaits _ 1 aw23 w hw hA hFG) ?_
 refine r_say (d := 38) (v := Value.int .i64 1) rfl ?_
 refine r_val (.some rfl rfl) rfl (p_eq rfl rfl) ?_
 refine r_say (d := 39) (v := Value.bool true) rfl ?_
 refine r_val .none rfl (p_pick_t rfl rfl) ?_
 refine r_val .none rfl (p_move rfl) ?_
 refine r_val (.some rfl rfl) rfl (p_move rfl) ?_
 refine r_callo (k := 0) (vs := [_, _]) (.some rfl rfl) rfl cl14 rfl rfl (fun w F hw hA hFG => c_flost _ 1 aw23 w hw hA hFG) ?_
 refine r_say (d := 43) (v := Value.int .i64 1) rfl ?_
 refine r_val (.some rfl rfl) rfl (p_eq rfl rfl) ?_
 refine r_say (d := 44) (v := Value.bool true) rfl ?_
 refine r_val .none rfl (p_pick_t rfl rfl) ?_
 refine r_val .none rfl (p_assign rfl) ?_
 refine r_nil ?_
 refine e_next ?_
 refine c_ret ?_
 refine e_ret1 Try.results7 (.tmp rfl .nil) (fun w hm => ⟨?_, hm.since⟩)
 rfl
end Go.Proofs.Ytplefabpplfjbaa

/- Plain laws: matches: a rule's name and ids; when one is less than another one. No program in sight. -/
namespace Go.Gx.T20
open Go.Gx
abbrev MM := ByteArray × List Int
def m0 : MM × Value := ((ByteArray.empty, []), .slice none 0 0)
def mC (p : MM × Value) : List Value := [.string p.1.1, p.2]
/-- The value v is a slice of matches. -/
def Mt (G : Ghost) (v : Value) (l : List MM) : Prop := ∃ rs : List (MM × Value), SlL G v 2 mC m0 rs ∧ (∀ p ∈ rs, SlL G p.2 1 cI (0 : Int) p.1.2) ∧ l = rs.map Prod.fst
theorem Mt.mono {G G' : Ghost} {v : Value} {l : List MM} (h : Mt G v l) (hle : GLe G G') : Mt G' v l := by
  obtain ⟨rs, h1, h2, h3⟩ := h
  exact ⟨rs, h1.mono hle, fun p hp => (h2 p hp).mono hle, h3⟩
theorem Mt.mk {G : Ghost} {v : Value} (rs : List (MM × Value)) (h : SlL G v 2 mC m0 rs) (k : ∀ p ∈ rs, SlL G p.2 1 cI (0 : Int) p.1.2) : Mt G v (rs.map Prod.fst) := ⟨rs, h, k, rfl⟩
theorem Mt.one {G : Ghost} {v vi : Value} {r : ByteArray} {ids : List Int} (h : SlG G v 1 2 (fun _ => at_ [.string r, vi])) (k : SlL G vi 1 cI (0 : Int) ids) : Mt G v [(r, ids)] :=
  ⟨[((r, ids), vi)], h.congr (fun i hi j _ => by obtain rfl : i = 0 := (by omega); rfl), fun p hp => by rw [List.mem_singleton.1 hp]; exact k, rfl⟩
theorem Mt.one_inv {G : Ghost} {v : Value} {x : MM} (h : Mt G v [x]) : ∃ vx, SlL G v 2 mC m0 [(x, vx)] ∧ SlL G vx 1 cI (0 : Int) x.2 := by
  obtain ⟨rs, h1, h2, h3⟩ := h
  match rs, h3 with
  | [q], h3 =>
    simp only [List.map_cons, List.map_nil, List.cons.injEq, and_true] at h3
    subst h3
    exact ⟨q.2, h1, h2 q (by simp)⟩
def lessI : List Int → List Int → Bool
  | [], b => decide (0 < b.length)
  | _ :: _, [] => false
  | x :: a, y :: b => if x = y then lessI a b else decide (x < y)
def lessM (a b : MM) : Bool := if a.1 = b.1 then lessI a.2 b.2 else bLt a.1 b.1
def oneM (a b : MM) : Bool := (!lessM a b) && (!lessM b a)
theorem lessI_irr (a : List Int) : lessI a a = false := by
  induction a with
  | nil => rfl
  | cons x a ih => rw [lessI, if_pos rfl, ih]
theorem oneM_refl (a : MM) : oneM a a = true := by
  rw [oneM, lessM, if_pos rfl, lessI_irr]; rfl
theorem lessI_eq {A B : List Int} {i : Nat} (h1 : i < A.length) (h2 : i < B.length) (h : A.getD i 0 = B.getD i 0) : lessI (A.drop i) (B.drop i) = lessI (A.drop (i + 1)) (B.drop (i + 1)) := by
  rw [List.drop_eq_getElem_cons h1, List.drop_eq_getElem_cons h2, lessI, if_pos]
  simpa [List.getD, List.getElem?_eq_getElem h1, List.getElem?_eq_getElem h2] using h
theorem lessI_ne {A B : List Int} {i : Nat} (h1 : i < A.length) (h2 : i < B.length) (h : ¬ A.getD i 0 = B.getD i 0) : lessI (A.drop i) (B.drop i) = decide (A.getD i 0 < B.getD i 0) := by
  rw [List.drop_eq_getElem_cons h1, List.drop_eq_getElem_cons h2, lessI, if_neg]
  · simp [List.getD, List.getElem?_eq_getElem h1, List.getElem?_eq_getElem h2]
  · simpa [List.getD, List.getElem?_eq_getElem h1, List.getElem?_eq_getElem h2] using h
theorem lessI_end {A B : List Int} {i : Nat} (h1 : i ≤ A.length) (h2 : i ≤ B.length) (h : ¬ (i < A.length ∧ i < B.length)) : lessI (A.drop i) (B.drop i) = decide ((A.length : Int) < (B.length : Int)) := by
  by_cases ha : i < A.length
  · have hb : i = B.length := by omega
    rw [List.drop_eq_nil_of_le (show B.length ≤ i by omega), List.drop_eq_getElem_cons ha, lessI]
    exact (decide_eq_false (by omega)).symm
  · have e : i = A.length := by omega
    rw [List.drop_eq_nil_of_le (show A.length ≤ i by omega), lessI, List.length_drop]
    by_cases h3 : A.length < B.length
    · rw [decide_eq_true (by omega), decide_eq_true (by omega)]
    · rw [decide_eq_false (by omega), decide_eq_false (by omega)]
def sameM : List MM → List MM → Bool
  | [], [] => true
  | a :: l, b :: m => oneM a b && sameM l m
  | _, _ => false
def O2 : T21.FS := ([(1, (2, 0, [])), (2, (2, 0, []))], 2)
def S2 (r : ByteArray) (l : List Int) : T21.FS := ([(1, (2, 0, [(true, r, l)])), (2, (2, 0, [(true, r, l)]))], 2)
def S3 (r : ByteArray) (l : List Int) : T21.FS := ([(1, (2, 0, [])), (2, (2, 0, [(true, r, l)]))], 2)
end Go.Gx.T20

/- Walks: what Go functions of this chapter come to, each as a function on plain data; no condition but those that each theorem names. Printed by a program of this work (gen.py). -/
namespace Go.Proofs.Ytplefabpplfjbaa
open Go.Gx Go.Gx.T20 Go.Gx.T21 Go.Gx.T6 Go.Gx.T4 Go.Gx.T21 Go.Gx.T6 Go.Gx.T4
theorem sz58 : SzIs Try.prog 58 2 := by
 unfold SzIs
 kernel_rfl
theorem cl26 : Callable Try.prog 26 := callable Try.func26 (by kernel_rfl) rfl
theorem c_less20 (ra rb : ByteArray) (va vb : Value) (A B : List Int) {G : Ghost} (ha : SlL G va 1 cI (0 : Int) A) (hb : SlL G vb 1 cI (0 : Int) B) (w : World) (hG : Has G w) :
  Calls Try.prog 26 #[Value.agg #[.string ra, va], Value.agg #[.string rb, vb]] w (Ret fun r w' => r = Value.bool (lessM (ra, A) (rb, B)) ∧ Since nX w w') := by
 refine enter (args := [_, _]) (X := nX) (G := G) (l := [(0, Value.agg #[.string ra, va]), (1, Value.agg #[.string rb, vb])]) Try.func26 rfl Try.ntmps26 hG ⟨rfl, rfl, trivial⟩ (Nat.le_of_ble_eq_true rfl) ?_
 have hba := ha.bound
 have hbb := hb.bound
 refine c_seq ?_
 refine c_region ?_
 refine r_box .none rfl rfl (IsRow.lit _) (fun b_1 => ?_)
 refine r_box .none rfl rfl (IsRow.lit _) (fun b_2 => ?_)
 refine r_val .none rfl (p_assign rfl) ?_
 refine r_nil ?_
 refine e_next ?_
 refine c_seq ?_
 refine c_seq ?_
 refine c_region ?_
 refine r_val .none rfl (p_field Try.underlying58 rfl sz9 rfl) ?_
 refine r_val .none rfl (p_ld (k := 1) Try.underlying9 rfl rfl rfl (by first | exact of_decide_eq_true rfl | omega) (rfl : _ = Value.string _)) ?_
 refine r_val .none rfl (p_field Try.underlying58 rfl sz9 rfl) ?_
 refine r_val .none rfl (p_ld (k := 0) Try.underlying9 rfl rfl rfl (by first | exact of_decide_eq_true rfl | omega) (rfl : _ = Value.string _)) ?_
 refine r_val .none rfl (p_nes rfl rfl) ?_
 refine r_nil ?_
 refine e_next ?_
 refine c_splitn (d := 10) rfl (fun h_1 => ?_) (fun h_1 => ?_)
 ·
  have hR : ¬ ra = rb := of_decide_eq_false h_1
  first
   | (exfalso; omega)
   | (
    refine c_cond_t rfl ?_
    refine c_seq ?_
    refine c_region ?_
    refine r_val .none rfl (p_field Try.underlying58 rfl sz9 rfl) ?_
    refine r_val .none rfl (p_ld (k := 1) Try.underlying9 rfl rfl rfl (by first | exact of_decide_eq_true rfl | omega) (rfl : _ = Value.string _)) ?_
    refine r_val .none rfl (p_field Try.underlying58 rfl sz9 rfl) ?_
    refine r_val .none rfl (p_ld (k := 0) Try.underlying9 rfl rfl rfl (by first | exact of_decide_eq_true rfl | omega) (rfl : _ = Value.string _)) ?_
    refine r_val .none rfl (p_lts rfl rfl) ?_
    refine r_val .none rfl (p_assign rfl) ?_
    refine r_nil ?_
    refine e_next ?_
    refine c_ret ?_
    refine e_ret_then ?_
    refine e_ret1 Try.results26 (.tmp rfl .nil) (fun w hm => ⟨?_, hm.since⟩)
    first
    | (rw [lessM, if_neg hR]; done)
    | (rw [lessM, if_pos hR]; exact congrArg Value.bool ((lessI_ne (by omega) (by omega) hE).symm.trans hphi.2.2.symm))
    | (rw [lessM, if_pos hR]; exact congrArg Value.bool ((lessI_end hphi.1 hphi.2.1 (by omega)).symm.trans hphi.2.2.symm))
    )
 ·
  have hR : ra = rb := of_decide_eq_true h_1
  first
   | (exfalso; omega)
   | (
    refine c_cond_f rfl ?_
    refine c_skip ?_
    refine e_next ?_
    refine c_seq ?_
    refine c_seq ?_
    refine c_region ?_
    refine r_val .none rfl (p_assign rfl) ?_
    refine r_nil ?_
    refine e_next ?_
    refine c_block ?_
    refine c_name (d := 2) rfl (fun u_2 hu_2 => ?_)
    refine c_name (d := 3) rfl (fun u_3 hu_3 => ?_)
    refine c_nameL (k := 0) rfl (fun A_4 hA_4 => ?_)
    refine c_nameL (k := 1) rfl (fun A_5 hA_5 => ?_)
    refine c_loop (σ := Nat) (fun i => [(5, Value.int .i64 (i : Nat)), (2, u_2), (3, u_3)]) (fun i => [A_4, A_5]) (fun _ => _) (fun i => i ≤ A.length ∧ i ≤ B.length ∧ lessI A B = lessI (A.drop i) (B.drop i)) (fun i => A.length - i) (0) ⟨Nat.zero_le _, Nat.zero_le _, rfl⟩ rfl ⟨rfl, rfl, rfl, trivial⟩ (.keep (fun _ _ h => h) (.keep (fun _ _ h => h) (.nil))) (fun i hphi => ?_)
    subst hu_2
    subst hu_3
    subst hA_4
    subst hA_5
    refine c_seq ?_
    refine c_seq ?_
    refine c_region ?_
    refine r_val .none rfl (p_move rfl) ?_
    refine r_val .none rfl (p_field Try.underlying58 rfl sz22 rfl) ?_
    refine r_val .none rfl (p_ld (k := 1) Try.underlying22 rfl rfl rfl (by first | exact of_decide_eq_true rfl | omega) rfl) ?_
    refine r_val .none rfl (p_leng Try.underlying22 rfl ha) ?_
    have bd_6 := (ha).bound
    refine r_val .none rfl (p_lt rfl rfl) ?_
    refine r_val .none rfl (p_move rfl) ?_
    refine r_splitd (d := 21) rfl (fun h_7 => ?_) (fun h_7 => ?_)
    ·
     first
      | (exfalso; omega)
      | (
       refine r_val (.some rfl rfl) rfl (p_move rfl) ?_
       refine r_val (.some rfl rfl) rfl (p_field Try.underlying58 rfl sz22 rfl) ?_
       refine r_val (.some rfl rfl) rfl (p_ld (k := 0) Try.underlying22 rfl rfl rfl (by first | exact of_decide_eq_true rfl | omega) rfl) ?_
       refine r_val (.some rfl rfl) rfl (p_leng Try.underlying22 rfl hb) ?_
       have bd_8 := (hb).bound
       refine r_val (.some rfl rfl) rfl (p_lt rfl rfl) ?_
       refine r_val .none rfl (p_pick_t rfl rfl) ?_
       refine r_nil ?_
       refine e_next ?_
       refine c_splitd (d := 27) rfl (fun h_9 => ?_) (fun h_9 => ?_)
       ·
        first
         | (exfalso; omega)
         | (
          refine c_cond_t rfl ?_
          refine c_skip ?_
          refine e_next ?_
          refine c_seq ?_
          refine c_block ?_
          refine c_seq ?_
          refine c_region_q mixed (by kernel_rfl) ?_
          refine q_val .none rfl (p_field Try.underlying58 rfl sz22 rfl) ?_
          refine q_val .none rfl (p_ld (k := 1) Try.underlying22 rfl rfl rfl (by first | exact of_decide_eq_true rfl | omega) rfl) ?_
          refine q_val .none rfl (p_move rfl) ?_
          refine q_iaddr_g .none rfl Try.underlying22 sz3 rfl ha rfl (by first | exact of_decide_eq_true rfl | omega) (fun p_11 o_12 R_10 => ?_)
          refine q_val .none rfl (p_ldg0 Try.underlying3 rfl rfl R_10 (by first | exact of_decide_eq_true rfl | omega) (rfl : _ = Value.int _ _)) ?_
          refine q_val .none rfl (p_field Try.underlying58 rfl sz22 rfl) ?_
          refine q_val .none rfl (p_ld (k := 0) Try.underlying22 rfl rfl rfl (by first | exact of_decide_eq_true rfl | omega) rfl) ?_
          refine q_val .none rfl (p_move rfl) ?_
          refine q_iaddr_g .none rfl Try.underlying22 sz3 rfl hb rfl (by first | exact of_decide_eq_true rfl | omega) (fun p_14 o_15 R_13 => ?_)
          refine q_val .none rfl (p_ldg0 Try.underlying3 rfl rfl R_13 (by first | exact of_decide_eq_true rfl | omega) (rfl : _ = Value.int _ _)) ?_
          refine q_val .none rfl (p_ne rfl rfl) ?_
          refine q_nil ?_
          refine e_next ?_
          refine c_splitd (d := 40) rfl (fun h_16 => ?_) (fun h_16 => ?_)
          ·
           have hE := h_16
           first
            | (exfalso; omega)
            | (
             refine c_cond_t rfl ?_
             refine c_seq ?_
             refine c_region_q mixed (by kernel_rfl) ?_
             refine q_val .none rfl (p_field Try.underlying58 rfl sz22 rfl) ?_
             refine q_val .none rfl (p_ld (k := 1) Try.underlying22 rfl rfl rfl (by first | exact of_decide_eq_true rfl | omega) rfl) ?_
             refine q_val .none rfl (p_move rfl) ?_
             refine q_iaddr_g .none rfl Try.underlying22 sz3 rfl ha rfl (by first | exact of_decide_eq_true rfl | omega) (fun p_18 o_19 R_17 => ?_)
             refine q_val .none rfl (p_ldg0 Try.underlying3 rfl rfl R_17 (by first | exact of_decide_eq_true rfl | omega) (rfl : _ = Value.int _ _)) ?_
             refine q_val .none rfl (p_field Try.underlying58 rfl sz22 rfl) ?_
             refine q_val .none rfl (p_ld (k := 0) Try.underlying22 rfl rfl rfl (by first | exact of_decide_eq_true rfl | omega) rfl) ?_
             refine q_val .none rfl (p_move rfl) ?_
             refine q_iaddr_g .none rfl Try.underlying22 sz3 rfl hb rfl (by first | exact of_decide_eq_true rfl | omega) (fun p_21 o_22 R_20 => ?_)
             refine q_val .none rfl (p_ldg0 Try.underlying3 rfl rfl R_20 (by first | exact of_decide_eq_true rfl | omega) (rfl : _ = Value.int _ _)) ?_
             refine q_val .none rfl (p_lt rfl rfl) ?_
             refine q_val .none rfl (p_assign rfl) ?_
             refine q_nil ?_
             refine e_next ?_
             refine c_ret ?_
             refine e_ret_block ?_
             refine e_ret_then ?_
             refine e_ret_then ?_
             refine e_ret_block ?_
             refine e_ret_then ?_
             refine e_ret1 Try.results26 (.tmp rfl .nil) (fun w hm => ⟨?_, hm.since⟩)
             first
             | (rw [lessM, if_neg hR]; done)
             | (rw [lessM, if_pos hR]; exact congrArg Value.bool ((lessI_ne (by omega) (by omega) hE).symm.trans hphi.2.2.symm))
             | (rw [lessM, if_pos hR]; exact congrArg Value.bool ((lessI_end hphi.1 hphi.2.1 (by omega)).symm.trans hphi.2.2.symm))
             )
          ·
           have hE := Decidable.not_not.1 h_16
           first
            | (exfalso; omega)
            | (
             refine c_cond_f rfl ?_
             refine c_skip ?_
             refine e_norm_block ?_
             refine e_next ?_
             refine c_region ?_
             refine r_val .none rfl (p_move rfl) ?_
             refine r_val .none rfl (p_add rfl rfl (by omega)) ?_
             refine r_val .none rfl (p_assign rfl) ?_
             refine r_nil ?_
             refine e_round (i + 1) ⟨⟨by omega, by omega, hphi.2.2.trans (lessI_eq (by omega) (by omega) hE)⟩, by omega⟩ rfl ⟨rfl, rfl, rfl, trivial⟩ (.keep (fun _ _ h => h) (.keep (fun _ _ h => h) (.nil)))
             )
          )
       ·
        first
         | (exfalso; omega)
         | (
          refine c_cond_f rfl ?_
          refine c_exit ?_
          refine e_exit_then ?_
          refine e_exit_then ?_
          refine e_exit_block ?_
          refine e_next ?_
          refine c_seq ?_
          refine c_region ?_
          refine r_val .none rfl (p_field Try.underlying58 rfl sz22 rfl) ?_
          refine r_val .none rfl (p_ld (k := 1) Try.underlying22 rfl rfl rfl (by first | exact of_decide_eq_true rfl | omega) rfl) ?_
          refine r_val .none rfl (p_leng Try.underlying22 rfl ha) ?_
          have bd_23 := (ha).bound
          refine r_val .none rfl (p_field Try.underlying58 rfl sz22 rfl) ?_
          refine r_val .none rfl (p_ld (k := 0) Try.underlying22 rfl rfl rfl (by first | exact of_decide_eq_true rfl | omega) rfl) ?_
          refine r_val .none rfl (p_leng Try.underlying22 rfl hb) ?_
          have bd_24 := (hb).bound
          refine r_val .none rfl (p_lt rfl rfl) ?_
          refine r_val .none rfl (p_assign rfl) ?_
          refine r_nil ?_
          refine e_next ?_
          refine c_ret ?_
          refine e_ret1 Try.results26 (.tmp rfl .nil) (fun w hm => ⟨?_, hm.since⟩)
          first
          | (rw [lessM, if_neg hR]; done)
          | (rw [lessM, if_pos hR]; exact congrArg Value.bool ((lessI_ne (by omega) (by omega) hE).symm.trans hphi.2.2.symm))
          | (rw [lessM, if_pos hR]; exact congrArg Value.bool ((lessI_end hphi.1 hphi.2.1 (by omega)).symm.trans hphi.2.2.symm))
          )
       )
    ·
     first
      | (exfalso; omega)
      | (
       refine r_skip rfl (.no rfl rfl) ?_
       refine r_skip rfl (.no rfl rfl) ?_
       refine r_skip rfl (.no rfl rfl) ?_
       refine r_skip rfl (.no rfl rfl) ?_
       refine r_skip rfl (.no rfl rfl) ?_
       refine r_val .none rfl (p_pick_f rfl rfl) ?_
       refine r_nil ?_
       refine e_next ?_
       refine c_cond_f rfl ?_
       refine c_exit ?_
       refine e_exit_then ?_
       refine e_exit_then ?_
       refine e_exit_block ?_
       refine e_next ?_
       refine c_seq ?_
       refine c_region ?_
       refine r_val .none rfl (p_field Try.underlying58 rfl sz22 rfl) ?_
       refine r_val .none rfl (p_ld (k := 1) Try.underlying22 rfl rfl rfl (by first | exact of_decide_eq_true rfl | omega) rfl) ?_
       refine r_val .none rfl (p_leng Try.underlying22 rfl ha) ?_
       have bd_25 := (ha).bound
       refine r_val .none rfl (p_field Try.underlying58 rfl sz22 rfl) ?_
       refine r_val .none rfl (p_ld (k := 0) Try.underlying22 rfl rfl rfl (by first | exact of_decide_eq_true rfl | omega) rfl) ?_
       refine r_val .none rfl (p_leng Try.underlying22 rfl hb) ?_
       have bd_26 := (hb).bound
       refine r_val .none rfl (p_lt rfl rfl) ?_
       refine r_val .none rfl (p_assign rfl) ?_
       refine r_nil ?_
       refine e_next ?_
       refine c_ret ?_
       refine e_ret1 Try.results26 (.tmp rfl .nil) (fun w hm => ⟨?_, hm.since⟩)
       first
       | (rw [lessM, if_neg hR]; done)
       | (rw [lessM, if_pos hR]; exact congrArg Value.bool ((lessI_ne (by omega) (by omega) hE).symm.trans hphi.2.2.symm))
       | (rw [lessM, if_pos hR]; exact congrArg Value.bool ((lessI_end hphi.1 hphi.2.1 (by omega)).symm.trans hphi.2.2.symm))
       )
    )
theorem c_one20 (ra rb : ByteArray) (va vb : Value) (A B : List Int) {G : Ghost} (ha : SlL G va 1 cI (0 : Int) A) (hb : SlL G vb 1 cI (0 : Int) B) (w : World) (hG : Has G w) :
  Calls Try.prog 21 #[Value.agg #[.string ra, va], Value.agg #[.string rb, vb]] w (Ret fun r w' => r = Value.bool (oneM (ra, A) (rb, B)) ∧ Since nX w w') := by
 refine enter (args := [_, _]) (X := nX) (G := G) (l := [(0, Value.agg #[.string ra, va]), (1, Value.agg #[.string rb, vb])]) Try.func21 rfl Try.ntmps21 hG ⟨rfl, rfl, trivial⟩ (Nat.le_of_ble_eq_true rfl) ?_
 refine c_seq ?_
 refine c_region ?_
 refine r_box .none rfl rfl (IsRow.lit _) (fun b_1 => ?_)
 refine r_box .none rfl rfl (IsRow.lit _) (fun b_2 => ?_)
 refine r_val .none rfl (p_assign rfl) ?_
 refine r_nil ?_
 refine e_next ?_
 refine c_seq ?_
 refine c_region ?_
 refine r_val .none rfl (p_ldw (k := 1) Try.underlying58 rfl sz58 rfl rfl (rfl : _ = Value.agg #[_, _])) ?_
 refine r_val .none rfl (p_ldw (k := 0) Try.underlying58 rfl sz58 rfl rfl (rfl : _ = Value.agg #[_, _])) ?_
 refine r_call (vs := [_, _]) .none rfl cl26 rfl (fun w hw => c_less20 _ _ _ _ _ _ ha hb w hw) ?_
 refine r_val .none rfl (p_not rfl) ?_
 refine r_val .none rfl (p_move rfl) ?_
 refine' r_and (c := 9) (d := 14) [_, _, _, _, _] rfl (fun h_1 Q_2 hQ_3 => ?_) (fun h_1 Q_2 hQ_3 => ?_) ?_
 rotate_left 1
 ·
  try simp only [norms] at h_1
  refine r_val (.some rfl rfl) rfl (p_ldw (k := 0) Try.underlying58 rfl sz58 rfl rfl (rfl : _ = Value.agg #[_, _])) ?_
  refine r_val (.some rfl rfl) rfl (p_ldw (k := 1) Try.underlying58 rfl sz58 rfl rfl (rfl : _ = Value.agg #[_, _])) ?_
  refine r_call (vs := [_, _]) (.some rfl rfl) rfl cl26 rfl (fun w hw => c_less20 _ _ _ _ _ _ hb ha w hw) ?_
  refine r_val (.some rfl rfl) rfl (p_not rfl) ?_
  refine r_val .none rfl (p_pick_t rfl rfl) ?_
  refine r_nil (e_fin (d := 14) hQ_3 rfl (by repeat (first | exact .refl | refine .put rfl ?_ | refine .say rfl ?_ | refine .say2 rfl (by first | assumption | simp_all) ?_)))
 ·
  repeat (first | refine r_skip rfl (.no rfl rfl) ?_ | refine r_skip rfl (.un rfl rfl) ?_)
  refine r_val (by first | exact .none | exact .some rfl rfl) rfl (p_pick_f rfl rfl) ?_
  refine r_nil (e_fin (d := 14) hQ_3 rfl (by repeat (first | exact .refl | refine .put rfl ?_ | refine .say rfl ?_ | refine .say2 rfl (by first | assumption | simp_all) ?_)))
 refine r_val .none rfl (p_assign rfl) ?_
 refine r_nil ?_
 refine e_next ?_
 refine c_ret ?_
 refine e_ret1 Try.results21 (.tmp rfl .nil) (fun w hm => ⟨?_, hm.since⟩)
 first
 | rfl
 | (simp [oneM, *]; done)
end Go.Proofs.Ytplefabpplfjbaa

/- Walks: what Go functions of this chapter come to, each as a function on plain data; no condition but those that each theorem names. Printed by a program of this work (gen.py). -/
namespace Go.Proofs.Ytplefabpplfjbaa
open Go.Gx Go.Gx.T20 Go.Gx.T21 Go.Gx.T6 Go.Gx.T4 Go.Gx.T21 Go.Gx.T6 Go.Gx.T4
theorem zr24 : ZeroIs Try.prog 24 (Value.agg #[Value.string ⟨#[]⟩, Value.slice none 0 0]) := by
 unfold ZeroIs
 kernel_rfl
theorem cl8 : Callable Try.prog 8 := callable Try.func8 (by kernel_rfl) rfl
theorem cl21 : Callable Try.prog 21 := callable Try.func21 (by kernel_rfl) rfl
theorem bl58_0s1_1s3 (x0 : ByteArray) (x1 : Option Addr) (x2 : Nat) (x3 : Nat) : Program.built Try.prog 58 [(0, Value.string x0), (1, Value.slice x1 x2 x3)] = some #[Value.string x0, Value.slice x1 x2 x3] := by
 kernel_rfl
theorem bs58_10a2 (a0 a1 : Value) : Instr.fill (fun i => some (i * 2, 2)) ((Array.range (1 * 2)).map ((Value.agg #[Value.string ⟨#[]⟩, Value.slice none 0 0]).cells[· % (Value.agg #[Value.string ⟨#[]⟩, Value.slice none 0 0]).cells.size]!)) [(0, Value.agg #[a0, a1])] = some #[a0, a1] := by
 kernel_rfl
theorem el58 : ElemIs Try.prog 58 2 40 (Value.agg #[Value.string ⟨#[]⟩, Value.slice none 0 0]) := by
 unfold ElemIs
 kernel_rfl
theorem c_ref20 (v : Value) (l : List MM) {G : Ghost} (hv : Mt G v l) (hn : l.length ≤ 1000) (hi : ∀ m ∈ l, m.2.length ≤ 1000) (w : World) (hG : Has G w) :
  Calls Try.prog 8 #[v] w (Ret fun r w' => ∃ G', GNew w nX G G' ∧ Has G' w' ∧ Mt G' r l ∧ Since nX w w') := by
 refine enter (args := [_]) (X := nX) (G := G) (l := [(0, v)]) Try.func8 rfl Try.ntmps8 hG ⟨rfl, trivial⟩ (Nat.le_of_ble_eq_true rfl) ?_
 obtain ⟨rs, hr, hp, rfl⟩ := hv
 have hbd := hr.bound
 rw [List.length_map] at hn
 refine c_seq ?_
 refine c_region ?_
 refine r_val .none rfl (p_assign rfl) ?_
 refine r_nil ?_
 refine e_next ?_
 refine c_seq ?_
 refine c_region ?_
 refine r_val .none rfl (p_assign rfl) ?_
 refine r_nil ?_
 refine e_next ?_
 refine c_seq ?_
 refine c_seq ?_
 refine c_region ?_
 refine r_val .none rfl (p_move rfl) ?_
 refine r_val .none rfl (p_leng Try.underlying30 rfl hr) ?_
 have bd_1 := (hr).bound
 refine r_val .none rfl (p_move rfl) ?_
 refine r_nil ?_
 refine e_next ?_
 refine c_block ?_
 refine c_nilrow 58 2 ?_
 refine c_name (d := 2) rfl (fun u_2 hu_2 => ?_)
 refine c_name (d := 6) rfl (fun u_3 hu_3 => ?_)
 refine c_name (d := 7) rfl (fun u_4 hu_4 => ?_)
 refine c_loop (σ := Nat × Value × List (MM × Value) × Ghost) (fun s => [(8, Value.int .i64 (s.1 : Nat)), (3, s.2.1), (2, u_2), (6, u_3), (7, u_4)]) (fun s => [rowA (s.2.1) 58 2 (s.2.2.1).length ((s.2.2.1).flatMap mC)]) (fun s => s.2.2.2) (fun s => s.1 ≤ rs.length ∧ s.2.2.1.map Prod.fst = (rs.map Prod.fst).take s.1 ∧ (∀ p ∈ s.2.2.1, SlL s.2.2.2 p.2 1 cI (0 : Int) p.1.2) ∧ GNew w nX G s.2.2.2) (fun s => rs.length - s.1) ((0, _, [], _)) ⟨Nat.zero_le _, rfl, by simp, GNew.refl _ _ _⟩ rfl ⟨rfl, rfl, rfl, rfl, rfl, trivial⟩ (.keep (fun _ _ h => rowA_nil rfl _ _ h) (.nil)) (fun s hphi => ?_)
 subst hu_2
 subst hu_3
 subst hu_4
 obtain ⟨k, v, qs, H⟩ := s
 obtain ⟨hk, hq, hqs, hgn⟩ := hphi
 dsimp only at hk hq hqs hgn ⊢
 have hql : qs.length ≤ k := (by have := congrArg List.length hq; simp at this; omega)
 replace hr := hr.mono hgn.le
 replace hp := fun p hm0 => (hp p hm0).mono hgn.le
 refine c_seq ?_
 refine c_region ?_
 refine r_val .none rfl (p_lt rfl rfl) ?_
 refine r_nil ?_
 refine e_next ?_
 refine c_seq ?_
 refine c_splitd (d := 9) rfl (fun h_5 => ?_) (fun h_5 => ?_)
 ·
  first
   | (exfalso; omega)
   | (
    refine c_cond_t rfl ?_
    refine c_skip ?_
    refine e_next ?_
    refine c_seq ?_
    refine c_block ?_
    refine c_seq ?_
    refine c_region ?_
    refine r_iaddr_g .none rfl Try.underlying30 sz24 rfl hr rfl (by first | exact of_decide_eq_true rfl | omega) (fun p_7 o_8 R_6 => ?_)
    have hq_9 := hp _ (getD_mem (i := k) (d := m0) (by omega))
    refine r_val .none rfl (p_ldga0 Try.underlying24 rfl sz24 rfl R_6 (by first | exact of_decide_eq_true rfl | omega) (rfl : _ = Value.agg #[_, _])) ?_
    refine r_alloc .none rfl zr24 (IsRow.lit _) (fun b_1 => ?_)
    refine r_stw (k := 0) .none sz24 rfl rfl (IsRow.lit _) (one_lit rfl (all_cons rfl (all_cons (hq_9).one rfl))) rfl ?_
    refine r_nil ?_
    refine e_next ?_
    refine c_region_d (fun _ => false) _ mixed (.keep (fun _ _ h => h) (.drop (.nil))) ?_
    refine d_val1 0 rfl rfl (by kernel_rfl) (fun _ _ => rfl) .none rfl (p_move rfl) ?_
    refine d_val1 1 rfl rfl (by kernel_rfl) (fun _ _ => rfl) .none rfl (p_field Try.underlying24 rfl sz9 rfl) ?_
    refine d_val1 2 rfl rfl (by kernel_rfl) (fun _ _ => rfl) .none rfl (p_ld (k := 0) Try.underlying9 rfl rfl rfl (by first | exact of_decide_eq_true rfl | omega) (rfl : _ = Value.string _)) ?_
    refine d_val1 4 rfl rfl (by kernel_rfl) (fun _ _ => rfl) .none rfl (p_field Try.underlying24 rfl sz22 rfl) ?_
    refine d_val1 5 rfl rfl (by kernel_rfl) (fun _ _ => rfl) .none rfl (p_ld (k := 0) Try.underlying22 rfl rfl rfl (by first | exact of_decide_eq_true rfl | omega) rfl) ?_
    refine d_eff 3 rfl (by kernel_rfl) (fun K_10 hKK_10 hcK_10 => ?_)
    refine r_bslice0 .none rfl Try.underlying22 el3 (fun v_11 => ?_)
    refine r_nil (e_d (i := 3) (brk := (fun _ => false)) (ph' := true) hKK_10 hcK_10 rfl (fun _ => GLe.refl _) (fun _ => .drop (.keep (fun _ _ h => h) (.drop (.nil)))) ?_)
    clear hKK_10 hcK_10 K_10
    refine d_eff 6 rfl (by kernel_rfl) (fun K_12 hKK_12 hcK_12 => ?_)
    refine r_append_g (k := 0) .none rfl Try.underlying22 el3 rfl (by decide) rfl rfl rfl hq_9 (fun _ _ _ hj => one_lit rfl rfl _ hj) (by have h9 := hi _ (List.mem_map.2 ⟨_, getD_mem (i := k) (d := m0) (by omega), rfl⟩); simp only [maxLen]; omega) (by have h9 := hi _ (List.mem_map.2 ⟨_, getD_mem (i := k) (d := m0) (by omega), rfl⟩); omega) (fun v_13 => ?_)
    refine r_row1 (k := 0) rfl (fun o_14 => ?_)
    refine r_freeze (k := 0) rfl (fun G_15 hn_16 hz_17 => ?_)
    replace hr := hr.mono hn_16.le
    replace hp := fun p hm0 => (hp p hm0).mono hn_16.le
    replace hqs := fun p hm0 => (hqs p hm0).mono hn_16.le
    replace R_6 := R_6.mono hn_16.le
    replace hq_9 := hq_9.mono hn_16.le
    have hs_18 : SlL G_15 v_13 1 cI (0 : Int) (rs.getD k m0).1.2 := SlL.of2 (cells := cI) (0 : Int) (fun _ => rfl) (Nat.zero_add _) (by rw [flat_all (cells := cI) (fun _ => rfl)]; rfl) hz_17
    obtain ⟨a_19, c_20, rfl⟩ := SlG.len hs_18
    refine r_nil (e_d (i := 6) (brk := (fun _ => false)) (ph' := true) hKK_12 hcK_12 rfl (fun _ => hn_16.le) (fun _ => .keep (fun _ _ h => h) (.drop (.nil))) ?_)
    clear hKK_12 hcK_12 K_12
    refine d_val1 7 rfl rfl (by kernel_rfl) (fun _ _ => rfl) .none rfl (p_build (vs := [(0, Value.string _), (1, Value.slice _ _ _)]) rfl (bl58_0s1_1s3 _ _ _ _)) ?_
    refine d_eff 8 rfl (by kernel_rfl) (fun K_21 hKK_21 hcK_21 => ?_)
    refine r_bslice (vs := [(0, Value.agg #[_, _])]) (c := #[_, _]) .none rfl Try.underlying28 el58 rfl rfl rfl (bs58_10a2 _ _) (IsRow.lit _) (fun b_2 => ?_)
    refine r_nil (e_d (i := 8) (brk := (fun _ => false)) (ph' := true) hKK_21 hcK_21 rfl (fun _ => hn_16.le) (fun _ => .drop (.keep (fun _ _ h => h) (.drop (.nil)))) ?_)
    clear hKK_21 hcK_21 K_21
    refine d_eff 9 rfl (by kernel_rfl) (fun K_22 hKK_22 hcK_22 => ?_)
    refine r_append (k := 2) (k2 := 0) .none rfl Try.underlying28 el58 rfl (by decide) rfl rfl rfl rfl rfl (one_lit rfl (all_cons rfl (all_cons (hs_18).one rfl))) (by simp only [maxLen]; omega) (by omega) (fun v_23 => ?_)
    refine r_row1 (k := 2) rfl (fun o_24 => ?_)
    refine r_nil (e_d (i := 9) (brk := (fun _ => false)) (ph' := true) hKK_22 hcK_22 rfl (fun _ => hn_16.le) (fun _ => .drop (.keep (fun _ _ h => h) (.drop (.nil)))) ?_)
    clear hKK_22 hcK_22 K_22
    refine d_val1 10 rfl rfl (by kernel_rfl) (fun _ _ => rfl) .none rfl (p_assign rfl) ?_
    refine d_nil (by kernel_rfl) ?_
    refine e_norm_block ?_
    refine e_next ?_
    refine c_region ?_
    refine r_val .none rfl (p_add rfl rfl (by omega)) ?_
    refine r_val .none rfl (p_move rfl) ?_
    refine r_nil ?_
    refine e_round ((k + 1, _, qs ++ [((rs.getD k m0).1, (Value.slice a_19 (rs.getD k m0).1.2.length c_20))], _)) ⟨⟨by dsimp only; omega, by rw [map_take (d := m0) (by omega), List.map_append, hq]; rfl, (fun p hp' => by rcases List.mem_append.1 hp' with h | h; exact hqs p h; rw [List.mem_singleton.1 h]; exact hs_18), (hgn.trans hn_16)⟩, by dsimp only; omega⟩ rfl ⟨rfl, rfl, rfl, rfl, rfl, trivial⟩ (.drop (.drop (.keep (fun _ _ h => rowA_snoc (l := qs) (x := ((rs.getD k m0).1, (Value.slice a_19 (rs.getD k m0).1.2.length c_20))) rfl rfl rfl rfl _ _ h) (.nil))))
    )
 ·
  first
   | (exfalso; omega)
   | (
    refine c_cond_f rfl ?_
    refine c_exit ?_
    refine e_exit_then ?_
    refine e_exit_then ?_
    refine e_exit_block ?_
    refine e_next ?_
    refine c_seq ?_
    refine c_region ?_
    refine r_val .none rfl (p_move rfl) ?_
    refine r_val .none rfl (p_assign rfl) ?_
    refine r_nil ?_
    refine e_next ?_
    refine c_ret ?_
    refine e_freeze (k := 0) rfl (fun G_25 hn_26 hs_27 => ?_)
    replace hr := hr.mono hn_26.le
    replace hp := fun p hm0 => (hp p hm0).mono hn_26.le
    replace hqs := fun p hm0 => (hqs p hm0).mono hn_26.le
    refine e_ret1 Try.results8 (.tmp rfl .nil) (fun w hm => ⟨_, (hgn.trans hn_26), hm.has, ?_, hm.since⟩)
    rw [show rs.map Prod.fst = qs.map Prod.fst by rw [hq, List.take_of_length_le (by simp; omega)]]
    exact Mt.mk qs (SlL.of m0 (fun _ => rfl) rfl hs_27) hqs
    )
end Go.Proofs.Ytplefabpplfjbaa

/- Walks: what Go functions of this chapter come to, each as a function on plain data; no condition but those that each theorem names. Printed by a program of this work (gen.py). -/
namespace Go.Proofs.Ytplefabpplfjbaa
open Go.Gx Go.Gx.T20 Go.Gx.T21 Go.Gx.T6 Go.Gx.T4 Go.Gx.T21 Go.Gx.T6 Go.Gx.T4
theorem bs24_10a2 (a0 a1 : Value) : Instr.fill (fun i => some (i * 2, 2)) ((Array.range (1 * 2)).map ((Value.agg #[Value.string ⟨#[]⟩, Value.slice none 0 0]).cells[· % (Value.agg #[Value.string ⟨#[]⟩, Value.slice none 0 0]).cells.size]!)) [(0, Value.agg #[a0, a1])] = some #[a0, a1] := by
 kernel_rfl
theorem el24 : ElemIs Try.prog 24 2 40 (Value.agg #[Value.string ⟨#[]⟩, Value.slice none 0 0]) := by
 unfold ElemIs
 kernel_rfl
end Go.Proofs.Ytplefabpplfjbaa

/-
  GX: a row that may begin within its block (a list that was cut from the front): it is read at its head, cut, and grows. Generic in the program.
-/
namespace Go.Gx
open Go.RowKit
def rowO (v : Value) (E : TypeId) (sz n : Nat) (xs : List Value) : Asrt where
  holds w F := xs.length = n * sz ∧ n ≤ maxLen ∧ ((v = .slice none 0 0 ∧ n = 0 ∧ ∀ k, ¬ F k) ∨ ∃ b o cap c, v = .slice (some ⟨b, o, none⟩) n cap ∧ w.heap[b]? = some (.cells c E) ∧ n ≤ cap ∧ cap ≤ maxLen ∧ o + cap * sz ≤ c.size ∧ (∀ (j : Nat) (u : Value), xs[j]? = some u → c[o + j]? = some u) ∧ ∀ k, F k ↔ k = b)
  frame := by
    rintro w w' F ⟨h1, h2, h3⟩ hk
    refine ⟨h1, h2, ?_⟩
    rcases h3 with h3 | ⟨b, o, cap, c, rfl, hb, r1, r2, r3, r4, hF⟩
    · exact .inl h3
    · exact .inr ⟨b, o, cap, c, rfl, by rw [hk b ((hF b).2 rfl)]; exact hb, r1, r2, r3, r4, hF⟩
  dom := by
    rintro w F b ⟨_, _, h3⟩ hb
    rcases h3 with ⟨_, _, h⟩ | ⟨g, o, cap, c, rfl, hg, _, _, _, _, hF⟩
    · exact absurd hb (h b)
    · rw [(hF b).1 hb]; exact lt_of_heap hg
theorem rowO_nil (w : World) (E : TypeId) (sz : Nat) : (rowO (.slice none 0 0) E sz 0 []).holds w (fun _ => False) := ⟨by simp, Nat.zero_le _, .inl ⟨rfl, rfl, fun _ h => h⟩⟩
theorem rowO_congr {v : Value} {E : TypeId} {sz n n' : Nat} {xs ys : List Value} (hn : n = n') (h : xs = ys) (w : World) (F : Nat → Prop) (hA : (rowO v E sz n xs).holds w F) : (rowO v E sz n' ys).holds w F := by subst hn; subst h; exact hA
theorem rowO_of_own {w : World} {base : Nat} {v : Value} {E : TypeId} {sz n : Nat} {xs : List Value} (h : w.ownsRow base E sz v n xs) (hm : n ≤ maxLen) : (rowO v E sz n xs).holds w (fun b => v.ownBlock = some b) := by
  refine ⟨h.1, hm, ?_⟩
  rcases h.2 with ⟨rfl, h0⟩ | ⟨g, cap, cur, rfl, _, hg, hn, hc, hs, ht⟩
  · exact .inl ⟨rfl, h0, fun k h => by cases h⟩
  · refine .inr ⟨g, 0, cap, cur, rfl, hg, hn, hc, by rw [hs, Nat.zero_add]; exact Nat.le_refl _, fun j u hj => ?_, fun k => ?_⟩
    · rw [Nat.zero_add, ← Array.getElem?_toList]
      rw [← ht, List.getElem?_take] at hj
      split at hj
      · exact hj
      · cases hj
    · simp only [Value.ownBlock, Option.some.injEq]; exact eq_comm
section
variable {P : Program} {v : Value} {E T : TypeId} {sz n m bytes c : Nat} {xs news : List Value} {zv : Value} {w : World} {F : Nat → Prop} {ad : Addr} {ty : TypeId}
theorem rowO_grow (hT : P.underlying T = some (.slice E)) (hE : ElemIs P E sz bytes zv) (hz : zv.cells.size = sz) (hsz : 0 < sz) (hA : (rowO v E sz n xs).holds w F)
    (hl : news.length = m * sz) (hnews : ∀ j u, news[j]? = some u → w.cell? (ad.add j) = some u) (h1 : ∀ u ∈ news, u.oneCell' = true) (h63 : n + m ≤ maxLen) (hbytes : (n + m) * bytes ≤ 140737488355328) :
    ∃ v' w', (Builtin.append_ #[T, T] ty #[v, .slice (some ad) m c]).run P w = .ok v' w' ∧ ∃ F', (rowO v' E sz (n + m) (xs ++ news)).holds w' F' ∧ Since F w w' ∧ ∀ b, F' b → F b ∨ w.heap.size ≤ b := by
  obtain ⟨i, hi, hz0, hs, hby⟩ := hE.info
  obtain ⟨hxl, hn, hv⟩ := hA
  have fresh : ∀ v' w', w'.ownsRow w.heap.size E sz v' (n + m) (xs ++ news) → w.grownBy w' none → ∃ F', (rowO v' E sz (n + m) (xs ++ news)).holds w' F' ∧ Since F w w' ∧ ∀ b, F' b → F b ∨ w.heap.size ≤ b := fun v' w' ho hg =>
    ⟨_, rowO_of_own ho h63, ⟨hg.os, hg.tape, hg.output, hg.size, fun k hk _ => hg.block k hk (by simp)⟩, fun b hb => .inr (by
      rcases ho.2 with ⟨rfl, _⟩ | ⟨g, cap, cur, rfl, hge, _⟩
      · cases hb
      · simp only [Value.ownBlock, Option.some.injEq] at hb; omega)⟩
  rcases hv with ⟨rfl, h0, hF⟩ | ⟨b, o, cap, cur, rfl, hb, hnc, hcm, hsize, hcell, hF⟩
  · subst h0
    have hx : xs = [] := List.eq_nil_of_length_eq_zero (by simpa using hxl)
    subst hx
    obtain ⟨v', w', hr, h2, h3, _⟩ := run_append_own (P := P) w w.heap.size T ty E i zv sz bytes hT hi hz0 hs hby hz hsz (.slice none 0 0) 0 [] (World.ownsRow_nil w w.heap.size E sz) ad m c news hl hnews h1 h63 hbytes (Nat.le_refl _)
    exact ⟨v', w', hr, fresh v' w' h2 ⟨h3.os, h3.tape, h3.output, h3.size, fun k hk _ => h3.block k hk (by simp [Value.ownBlock])⟩⟩
  · by_cases hroom : n + m ≤ cap
    · subst hs
      have hfit : o + n * i.size + news.length ≤ cur.size := by
        have : (n + m) * i.size ≤ cap * i.size := Nat.mul_le_mul_right _ hroom
        rw [Nat.add_mul] at this; omega
      have hcl : ∀ j, j < news.length → w.cell? ⟨b, o + n * i.size + j, none⟩ = some cur[o + n * i.size + j]! := fun j hj => by
        have hlt : o + n * i.size + j < cur.size := by omega
        simp [World.cell?, hb, hlt]
      have hc : ∀ j, j < news.length → (w.cell? ⟨b, o + n * i.size + j, none⟩).isSome = true := fun j hj => by rw [hcl j hj]; rfl
      have hf : ∀ j, j < news.length → w.frozen? ⟨b, o + n * i.size + j, none⟩ = false := fun j hj => by simp [World.frozen?, hb]
      have hr := run_append_room_cells (P := P) w T ty E i hT hi b o n cap ad m c news hl hnews h1 hroom hc hf
      have hst := run_storeCells_cells (P := P) b (o + n * i.size) news 0 w (by simpa using hc) (by simpa using hf) h1
      have hB : BoxAt w b cur.size E (fun k => cur.toList.getD k undef) := ⟨cur, hb, rfl, fun k hk => by simp [List.getD, hk]⟩
      obtain ⟨w', hr2, ⟨c2, hc1, hc2⟩, hsn⟩ := run_storeCells_box (P := P) news (o + n * i.size) 0 w b cur.size E _ hB (by omega) h1
      rw [hst] at hr2
      simp only [Result.ok.injEq, Nat.add_zero, true_and] at hr2
      rw [hr2] at hr
      refine ⟨_, w', hr, F, ⟨by rw [List.length_append, hxl, hl, Nat.add_mul], h63, .inr ⟨b, o, cap, c2, rfl, hc1, hroom, hcm, by rw [hc2.size]; exact hsize, fun j u hj => ?_, hF⟩⟩, ⟨hsn.os, hsn.tape, hsn.output, hsn.size, fun k hk hx => hsn.block k hk (fun e => hx ((hF k).2 e))⟩, fun b hb => .inl hb⟩
      by_cases hjx : j < xs.length
      · rw [List.getElem?_append_left hjx] at hj
        have hlt : o + j < cur.size := by
          have := hcell j u hj
          rcases Nat.lt_or_ge (o + j) cur.size with h | h
          · exact h
          · rw [Array.getElem?_eq_none h] at this; cases this
        rw [hc2.get _ hlt, updR_eq, if_neg (by omega)]
        have h4 := hcell j u hj
        rw [← Array.getElem?_toList] at h4
        simp [List.getD, h4]
      · have hjl : j - xs.length < news.length := by
          rw [List.getElem?_append_right (by omega)] at hj
          rcases Nat.lt_or_ge (j - xs.length) news.length with h | h
          · exact h
          · rw [List.getElem?_eq_none h] at hj; cases hj
        rw [List.getElem?_append_right (by omega)] at hj
        have hlt : o + j < cur.size := by omega
        rw [hc2.get _ hlt, updR_eq, if_pos (by omega), show o + j - (o + n * i.size + 0) = j - xs.length by omega, ← hj]
        exact (at_get news _ hjl).symm
    · have holds : ∀ j u, xs[j]? = some u → w.cell? ((⟨b, o, none⟩ : Addr).add j) = some u := fun j u hj => by
        rw [addr_add]
        simp [World.cell?, hb, hcell j u hj]
      obtain ⟨v', w', hr, ho, hg⟩ := run_append_arg_grows (P := P) w T ty E i zv sz bytes hT hi hz0 hs hby hz hsz ⟨b, o, none⟩ n cap xs hxl holds ad m c news hl hnews (by omega) h63 hbytes
      exact ⟨v', w', hr, fresh v' w' ho hg⟩
end
section
variable {P : Program} {ops : Array Oper} {Q : Exit → Act → World → Prop} {N : Nat} {X : Nat → Prop} {w0 : World} {G : Ghost} {l : List (Nat × Value)} {L : List Asrt}
variable {rest : List Oper} {d k k2 : Nat} {ty : TypeId} {pos : String} {after : Array Edge} {gd : Option (Nat × Bool)} {x y : Operand} {v u : Value} {T E E' : TypeId} {n m sz bytes i b N' : Nat} {xs : List Value} {q : IntKind} {zv : Value} {f : Nat → Value}
/-- append(out, x): x lies in a box of its own. -/
theorem r_appendO (hw : Wt ops l gd) (hd : Nat.blt d N = true) (hT : P.underlying T = some (.slice E)) (hE : ElemIs P E sz bytes zv) (hz : zv.cells.size = sz) (hsz : 0 < sz)
    (hx : ev l x = some v) (hL : L[k]? = some (rowO v E sz n xs)) (hy : ev l y = some (.slice (some ⟨b, 0, none⟩) m m)) (hL2 : L[k2]? = some (box b N' E' f)) (hN : N' = m * sz) (h1 : ∀ j, j < m * sz → (f j).oneCell' = true) (h63 : n + m ≤ maxLen) (hbytes : (n + m) * bytes ≤ 140737488355328)
    (h : ∀ v', Runs P ops Q N X w0 G rest ((d, v') :: l) (L.set k (rowO v' E sz (n + m) (xs ++ row f 0 (m * sz))))) : Runs P ops Q N X w0 G (⟨some d, .call ⟨.builtin .append, #[x, y], #[T, T]⟩, ty, pos, after, gd⟩ :: rest) l L := by
  refine Runs.step hw (fun a w hS => ?_)
  show Oper.upon P _ a _ Q _
  subst hN
  obtain ⟨F2, ⟨hB, _⟩, _⟩ := hS.mem.take hL2
  obtain ⟨F, hA, _, hput⟩ := hS.mem.take hL
  obtain ⟨v', w', hr, F', h2, h3, h4⟩ := rowO_grow (P := P) (ty := ty) (c := m) (ad := ⟨b, 0, none⟩) (news := row f 0 (m * sz)) hT hE hz hsz hA (row_length f (m * sz) 0)
    (fun j u hj => by obtain ⟨h2, rfl⟩ := row_some hj; rw [addr_add, Nat.zero_add]; exact hB.cell h2) (fun u hu => by obtain ⟨j, hj, rfl⟩ := mem_row hu; exact h1 j hj) h63 hbytes
  have hrun : (execOp a.eval ⟨some d, .call ⟨.builtin .append, #[x, y], #[T, T]⟩, ty, pos, after, gd⟩).run P w = .ok (.value v') w' := by
    simp only [execOp, resolve, invoke, builtin, Sem.run_bind, Sem.run_pure, Result.andThen_ok, List.map_toArray, List.map_cons, List.map_nil, hS.fr.eval hx, hS.fr.eval hy, hr]
  rw [hrun, Oper.upon_value]
  exact h v' _ _ ⟨hS.fr.put (by simpa using hd) v', hput w' _ F' h3 h2 h4⟩
theorem r_rowOsl (hL : L[k]? = some (rowO v E sz n xs)) (h : ∀ a c, v = .slice a n c → n ≤ c → Runs P ops Q N X w0 G rest l L) : Runs P ops Q N X w0 G rest l L := by
  intro ac w hS
  obtain ⟨F, ⟨_, _, hv⟩, _, _⟩ := hS.mem.take hL
  rcases hv with ⟨rfl, rfl, _⟩ | ⟨g, o, cap, cur, rfl, _, hn, _⟩
  · exact h _ _ rfl (Nat.le_refl _) ac w hS
  · exact h _ _ rfl hn ac w hS
/-- Where it is not empty: where its block lies. -/
theorem r_rowOat (hL : L[k]? = some (rowO v E sz n xs)) (hn : 0 < n) (h : ∀ b o c, v = .slice (some ⟨b, o, none⟩) n c → n ≤ c → Runs P ops Q N X w0 G rest l L) : Runs P ops Q N X w0 G rest l L := by
  intro ac w hS
  obtain ⟨F, ⟨_, _, hv⟩, _, _⟩ := hS.mem.take hL
  rcases hv with ⟨rfl, rfl, _⟩ | ⟨g, o, cap, cur, rfl, _, hn, _⟩
  · exact absurd hn (Nat.lt_irrefl _)
  · exact h _ _ _ rfl hn ac w hS
theorem p_lenO {T E2 : TypeId} (hT : P.underlying T = some (.slice E2)) (hx : ev l x = some v) (hL : L[k]? = some (rowO v E sz n xs)) :
    PV P N X w0 G l L ⟨some d, .call ⟨.builtin .len, #[x], #[T]⟩, ty, pos, after, gd⟩ (.int .i64 (n : Int)) := by
  intro ac w hS
  obtain ⟨F, ⟨_, _, hv⟩, _, _⟩ := hS.mem.take hL
  have : ∃ a c, v = .slice a n c := by
    rcases hv with ⟨rfl, rfl, _⟩ | ⟨g, o, cap, cur, rfl, _⟩
    · exact ⟨_, _, rfl⟩
    · exact ⟨_, _, rfl⟩
  obtain ⟨a, c, rfl⟩ := this
  exact p_len hT hx ac w hS
/-- Its first element's address. -/
theorem p_iaddrO {o cap : Nat} (hT : P.underlying T = some (.slice E)) (hE : SzIs P E sz) (hx : ev l x = some v) (hv : v = .slice (some ⟨b, o, none⟩) n cap) (hy : ev l y = some (.int q (0 : Nat))) (hi : 0 < n) :
    PV P N X w0 G l L ⟨some d, .indexAddr T x y, ty, pos, after, gd⟩ (.pointer (some ⟨b, o, none⟩)) := by
  intro ac w hS
  subst hv
  simp only [execOp, hS.fr.eval hx, hS.fr.eval hy]
  simp [Instr.indexAt, asIntOf, run_underlying hT, hE.run, addr_add, hi]
/-- Its first element is read. -/
theorem p_ldO {e : TypeDesc} {o cap : Nat} {f : Nat → Value} (hT : P.underlying T = some e) (hs : e.aggB = true) (hm : SzIs P T sz) (hx : ev l x = some (.pointer (some ⟨b, o, none⟩))) (hL : L[k]? = some (rowO v E sz n xs)) (hv : v = .slice (some ⟨b, o, none⟩) n cap) (hf : ∀ j, j < sz → xs[j]? = some (f j)) (hu : aggF sz f = u) :
    PV P N X w0 G l L ⟨some d, .load T x, ty, pos, after, gd⟩ u := by
  intro a w hS
  obtain ⟨F, ⟨_, _, hvv⟩, _, _⟩ := hS.mem.take hL
  subst hv
  rcases hvv with ⟨h, _⟩ | ⟨g, o', cap', cur, h, hg, _, _, _, hcell, _⟩
  · cases h
  · cases h
    have hc := run_loadVar_agg (P := P) (w := w) (b := b) (i := o) (f := f) hT hs hm (fun j hj => by simp [World.cell?, hg, hcell j _ (hf j hj)])
    rw [hu] at hc
    simp [execOp, hS.fr.eval hx, Instr.loadAt, Instr.sureAddr, hc]
/-- Its tail. -/
theorem p_tailO {o cap : Nat} (hT : P.underlying T = some (.slice E)) (hE : SzIs P E sz) (hx : ev l x = some v) (hv : v = .slice (some ⟨b, o, none⟩) n cap) (h0 : 0 < n) (hy : ev l y = some (.int q (1 : Nat))) :
    PV P N X w0 G l L ⟨some d, .slice T x (some y) none none, ty, pos, after, gd⟩ (.slice (if cap = 1 then some ⟨b, o, none⟩ else some ⟨b, o + sz, none⟩) (n - 1) (cap - 1)) := by
  intro ac w hS
  subst hv
  have hrun : ∀ a1 : Nat, a1 ≤ n → (Instr.sliceAt T (.slice (some ⟨b, o, none⟩) n cap) (some (.int q (a1 : Nat))) none none).run P w = .ok (.slice (if cap = a1 then some ⟨b, o, none⟩ else some ⟨b, o + a1 * sz, none⟩) (n - a1) (cap - a1)) w := fun a1 ha => by
    simp [Instr.sliceAt, Instr.slice, run_underlying hT, Instr.sliceBounds, Instr.sliceBound, asIntOf, hE.run, ha, addr_add]
  have h1 := hrun 1 (by omega)
  rw [Nat.one_mul] at h1
  simp only [execOp, Option.map_some, Option.map_none, hS.fr.eval hx, hS.fr.eval hy]
  simp only [Sem.run_bind, h1, Result.andThen_ok, Sem.run_pure]
theorem rowO_tail {o cap : Nat} {w : World} {F : Nat → Prop} (h0 : 0 < n) (hv : v = .slice (some ⟨b, o, none⟩) n cap) (hA : (rowO v E sz n xs).holds w F) : (rowO (.slice (if cap = 1 then some ⟨b, o, none⟩ else some ⟨b, o + sz, none⟩) (n - 1) (cap - 1)) E sz (n - 1) (xs.drop sz)).holds w F := by
  subst hv
  obtain ⟨hxl, hm, hv⟩ := hA
  rcases hv with ⟨h, _⟩ | ⟨g, o', cap', cur, h, hg, h1, h2, h3, hcell, hF⟩
  · cases h
  · cases h
    have e : n * sz = (n - 1) * sz + sz := by rw [← Nat.succ_mul]; congr 1; omega
    refine ⟨by rw [List.length_drop, hxl, e]; omega, by omega, ?_⟩
    by_cases hc : cap = 1
    · subst hc
      have : n = 1 := by omega
      subst this
      refine .inr ⟨b, o, 0, cur, by simp, hg, by omega, by omega, by omega, fun j u hj => ?_, hF⟩
      rw [List.drop_eq_nil_of_le (by omega)] at hj
      simp at hj
    · rw [if_neg hc]
      have e2 : cap * sz = (cap - 1) * sz + sz := by rw [← Nat.succ_mul]; congr 1; omega
      refine .inr ⟨b, o + sz, cap - 1, cur, rfl, hg, by omega, by omega, by omega, fun j u hj => ?_, hF⟩
      rw [List.getElem?_drop] at hj
      rw [Nat.add_assoc]
      exact hcell _ u hj
end
end Go.Gx

/- The document's news: the list of all listeners that ever were; how it stands to the news that are kept behind a map. -/
namespace Go.Gx.T22
open Go.Gx Go.Gx.T21
abbrev RS := Nat × Int × Bool × List NV
def b01 (b : Bool) : Value := .int .i64 (if b = true then 1 else 0)
def nvC (y : NV) : List Value := [b01 y.2.1, .string y.2.2.1, y.1]
def lstC (p : Value × RS) : List Value := [p.1, .int .i64 (p.2.1 : Int), .int .i64 p.2.2.1, b01 p.2.2.2.1]
def rs0 : RS := (0, 0, false, [])
def l0 : Value × RS := (.slice none 0 0, rs0)
def rowF (TN : TypeId) (p : Value × RS) : Asrt := rowO p.1 TN 3 p.2.2.2.2.length (p.2.2.2.2.flatMap nvC)
def rfA (T E TN : TypeId) (b : Nat) (S : List RS) : Asrt := exA fun l : List (Value × RS) => andA (S = l.map Prod.snd) (starL [robj T E 4 lstC b l, starL (l.map (rowF TN))])
/-! ### one of a list is taken out, and put back -/
section
variable {α : Type} (F : α → Asrt)
theorem starI_pick (d : α) : ∀ {l : List α} {i : Nat}, i < l.length → (starL (l.map F)).Eqv (star (F (l.getD i d)) (starL ((l.eraseIdx i).map F)))
  | [], _, h => absurd h (Nat.not_lt_zero _)
  | x :: t, 0, _ => .rfl
  | x :: t, i + 1, h => (star_congr (Asrt.Eqv.rfl (A := F x)) (starI_pick d (Nat.lt_of_succ_lt_succ h))).trans (star_swap _ _ _)
theorem starI_put (y : α) : ∀ {l : List α} {i : Nat}, i < l.length → (star (F y) (starL ((l.eraseIdx i).map F))).Eqv (starL ((l.set i y).map F))
  | [], _, h => absurd h (Nat.not_lt_zero _)
  | x :: t, 0, _ => .rfl
  | x :: t, i + 1, h => (star_swap _ _ _).trans (star_congr (Asrt.Eqv.rfl (A := F x)) (starI_put y (Nat.lt_of_succ_lt_succ h)))
theorem starI_snoc (y : α) : ∀ (l : List α), (star (F y) (starL (l.map F))).Eqv (starL ((l ++ [y]).map F))
  | [] => .rfl
  | x :: t => (star_swap _ _ _).trans (star_congr (Asrt.Eqv.rfl (A := F x)) (starI_snoc y t))
variable {P : Program} {ops : Array Oper} {Q : Exit → Act → World → Prop} {N : Nat} {X : Nat → Prop} {w0 : World} {G : Ghost} {fr : List (Nat × Value)} {rest : List Oper} {e : Exit} {l : List α} {L : List Asrt} {i : Nat}
theorem r_pickI (d : α) (hi : i < l.length) (h : Runs P ops Q N X w0 G rest fr (F (l.getD i d) :: starL ((l.eraseIdx i).map F) :: L)) : Runs P ops Q N X w0 G rest fr (starL (l.map F) :: L) :=
  fun a w hS => h a w ⟨hS.fr, hS.mem.since, hS.mem.has, (hS.mem.sep.one (fun f => (starI_pick F d hi w f).1)).unstar⟩
theorem c_pickI {c : Code} (d : α) (hi : i < l.length) (h : CRuns P c Q N X w0 G fr (F (l.getD i d) :: starL ((l.eraseIdx i).map F) :: L)) : CRuns P c Q N X w0 G fr (starL (l.map F) :: L) :=
  fun a w hS => h a w ⟨hS.fr, hS.mem.since, hS.mem.has, (hS.mem.sep.one (fun f => (starI_pick F d hi w f).1)).unstar⟩
theorem e_putI (y : α) (hi : i < l.length) (h : ERuns Q e N X w0 G fr (starL ((l.set i y).map F) :: L)) : ERuns Q e N X w0 G fr (F y :: starL ((l.eraseIdx i).map F) :: L) :=
  fun a w hS => h a w ⟨hS.fr, hS.mem.since, hS.mem.has, hS.mem.sep.restar.one (fun f => (starI_put F y hi w f).1)⟩
theorem e_snocI (y : α) (h : ERuns Q e N X w0 G fr (starL ((l ++ [y]).map F) :: L)) : ERuns Q e N X w0 G fr (F y :: starL (l.map F) :: L) :=
  fun a w hS => h a w ⟨hS.fr, hS.mem.since, hS.mem.has, hS.mem.sep.restar.one (fun f => (starI_snoc F y l w f).1)⟩
end
theorem e_nilO {Q : Exit → Act → World → Prop} {N : Nat} {X : Nat → Prop} {w0 : World} {G : Ghost} {fr : List (Nat × Value)} {e : Exit} {L : List Asrt} (E : TypeId) (sz : Nat) (h : ERuns Q e N X w0 G fr (rowO (.slice none 0 0) E sz 0 [] :: L)) : ERuns Q e N X w0 G fr L :=
  fun a w hS => h a w ⟨hS.fr, hS.mem.since, hS.mem.has, (fun _ => False), rowO_nil w E sz, fun b hb => hb.elim, hS.mem.sep.mono (fun b _ hb => ⟨hb, id⟩)⟩
theorem rowO_one {v : Value} {E : TypeId} {sz n : Nat} {xs : List Value} {w : World} {F : Nat → Prop} (h : (rowO v E sz n xs).holds w F) : v.oneCell' = true := by
  obtain ⟨_, _, h⟩ := h
  rcases h with ⟨rfl, _⟩ | ⟨_, _, _, _, rfl, _⟩ <;> rfl
theorem rows_one (TN : TypeId) : ∀ (l : List (Value × RS)) (w : World) (F : Nat → Prop), (starL (l.map (rowF TN))).holds w F → ∀ p ∈ l, p.1.oneCell' = true
  | [], _, _, _, _, h => by cases h
  | q :: t, w, F, ⟨F1, F2, h1, h2, _, _⟩, p, hp => by
    rcases List.mem_cons.1 hp with rfl | hp
    · exact rowO_one h1
    · exact rows_one TN t w F2 h2 p hp
/-- What only reads the list of listeners. -/
theorem rf_see {P : Program} {f : FuncId} {vs : Array Value} {T E TN : TypeId} {b : Nat} {S : List RS} {R : Value → Prop} {G : Ghost} {w : World} {F : Nat → Prop}
    (hc : ∀ (G' : Ghost) (lv : Value) (l : List (Value × RS)), GLe G G' → S = l.map Prod.snd → RowAt G' b 0 1 (at_ [lv]) → SlL G' lv 4 lstC l0 l → (∀ p ∈ l, p.1.oneCell' = true) → Has G' w → Calls P f vs w (Ret fun r w' => R r ∧ Since nX w w'))
    (hG : Has G w) (hA : (rfA T E TN b S).holds w F) (hF : ∀ b, F b → G b = none) : Calls P f vs w (Ret fun r w' => R r ∧ Kept (rfA T E TN b S) F w w') := by
  obtain ⟨l, hS, hA⟩ := hA
  refine (with_seen (H := robj T E 4 lstC b l) (A := starL (l.map (rowF TN))) (B := fun _ => starL (l.map (rowF TN))) (R := R) (S := fun G' => ∃ lv, RowAt G' b 0 1 (at_ [lv]) ∧ SlL G' lv 4 lstC l0 l) (fun F1 hM => robj_freeze (cells := lstC) l0 (fun _ => rfl) hM) (fun G' F' hle hS2 hG' hA' _ => ?_) hG hA hF).mono (fun e w' hR => ?_)
  · obtain ⟨lv, h1, h2⟩ := hS2
    refine (hc G' lv l hle hS h1 h2 (rows_one _ l w F' hA') hG').mono (fun e w' hR => ?_)
    cases e with
    | returned r => exact ⟨hR.1, ⟨hR.2.os, hR.2.tape, hR.2.output, hR.2.size, fun k hk _ => hR.2.block k hk id⟩, F', Asrt.frame _ hA' (fun b hb => hR.2.block b (Asrt.dom _ hA' hb) id), fun b hb => .inl hb⟩
    | panicked c => exact hR.elim
    | outgrown => exact hR.elim
  · cases e with
    | returned r => exact ⟨hR.1, hR.2.imp (fun w F h => ⟨l, hS, h⟩)⟩
    | panicked c => exact hR.elim
    | outgrown => exact hR.elim
/-! ### what the calls come to -/
def cntO (S : List RS) : Nat := (S.filter (·.2.2.1)).length
def thereR (S : List RS) (id : Int) : Bool := decide (1 ≤ id ∧ id ≤ (S.length : Int)) && (S.getD (id - 1).toNat rs0).2.2.1
def sendR1 (x : NV) (r : RS) : RS := if r.2.2.1 = true then (if r.2.2.2.length < r.1 then (r.1, r.2.1, true, r.2.2.2 ++ [x]) else (r.1, r.2.1 + 1, true, r.2.2.2)) else r
def haveR (S : List RS) : Nat := (S.filter fun r => r.2.2.1 && decide (r.2.2.2.length < r.1)).length
def erR (r : RS) : LS := (r.1, r.2.1, r.2.2.2.map (·.2))
theorem there_no {S : List RS} {id : Int} (h : ¬ (1 ≤ id ∧ id ≤ (S.length : Int))) : thereR S id = false := by unfold thereR; rw [decide_eq_false h, Bool.false_and]
theorem there_of {S : List RS} {id : Int} (h : thereR S id = true) : 1 ≤ id ∧ id ≤ (S.length : Int) ∧ (S.getD (id - 1).toNat rs0).2.2.1 = true := by
  unfold thereR at h
  rw [Bool.and_eq_true, decide_eq_true_eq] at h
  exact ⟨h.1.1, h.1.2, h.2⟩
theorem nv_head {x : NV} {t : List NV} (j : Nat) (h : j < 3) : ((x :: t).flatMap nvC)[j]? = some (at_ (nvC x) j) := by
  match j, h with
  | 0, _ => rfl
  | 1, _ => rfl
  | 2, _ => rfl
theorem getD_snd {l : List (Value × RS)} {i : Nat} (h : i < l.length) : (l.map Prod.snd).getD i rs0 = (l.getD i l0).2 := by simp [List.getD, List.getElem?_eq_getElem h]
theorem there_yes {l : List (Value × RS)} {id : Int} (h1 : 1 ≤ id) (h2 : id ≤ (l.length : Int)) : thereR (l.map Prod.snd) id = decide ((if (l.getD (id - 1).toNat l0).2.2.2.1 = true then (1 : Int) else 0) = 1) := by
  unfold thereR
  rw [decide_eq_true (by rw [List.length_map]; exact ⟨h1, h2⟩), Bool.true_and, getD_snd (by omega)]
  cases (l.getD (id - 1).toNat l0).2.2.2.1 <;> rfl
theorem map_take2 {l : List (Value × RS)} {j : Nat} (h : j < l.length) : (l.map Prod.snd).take (j + 1) = (l.map Prod.snd).take j ++ [(l.getD j l0).2] := by
  rw [List.take_succ_eq_append_getElem (by simpa using h)]
  simp [List.getD, List.getElem?_eq_getElem h]
/-- Those that are there, with their numbers. -/
def actF : Nat → List RS → List (Int × LS)
  | _, [] => []
  | n, r :: S => if r.2.2.1 = true then ((n : Int) + 1, erR r) :: actF (n + 1) S else actF (n + 1) S
theorem actF_len : ∀ (n : Nat) (S : List RS), (actF n S).length = cntO S
  | _, [] => rfl
  | n, r :: S => by
    rw [actF, cntO, List.filter_cons]
    have ih := actF_len (n + 1) S
    split
    · rw [List.length_cons, List.length_cons, ih]; rfl
    · exact ih
theorem actF_keys : ∀ (n : Nat) (S : List RS) (p : Int × LS), p ∈ actF n S → (n : Int) + 1 ≤ p.1 ∧ p.1 ≤ ((n + S.length : Nat) : Int)
  | _, [], _, h => by cases h
  | n, r :: S, p, h => by
    rw [actF] at h
    have ih := actF_keys (n + 1) S p
    rw [List.length_cons]
    split at h
    · rcases List.mem_cons.1 h with rfl | h
      · dsimp only; omega
      · have := ih h; omega
    · have := ih h; omega
theorem actF_nodup : ∀ (n : Nat) (S : List RS), ((actF n S).map (·.1)).Nodup
  | _, [] => List.nodup_nil
  | n, r :: S => by
    rw [actF]
    split
    · rw [List.map_cons, List.nodup_cons]
      refine ⟨fun h => ?_, actF_nodup (n + 1) S⟩
      obtain ⟨p, hp, he⟩ := List.mem_map.1 h
      have := (actF_keys (n + 1) S p hp).1
      simp only at he; omega
    · exact actF_nodup (n + 1) S
theorem actF_lkp : ∀ (n : Nat) (S : List RS) (i : Nat), i < S.length → lkp (actF n S) (((n + i : Nat) : Int) + 1) = if (S.getD i rs0).2.2.1 = true then some (erR (S.getD i rs0)) else none
  | _, [], _, h => absurd h (Nat.not_lt_zero _)
  | n, r :: S, 0, _ => by
    rw [actF, List.getD_cons_zero]
    split
    · rw [lkp, if_pos (by simp)]
    · cases e : lkp (actF (n + 1) S) ((n : Int) + 1) with
      | none => rfl
      | some v => have := (actF_keys (n + 1) S _ (lkp_some e)).1; simp only at this; omega
  | n, r :: S, i + 1, h => by
    have ih := actF_lkp (n + 1) S i (Nat.lt_of_succ_lt_succ h)
    rw [actF, List.getD_cons_succ, show n + (i + 1) = n + 1 + i by omega]
    split
    · rw [lkp, if_neg (by dsimp only; omega)]; exact ih
    · exact ih
theorem actF_out {S : List RS} {id : Int} (h : ¬ (1 ≤ id ∧ id ≤ (S.length : Int))) : lkp (actF 0 S) id = none := by
  cases e : lkp (actF 0 S) id with
  | none => rfl
  | some v => have := actF_keys 0 S _ (lkp_some e); simp only at this; omega
theorem actF_at {S : List RS} {id : Int} (h : thereR S id = true) : lkp (actF 0 S) id = some (erR (S.getD (id - 1).toNat rs0)) := by
  unfold thereR at h
  rw [Bool.and_eq_true, decide_eq_true_eq] at h
  have := actF_lkp 0 S (id - 1).toNat (by omega)
  rw [if_pos h.2, show (((0 + (id - 1).toNat : Nat) : Int) + 1) = id by omega] at this
  exact this
theorem actF_not {S : List RS} {id : Int} (h : thereR S id = false) : lkp (actF 0 S) id = none := by
  by_cases h1 : 1 ≤ id ∧ id ≤ (S.length : Int)
  · unfold thereR at h
    rw [decide_eq_true h1, Bool.true_and] at h
    have := actF_lkp 0 S (id - 1).toNat (by omega)
    rw [if_neg (by rw [h]; simp), show (((0 + (id - 1).toNat : Nat) : Int) + 1) = id by omega] at this
    exact this
  · exact actF_out h1
theorem erR_send (x : NV) (r : RS) (h : r.2.2.1 = true) : erR (sendR1 x r) = sendL x.2 (erR r) := by
  unfold sendR1 sendL erR
  rw [if_pos h]
  dsimp only
  rw [List.length_map]
  split
  · rw [List.map_append]; rfl
  · rfl
theorem sendR1_open (x : NV) (r : RS) : (sendR1 x r).2.2.1 = r.2.2.1 := by
  unfold sendR1
  split
  · rename_i h; split <;> exact h.symm
  · rfl
theorem actF_send (x : NV) : ∀ (n : Nat) (S : List RS), sendF x.2 (actF n S) = actF n (S.map (sendR1 x))
  | _, [] => rfl
  | n, r :: S => by
    rw [List.map_cons, actF, actF, sendR1_open]
    split
    · rename_i h
      rw [sendF, List.map_cons, erR_send x r h]
      exact congrArg _ (actF_send x (n + 1) S)
    · exact actF_send x (n + 1) S
theorem actF_have : ∀ (n : Nat) (S : List RS), haveF (actF n S) = haveR S
  | _, [] => rfl
  | n, r :: S => by
    have ih := actF_have (n + 1) S
    rw [actF, haveR, List.filter_cons]
    split
    · rename_i h
      rw [haveF, List.filter_cons, h, Bool.true_and]
      simp only [erR, List.length_map]
      split
      · rw [List.length_cons, List.length_cons]; exact congrArg (· + 1) ih
      · exact ih
    · rename_i h
      rw [if_neg (by simp [h])]; exact ih
theorem actF_set (r' : RS) (hr : r'.2.2.1 = true) : ∀ (n : Nat) (S : List RS) (i : Nat), i < S.length → (S.getD i rs0).2.2.1 = true → mput (actF n S) (((n + i : Nat) : Int) + 1) (erR r') = actF n (S.set i r')
  | _, [], _, h, _ => absurd h (Nat.not_lt_zero _)
  | n, r :: S, 0, _, h => by
    rw [List.getD_cons_zero] at h
    rw [actF, if_pos h, List.set_cons_zero, actF, if_pos hr, mput, if_pos (by simp)]; rfl
  | n, r :: S, i + 1, h, ho => by
    rw [List.getD_cons_succ] at ho
    have ih := actF_set r' hr (n + 1) S i (Nat.lt_of_succ_lt_succ h) ho
    rw [List.set_cons_succ, actF, actF, show n + (i + 1) = n + 1 + i by omega]
    split
    · rw [mput, if_neg (by dsimp only; omega), ih]
    · exact ih
theorem actF_close (r' : RS) (hr : r'.2.2.1 = false) : ∀ (n : Nat) (S : List RS) (i : Nat), i < S.length → (S.getD i rs0).2.2.1 = true → mdel (actF n S) (((n + i : Nat) : Int) + 1) = actF n (S.set i r')
  | _, [], _, h, _ => absurd h (Nat.not_lt_zero _)
  | n, r :: S, 0, _, h => by
    rw [List.getD_cons_zero] at h
    rw [actF, if_pos h, List.set_cons_zero, actF, if_neg (by rw [hr]; simp), mdel, if_pos (by simp)]
  | n, r :: S, i + 1, h, ho => by
    rw [List.getD_cons_succ] at ho
    have ih := actF_close r' hr (n + 1) S i (Nat.lt_of_succ_lt_succ h) ho
    rw [List.set_cons_succ, actF, actF, show n + (i + 1) = n + 1 + i by omega]
    split
    · rw [mdel, if_neg (by dsimp only; omega), ih]
    · exact ih
theorem actF_open (r' : RS) (hr : r'.2.2.1 = true) : ∀ (n : Nat) (S : List RS), mput (actF n S) (((n + S.length : Nat) : Int) + 1) (erR r') = actF n (S ++ [r'])
  | n, [] => by rw [List.nil_append, actF, actF, actF, if_pos hr]; rfl
  | n, r :: S => by
    have ih := actF_open r' hr (n + 1) S
    rw [List.cons_append, actF, actF, List.length_cons, show n + (S.length + 1) = n + 1 + S.length by omega]
    split
    · rw [mput, if_neg (by dsimp only; omega), ih]
    · exact ih
theorem put_c0 : ∀ {l : List (Value × RS)} {j : Nat}, j < l.length → ∀ (v : Value), putL (l.flatMap lstC) (j * 4 + 0) [v] = (l.set j (v, (l.getD j l0).2)).flatMap lstC
  | [], _, h, _ => by simp at h
  | x :: t, 0, _, v => by simp [putL, lstC]
  | x :: t, j + 1, h, v => by
    have ih := put_c0 (l := t) (j := j) (by simpa using h) v
    rw [show (j + 1) * 4 + 0 = j * 4 + 0 + 1 + 1 + 1 + 1 by omega]
    simp only [List.set_cons_succ, List.getD_cons_succ, List.flatMap_cons]
    rw [← ih]
    simp [putL, lstC]
theorem put_c2 : ∀ {l : List (Value × RS)} {j : Nat}, j < l.length → ∀ (v : Int), putL (l.flatMap lstC) (j * 4 + 2) [.int .i64 v] = (l.set j ((l.getD j l0).1, (l.getD j l0).2.1, v, (l.getD j l0).2.2.2)).flatMap lstC
  | [], _, h, _ => by simp at h
  | x :: t, 0, _, v => by simp [putL, lstC]
  | x :: t, j + 1, h, v => by
    have ih := put_c2 (l := t) (j := j) (by simpa using h) v
    rw [show (j + 1) * 4 + 2 = j * 4 + 2 + 1 + 1 + 1 + 1 by omega]
    simp only [List.set_cons_succ, List.getD_cons_succ, List.flatMap_cons]
    rw [← ih]
    simp [putL, lstC]
theorem put_c3 : ∀ {l : List (Value × RS)} {j : Nat}, j < l.length → ∀ (v : Bool), putL (l.flatMap lstC) (j * 4 + 3) [b01 v] = (l.set j ((l.getD j l0).1, (l.getD j l0).2.1, (l.getD j l0).2.2.1, v, (l.getD j l0).2.2.2.2)).flatMap lstC
  | [], _, h, _ => by simp at h
  | x :: t, 0, _, v => by simp [putL, lstC]
  | x :: t, j + 1, h, v => by
    have ih := put_c3 (l := t) (j := j) (by simpa using h) v
    rw [show (j + 1) * 4 + 3 = j * 4 + 3 + 1 + 1 + 1 + 1 by omega]
    simp only [List.set_cons_succ, List.getD_cons_succ, List.flatMap_cons]
    rw [← ih]
    simp [putL, lstC]
/-- A change of what waits alone leaves the cells. -/
theorem cells_its {v : Value} {r r' : RS} (h1 : r.1 = r'.1) (h2 : r.2.1 = r'.2.1) (h3 : r.2.2.1 = r'.2.2.1) : ∀ (l : List (Value × RS)) (j : Nat), (l.set j (v, r)).flatMap lstC = (l.set j (v, r')).flatMap lstC
  | [], _ => rfl
  | x :: t, 0 => by simp [lstC, h1, h2, h3]
  | x :: t, j + 1 => by
    simp only [List.set_cons_succ, List.flatMap_cons]
    rw [cells_its h1 h2 h3 t j]
theorem rfA_mk {T E TN : TypeId} {b : Nat} {S : List RS} {l : List (Value × RS)} {v : Value} (hS : S = l.map Prod.snd) {w : World} {F : Nat → Prop} (h : (starL [box b 1 T (at_ [v]), rowA v E 4 l.length (l.flatMap lstC), starL (l.map (rowF TN))]).holds w F) : (rfA T E TN b S).holds w F := by
  obtain ⟨F1, F2, h1, h2, h3, h4⟩ := (star_assoc _ _ _ w F).1 h
  exact ⟨l, hS, F1, F2, ⟨v, (starL_two w F1).2 h1⟩, h2, h3, h4⟩
theorem starL_one1 {A : Asrt} {w : World} {F : Nat → Prop} (h : (starL [A]).holds w F) : A.holds w F := by
  obtain ⟨F1, F2, h1, ⟨_, h2⟩, h3, h4⟩ := h
  have : F1 = F := funext fun b => propext ⟨fun hb => (h4 b).2 (.inl hb), fun hb => ((h4 b).1 hb).elim id (fun hb => (h2 b hb).elim)⟩
  rw [← this]; exact h1
theorem set_getD {l : List (Value × RS)} {i : Nat} (h : i < l.length) : l.set i (l.getD i l0) = l := by simp [List.getD, List.getElem?_eq_getElem h]
def sndL (x : NV) (S : List RS) (i : Nat) : List RS := (S.take i).map (sendR1 x) ++ S.drop i
theorem sndL_len (x : NV) (S : List RS) (i : Nat) : (sndL x S i).length = S.length := by unfold sndL; rw [List.length_append, List.length_map, List.length_take, List.length_drop]; omega
theorem sndL_get {x : NV} {S : List RS} {i : Nat} (h : i < S.length) : (sndL x S i).getD i rs0 = S.getD i rs0 := by
  unfold sndL
  simp [List.getD, List.getElem?_append, List.getElem?_drop, Nat.min_eq_left (Nat.le_of_lt h)]
theorem sndL_next {x : NV} {S : List RS} {i : Nat} (h : i < S.length) : (sndL x S i).set i (sendR1 x (S.getD i rs0)) = sndL x S (i + 1) := by
  apply List.ext_getElem?
  intro k
  rw [List.getElem?_set]
  unfold sndL
  simp only [List.getElem?_append, List.length_map, List.length_take, List.getElem?_map, List.getElem?_take, List.getElem?_drop, List.length_append, List.length_drop]
  rw [Nat.min_eq_left (Nat.le_of_lt h), Nat.min_eq_left (show i + 1 ≤ S.length by omega)]
  by_cases e : i = k
  · subst e
    simp [List.getD, List.getElem?_eq_getElem h]; omega
  · by_cases hk : k < i
    · simp [e, hk, show k < i + 1 by omega]
    · simp [e, hk, show ¬ k < i + 1 by omega]
      congr 1; omega
theorem sndL_same {x : NV} {S : List RS} {i : Nat} (h : i < S.length) (ho : ¬ (S.getD i rs0).2.2.1 = true) : sndL x S i = sndL x S (i + 1) := by
  rw [← sndL_next h, show sendR1 x (S.getD i rs0) = S.getD i rs0 from if_neg ho]
  apply List.ext_getElem?
  intro k
  rw [List.getElem?_set]
  split
  · rename_i e
    subst e
    rw [if_pos (by rw [sndL_len]; exact h)]
    have := sndL_get (x := x) h
    rw [← this]
    simp [List.getD, sndL_len, h]
  · rfl
theorem sndL_all (x : NV) (S : List RS) : sndL x S S.length = S.map (sendR1 x) := by unfold sndL; simp
theorem sndL_zero (x : NV) (S : List RS) : sndL x S 0 = S := by unfold sndL; simp
theorem haveR_next {S : List RS} {i : Nat} (h : i < S.length) : haveR (S.take (i + 1)) = haveR (S.take i) + (if ((S.getD i rs0).2.2.1 && decide ((S.getD i rs0).2.2.2.length < (S.getD i rs0).1)) = true then 1 else 0) := by
  rw [List.take_succ_eq_append_getElem h]
  unfold haveR
  rw [List.filter_append, List.length_append]
  simp only [List.getD, List.getElem?_eq_getElem h, Option.getD_some]
  congr 1
  rw [List.filter_cons]
  split <;> rfl
end Go.Gx.T22

/- The law of news, in plain words: what is kept behind the map answers as the document's list does. -/
namespace Go.Gx.T22
open Go.Gx Go.Gx.T21
/-- What is kept of the document's list. -/
def stF (S : List RS) : FS := (actF 0 S, (S.length : Int))
structure InvP (G : Ghost) (S : List RS) (i : Nat) : Prop where
  len : S.length ≤ i
  bnd : ∀ r ∈ S, r.1 ≤ 1000 ∧ 0 ≤ r.2.1 ∧ r.2.1 ≤ (i : Int)
  ids : ∀ r ∈ S, ∀ y ∈ r.2.2.2, SlL G y.1 1 cI (0 : Int) y.2.2.2 ∧ y.2.2.2.length ≤ 1000
theorem InvP.nil (G : Ghost) : InvP G [] 0 := ⟨Nat.le_refl _, by simp, by simp⟩
theorem InvP.mono {G G' : Ghost} {S : List RS} {i : Nat} (h : InvP G S i) (hle : GLe G G') : InvP G' S i := ⟨h.len, h.bnd, fun r hr y hy => ⟨(h.ids r hr y hy).1.mono hle, (h.ids r hr y hy).2⟩⟩
theorem InvP.grow {G : Ghost} {S : List RS} {i : Nat} (h : InvP G S i) : InvP G S (i + 1) := ⟨Nat.le_succ_of_le h.len, fun r hr => ⟨(h.bnd r hr).1, (h.bnd r hr).2.1, by have := (h.bnd r hr).2.2; omega⟩, h.ids⟩
theorem InvP.bnd2 {G : Ghost} {S : List RS} {i : Nat} (h : InvP G S i) (hi : i ≤ 1000) : ∀ r ∈ S, r.1 ≤ 1000 ∧ 0 ≤ r.2.1 ∧ r.2.1 ≤ 1000000 := fun r hr => ⟨(h.bnd r hr).1, (h.bnd r hr).2.1, by have := (h.bnd r hr).2.2; omega⟩
theorem stF_hk {S : List RS} : ∀ id x, lkp (stF S).1 id = some x → id ≤ (stF S).2 := fun id x e => by
  have := (actF_keys 0 S (id, x) (lkp_some e)).2
  simp only [Nat.zero_add] at this; exact this
theorem stF_hla {S : List RS} (h : S.length ≤ 1000) : 0 ≤ (stF S).2 ∧ (stF S).2 ≤ 1000000 := by unfold stF; dsimp only; omega
theorem stF_nd {S : List RS} : ((stF S).1.map (·.1)).Nodup := actF_nodup 0 S
theorem stF_ln {S : List RS} (h : S.length ≤ 1000) : (stF S).1.length ≤ 1000 := by
  show (actF 0 S).length ≤ 1000
  rw [actF_len]; exact Nat.le_trans (List.length_filter_le _ _) h
theorem actF_mem : ∀ (n : Nat) (S : List RS) (p : Int × LS), p ∈ actF n S → ∃ r ∈ S, p.2 = erR r
  | _, [], _, h => by cases h
  | n, r :: S, p, h => by
    rw [actF] at h
    have ih := actF_mem (n + 1) S p
    split at h
    · rcases List.mem_cons.1 h with rfl | h
      · exact ⟨r, by simp, rfl⟩
      · obtain ⟨q, hq, e⟩ := ih h; exact ⟨q, by simp [hq], e⟩
    · obtain ⟨q, hq, e⟩ := ih h; exact ⟨q, by simp [hq], e⟩
theorem InvP.hlb {G : Ghost} {S : List RS} {i : Nat} (h : InvP G S i) (hi : i ≤ 1000) : ∀ id x, lkp (stF S).1 id = some x → 0 ≤ x.2.1 ∧ x.2.1 ≤ 1000000 := fun id x e => by
  obtain ⟨r, hr, h2⟩ := actF_mem 0 S _ (lkp_some e)
  have := h.bnd2 hi r hr
  rw [show x = erR r from h2]; exact this.2
/-! ### Open -/
def openRI (S : List RS) (room : Int) : Int := if room < 1 ∨ 1000 < room then 0 else if 16 ≤ cntO S then 0 else (S.length : Int) + 1
def openRE (S : List RS) (room : Int) : Int := if room < 1 ∨ 1000 < room then 13 else if 16 ≤ cntO S then 15 else 0
def openR (S : List RS) (room : Int) : List RS := if room < 1 ∨ 1000 < room then S else if 16 ≤ cntO S then S else S ++ [(room.toNat, 0, true, [])]
theorem len16 {S : List RS} : (16 ≤ ((stF S).1.length : Int)) ↔ 16 ≤ cntO S := by
  show (16 ≤ ((actF 0 S).length : Int)) ↔ _
  rw [actF_len]; omega
theorem openI_R {S : List RS} {room : Int} : openI (stF S) room = openRI S room := by
  unfold openI openRI
  simp only [len16]; rfl
theorem openE_R {S : List RS} {room : Int} : openE (stF S) room = openRE S room := by
  unfold openE openRE
  simp only [len16]
theorem openS_R {S : List RS} {room : Int} : openS (stF S) room = stF (openR S room) := by
  unfold openS openR
  simp only [len16]
  split
  · rfl
  · split
    · rfl
    · unfold stF
      rw [List.length_append]
      have := actF_open ((room.toNat, 0, true, []) : RS) rfl 0 S
      rw [Nat.zero_add] at this
      rw [← this]
      simp [erR]
theorem InvP.open_ {G : Ghost} {S : List RS} {i : Nat} (h : InvP G S i) (room : Int) : InvP G (openR S room) (i + 1) := by
  unfold openR
  split
  · exact h.grow
  · split
    · exact h.grow
    · rename_i h1 _
      have hg := h.grow
      refine ⟨by rw [List.length_append]; exact Nat.succ_le_succ h.len, fun r hr => ?_, fun r hr => ?_⟩
      · rcases List.mem_append.1 hr with hr | hr
        · exact hg.bnd r hr
        · rw [List.mem_singleton.1 hr]; dsimp only; omega
      · rcases List.mem_append.1 hr with hr | hr
        · exact hg.ids r hr
        · rw [List.mem_singleton.1 hr]; simp
/-! ### Close -/
def clsR (S : List RS) (k : Nat) : List RS := S.set k ((S.getD k rs0).1, (S.getD k rs0).2.1, false, (S.getD k rs0).2.2.2)
theorem cls_R {S : List RS} {k : Nat} (h : thereR S ((k : Int) + 1) = true) : (mdel (stF S).1 ((k : Int) + 1), (stF S).2) = stF (clsR S k) := by
  obtain ⟨h1, h2, h3⟩ := there_of h
  rw [show ((k : Int) + 1 - 1).toNat = k by omega] at h3
  unfold stF clsR
  rw [List.length_set]
  have := actF_close ((S.getD k rs0).1, (S.getD k rs0).2.1, false, (S.getD k rs0).2.2.2) rfl 0 S k (by omega) h3
  rw [Nat.zero_add] at this
  rw [← this]
theorem cls_N {S : List RS} {id : Int} (h : thereR S id = false) : (mdel (stF S).1 id, (stF S).2) = stF S := by
  unfold stF
  rw [mdel_none (actF_not h)]
theorem mem_set {S : List RS} {k : Nat} {q r : RS} (h : r ∈ S.set k q) : r ∈ S ∨ r = q := List.mem_or_eq_of_mem_set h
theorem getD_memR {S : List RS} {k : Nat} (h : k < S.length) : S.getD k rs0 ∈ S := by simp [List.getD, List.getElem?_eq_getElem h]
theorem InvP.set {G : Ghost} {S : List RS} {i k : Nat} (h : InvP G S i) (hk : k < S.length) (o : Bool) (t : List NV) (ht : ∀ y ∈ t, y ∈ (S.getD k rs0).2.2.2) : InvP G (S.set k ((S.getD k rs0).1, (S.getD k rs0).2.1, o, t)) i := by
  refine ⟨by rw [List.length_set]; exact h.len, fun r hr => ?_, fun r hr y hy => ?_⟩
  · rcases mem_set hr with hr | rfl
    · exact h.bnd r hr
    · exact h.bnd (S.getD k rs0) (getD_memR hk)
  · rcases mem_set hr with hr | rfl
    · exact h.ids r hr y hy
    · exact h.ids _ (getD_memR hk) y (ht y hy)
theorem InvP.cls {G : Ghost} {S : List RS} {i k : Nat} (h : InvP G S i) (hk : k < S.length) : InvP G (clsR S k) (i + 1) := (h.set hk false _ (fun _ hy => hy)).grow
/-! ### Send -/
theorem send_R {S : List RS} {x : NV} : (sendF x.2 (stF S).1, (stF S).2) = stF (S.map (sendR1 x)) := by
  unfold stF
  rw [List.length_map]
  exact congrArg (fun z => (z, (S.length : Int))) (actF_send x 0 S)
theorem have_R {S : List RS} : haveF (stF S).1 = haveR S := actF_have 0 S
theorem InvP.send {G : Ghost} {S : List RS} {i : Nat} (h : InvP G S i) {x : NV} (hx : SlL G x.1 1 cI (0 : Int) x.2.2.2) (hl : x.2.2.2.length ≤ 1000) : InvP G (S.map (sendR1 x)) (i + 1) := by
  refine ⟨by rw [List.length_map]; exact Nat.le_succ_of_le h.len, fun r hr => ?_, fun r hr y hy => ?_⟩
  · obtain ⟨q, hq, rfl⟩ := List.mem_map.1 hr
    have := h.bnd q hq
    unfold sendR1
    split
    · split <;> (dsimp only; omega)
    · omega
  · obtain ⟨q, hq, rfl⟩ := List.mem_map.1 hr
    have := h.ids q hq
    unfold sendR1 at hy
    split at hy
    · split at hy
      · rcases List.mem_append.1 hy with hy | hy
        · exact this y hy
        · rw [List.mem_singleton.1 hy]; exact ⟨hx, hl⟩
      · exact this y hy
    · exact this y hy
/-! ### Take -/
theorem take_case (S : List RS) (id : Int) : (∃ (k : Nat) (x : NV) (t : List NV), id = (k : Int) + 1 ∧ k < S.length ∧ thereR S id = true ∧ (S.getD k rs0).2.2.2 = x :: t) ∨ (thereR S id = true → (S.getD (id - 1).toNat rs0).2.2.2 = []) := by
  by_cases h : thereR S id = true
  · obtain ⟨h1, h2, h3⟩ := there_of h
    cases e : (S.getD (id - 1).toNat rs0).2.2.2 with
    | nil => exact .inr fun _ => rfl
    | cons x t => exact .inl ⟨(id - 1).toNat, x, t, by omega, by omega, h, e⟩
  · exact .inr fun h2 => absurd h2 h
def tkR (S : List RS) (k : Nat) (t : List NV) : List RS := S.set k ((S.getD k rs0).1, (S.getD k rs0).2.1, (S.getD k rs0).2.2.1, t)
theorem tk_at {S : List RS} {k : Nat} {x : NV} {t : List NV} (h : thereR S ((k : Int) + 1) = true) (hit : (S.getD k rs0).2.2.2 = x :: t) : lkp (stF S).1 ((k : Int) + 1) = some ((S.getD k rs0).1, (S.getD k rs0).2.1, x.2 :: t.map (·.2)) := by
  have := actF_at h
  rw [show ((k : Int) + 1 - 1).toNat = k by omega] at this
  rw [show (stF S).1 = actF 0 S from rfl, this, erR, hit]; rfl
theorem tk_R {S : List RS} {k : Nat} {t : List NV} (h : thereR S ((k : Int) + 1) = true) : (mput (stF S).1 ((k : Int) + 1) ((S.getD k rs0).1, (S.getD k rs0).2.1, t.map (·.2)), (stF S).2) = stF (tkR S k t) := by
  obtain ⟨h1, h2, h3⟩ := there_of h
  rw [show ((k : Int) + 1 - 1).toNat = k by omega] at h3
  unfold stF tkR
  rw [List.length_set]
  have := actF_set ((S.getD k rs0).1, (S.getD k rs0).2.1, (S.getD k rs0).2.2.1, t) h3 0 S k (by omega) h3
  rw [Nat.zero_add] at this
  rw [← this]; rfl
theorem InvP.tk {G : Ghost} {S : List RS} {i k : Nat} {x : NV} {t : List NV} (h : InvP G S i) (hk : k < S.length) (hit : (S.getD k rs0).2.2.2 = x :: t) : InvP G (tkR S k t) (i + 1) := (h.set hk _ t (fun y hy => by rw [hit]; simp [hy])).grow
theorem tk_none {S : List RS} {id : Int} (h : thereR S id = true → (S.getD (id - 1).toNat rs0).2.2.2 = []) : ((lkp (stF S).1 id).map fun x => x.2.2).getD [] = [] := by
  by_cases e : thereR S id = true
  · rw [show (stF S).1 = actF 0 S from rfl, actF_at e, erR, h e]; rfl
  · rw [show (stF S).1 = actF 0 S from rfl, actF_not (by simpa using e)]; rfl
/-! ### what waits, what is lost -/
theorem wait_R {S : List RS} {k : Nat} (h : thereR S ((k : Int) + 1) = true) : (((lkp (stF S).1 ((k : Int) + 1)).map fun x => x.2.2.length).getD 0 = (S.getD k rs0).2.2.2.length) ∧ (((lkp (stF S).1 ((k : Int) + 1)).map fun x => x.2.1).getD 0 = (S.getD k rs0).2.1) := by
  have := actF_at h
  rw [show ((k : Int) + 1 - 1).toNat = k by omega] at this
  rw [show (stF S).1 = actF 0 S from rfl, this]
  simp [erR]
theorem wait_N {S : List RS} {id : Int} (h : thereR S id = false) : ((lkp (stF S).1 id).map fun x => x.2.2.length).getD 0 = 0 ∧ ((lkp (stF S).1 id).map fun x => x.2.1).getD 0 = 0 := by
  rw [show (stF S).1 = actF 0 S from rfl, actF_not h]; exact ⟨rfl, rfl⟩
theorem len_R {S : List RS} : (stF S).1.length = cntO S := actF_len 0 S
/-! ### the same, the number told apart -/
theorem cls_R2 {S : List RS} {id : Int} {k : Nat} (h : thereR S id = true) (hN : id = (k : Int) + 1) : (mdel (stF S).1 id, (stF S).2) = stF (clsR S k) := by subst hN; exact cls_R h
theorem is_R {S : List RS} {id : Int} (h : thereR S id = true) : (lkp (stF S).1 id).isSome = true := by rw [show (stF S).1 = actF 0 S from rfl, actF_at h]; rfl
theorem is_N {S : List RS} {id : Int} (h : thereR S id = false) : ¬ (lkp (stF S).1 id).isSome = true := by rw [show (stF S).1 = actF 0 S from rfl, actF_not h]; simp
theorem tk_at2 {S : List RS} {id : Int} {k : Nat} {x : NV} {t : List NV} (h : thereR S id = true) (hN : id = (k : Int) + 1) (hit : (S.getD k rs0).2.2.2 = x :: t) : lkp (stF S).1 id = some ((S.getD k rs0).1, (S.getD k rs0).2.1, x.2 :: t.map (·.2)) := by subst hN; exact tk_at h hit
theorem tk_R2 {S : List RS} {id : Int} {k : Nat} {t : List NV} (h : thereR S id = true) (hN : id = (k : Int) + 1) : (mput (stF S).1 id ((S.getD k rs0).1, (S.getD k rs0).2.1, t.map (·.2)), (stF S).2) = stF (tkR S k t) := by subst hN; exact tk_R h
theorem wait_R2 {S : List RS} {id : Int} {k : Nat} (h : thereR S id = true) (hN : id = (k : Int) + 1) : (((lkp (stF S).1 id).map fun x => x.2.2.length).getD 0 = (S.getD k rs0).2.2.2.length) ∧ (((lkp (stF S).1 id).map fun x => x.2.1).getD 0 = (S.getD k rs0).2.1) := by subst hN; exact wait_R h
theorem there_k {S : List RS} {id : Int} (h : thereR S id = true) : ∃ k : Nat, id = (k : Int) + 1 ∧ k < S.length := by
  obtain ⟨h1, h2, _⟩ := there_of h
  exact ⟨(id - 1).toNat, by omega, by omega⟩
theorem rows_set {TN : TypeId} {l : List (Value × RS)} {k : Nat} {y : Value × RS} (h : rowF TN y = rowF TN (l.getD k l0)) : (l.set k y).map (rowF TN) = l.map (rowF TN) := by
  apply List.ext_getElem?
  intro i
  rw [List.map_set, List.getElem?_set]
  split
  · rename_i e
    subst e
    split
    · rename_i hk
      rw [List.length_map] at hk
      rw [h]
      simp [List.getD, List.getElem?_eq_getElem hk]
    · rename_i hk
      rw [List.length_map] at hk
      simp [List.getElem?_eq_none (Nat.le_of_not_lt hk)]
  · rfl
/-! ### the object is opened, and closed -/
section
variable {P : Program} {ops : Array Oper} {Q : Exit → Act → World → Prop} {N : Nat} {X : Nat → Prop} {w0 w : World} {G : Ghost} {fr : List (Nat × Value)} {rest : List Oper} {e : Exit} {L : List Asrt} {T E TN : TypeId} {b : Nat} {S : List RS} {l : List (Value × RS)} {v : Value} {f : Nat → Value}
theorem Mem.rfclose (hS : S = l.map Prod.snd) (h : Mem X w0 G w (box b 1 T (at_ [v]) :: rowA v E 4 l.length (l.flatMap lstC) :: starL (l.map (rowF TN)) :: L)) : Mem X w0 G w (rfA T E TN b S :: L) := by
  have h2 := Mem.pack (Ls := [box b 1 T (at_ [v]), rowA v E 4 l.length (l.flatMap lstC), starL (l.map (rowF TN))]) h
  exact ⟨h2.since, h2.has, h2.sep.one (fun F hF => rfA_mk hS hF)⟩
theorem r_rfclose (hS : S = l.map Prod.snd) (h : Runs P ops Q N X w0 G rest fr (rfA T E TN b S :: L)) : Runs P ops Q N X w0 G rest fr (box b 1 T (at_ [v]) :: rowA v E 4 l.length (l.flatMap lstC) :: starL (l.map (rowF TN)) :: L) :=
  fun a w hs => h a w ⟨hs.fr, Mem.rfclose hS hs.mem⟩
theorem e_rfclose (hS : S = l.map Prod.snd) (h : ERuns Q e N X w0 G fr (rfA T E TN b S :: L)) : ERuns Q e N X w0 G fr (box b 1 T (at_ [v]) :: rowA v E 4 l.length (l.flatMap lstC) :: starL (l.map (rowF TN)) :: L) :=
  fun a w hs => h a w ⟨hs.fr, Mem.rfclose hS hs.mem⟩
theorem rfA_new {F : Nat → Prop} (hf : f 0 = .slice none 0 0) (h : (box b 1 T f).holds w F) : (rfA T E TN b []).holds w F := by
  refine ⟨[], rfl, pure_inR (A := robj T E 4 lstC b []) ⟨.slice none 0 0, (starL_two w F).2 ⟨F, fun _ => False, box_congr (fun i hi => by match i, hi with | 0, _ => exact hf) _ _ h, ⟨World.ownsRow_nil w 0 E 4, fun k => by simp [Value.ownBlock], Nat.zero_le _⟩, fun _ _ h => h, fun b => ⟨.inl, fun h => h.elim id False.elim⟩⟩⟩⟩
end
abbrev O21 := Int × Int × NE
def opC (p : O21 × Value) : List Value := [.int .i64 p.1.1, .int .i64 p.1.2.1, .bool p.1.2.2.1, .string p.1.2.2.2.1, p.2]
def o0 : O21 × Value := ((0, 0, (false, ByteArray.empty, [])), .slice none 0 0)
end Go.Gx.T22

/- Walks: what Go functions of this chapter come to, each as a function on plain data; no condition but those that each theorem names. Printed by a program of this work (gen.py). -/
namespace Go.Proofs.Ytplefabpplfjbaa
open Go.Gx Go.Gx.T20 Go.Gx.T21 Go.Gx.T22 Go.Gx.T6 Go.Gx.T4 Go.Gx.T20 Go.Gx.T21 Go.Gx.T6 Go.Gx.T4 Go.Gx.T21 Go.Gx.T6 Go.Gx.T4
theorem sz45 : SzIs Try.prog 45 1 := by
 unfold SzIs
 kernel_rfl
theorem sz55 : SzIs Try.prog 55 4 := by
 unfold SzIs
 kernel_rfl
theorem zr55 : ZeroIs Try.prog 55 (Value.agg #[Value.slice none 0 0, Value.int .i64 0, Value.int .i64 0, Value.int .i64 0]) := by
 unfold ZeroIs
 kernel_rfl
theorem cntO_take (l : List (Value × RS)) (j : Nat) (h : j < l.length) : cntO ((l.map Prod.snd).take (j + 1)) = cntO ((l.map Prod.snd).take j) + (if (l.getD j l0).2.2.2.1 = true then 1 else 0) := by rw [map_take2 h]; unfold cntO; rw [List.filter_append, List.length_append]; congr 1; rw [List.filter_cons]; split <;> rfl
theorem cntO_le (S : List RS) : cntO S ≤ S.length := List.length_filter_le _ _
theorem c_xlen (b : Nat) (lv : Value) (S : List RS) (l : List (Value × RS)) {G : Ghost} (hS : S = l.map Prod.snd) (hR : RowAt G b 0 1 (at_ [lv])) (hL : SlL G lv 4 lstC l0 l) (ho : ∀ p ∈ l, p.1.oneCell' = true) (hn : l.length ≤ 1000) (w : World) (hG : Has G w) :
  Calls Try.prog 23 #[Value.pointer (some ⟨b, 0, none⟩)] w (Ret fun r w' => r = Value.int .i64 (cntO S : Nat) ∧ Since nX w w') := by
 refine enter (args := [_]) (X := nX) (G := G) (l := [(0, Value.pointer (some ⟨b, 0, none⟩))]) Try.func23 rfl Try.ntmps23 hG ⟨rfl, trivial⟩ (Nat.le_of_ble_eq_true rfl) ?_
 refine c_seq ?_
 refine c_region ?_
 refine r_val .none rfl (p_assign rfl) ?_
 refine r_nil ?_
 refine e_next ?_
 refine c_seq ?_
 refine c_region ?_
 refine r_val .none rfl (p_assign rfl) ?_
 refine r_nil ?_
 refine e_next ?_
 refine c_seq ?_
 refine c_seq ?_
 refine c_region ?_
 refine r_val .none rfl (p_move rfl) ?_
 refine r_val .none rfl (p_nilcheck rfl) ?_
 refine r_val .none rfl (p_field Try.underlying47 rfl sz45 rfl) ?_
 refine r_val .none rfl (p_ldg (j := 0) Try.underlying45 rfl rfl hR (by first | exact of_decide_eq_true rfl | omega) rfl) ?_
 refine r_val .none rfl (p_leng Try.underlying45 rfl hL) ?_
 have bd_1 := (hL).bound
 refine r_val .none rfl (p_move rfl) ?_
 refine r_nil ?_
 refine e_next ?_
 refine c_block ?_
 refine c_name (d := 2) rfl (fun u_2 hu_2 => ?_)
 refine c_name (d := 9) rfl (fun u_3 hu_3 => ?_)
 refine c_name (d := 10) rfl (fun u_4 hu_4 => ?_)
 refine c_loop (σ := Nat) (fun j => [(11, Value.int .i64 (j : Nat)), (3, Value.int .i64 (cntO ((l.map Prod.snd).take j) : Nat)), (2, u_2), (9, u_3), (10, u_4)]) (fun j => []) (fun _ => _) (fun j => j ≤ l.length) (fun j => l.length - j) (0) (Nat.zero_le _) rfl ⟨rfl, rfl, rfl, rfl, rfl, trivial⟩ (.nil) (fun j hphi => ?_)
 subst hu_2
 subst hu_3
 subst hu_4
 have hct := cntO_le ((l.map Prod.snd).take j)
 rw [List.length_take] at hct
 refine c_seq ?_
 refine c_region ?_
 refine r_val .none rfl (p_lt rfl rfl) ?_
 refine r_nil ?_
 refine e_next ?_
 refine c_seq ?_
 refine c_splitd (d := 12) rfl (fun h_5 => ?_) (fun h_5 => ?_)
 ·
  first
   | (exfalso; omega)
   | (
    refine c_cond_t rfl ?_
    refine c_skip ?_
    refine e_next ?_
    refine c_seq ?_
    refine c_block ?_
    refine c_seq ?_
    refine c_region ?_
    refine r_iaddr_g .none rfl Try.underlying45 sz55 rfl hL rfl (by first | exact of_decide_eq_true rfl | omega) (fun p_7 o_8 R_6 => ?_)
    have ho_9 := ho _ (getD_mem (i := j) (d := l0) (by omega))
    refine r_val .none rfl (p_ldga0 Try.underlying55 rfl sz55 rfl R_6 (by first | exact of_decide_eq_true rfl | omega) (rfl : _ = Value.agg #[_, _, _, _])) ?_
    refine r_alloc .none rfl zr55 (IsRow.lit _) (fun b_1 => ?_)
    refine r_stw (k := 0) .none sz55 rfl rfl (IsRow.lit _) (one_lit rfl (all_cons ho_9 (all_cons rfl (all_cons rfl (all_cons rfl rfl))))) rfl ?_
    refine r_nil ?_
    refine e_next ?_
    refine c_region ?_
    refine r_val .none rfl (p_move rfl) ?_
    refine r_val .none rfl (p_field Try.underlying55 rfl sz3 rfl) ?_
    refine r_val .none rfl (p_ld (k := 0) Try.underlying3 rfl rfl rfl (by first | exact of_decide_eq_true rfl | omega) (rfl : _ = Value.int _ _)) ?_
    refine r_val .none rfl (p_add rfl rfl (by have h9 : (if (l.getD j l0).2.2.2.1 = true then (1 : Int) else 0) ≤ 1 ∧ 0 ≤ (if (l.getD j l0).2.2.2.1 = true then (1 : Int) else 0) := (by cases (l.getD j l0).2.2.2.1 <;> decide); omega)) ?_
    refine r_val .none rfl (p_assign rfl) ?_
    refine r_nil ?_
    refine e_norm_block ?_
    refine e_next ?_
    refine c_region ?_
    refine r_val .none rfl (p_add rfl rfl (by omega)) ?_
    refine r_val .none rfl (p_move rfl) ?_
    refine r_nil ?_
    refine e_round (j + 1) ⟨by omega, by omega⟩ rfl ⟨rfl, (congrArg (fun z => some (Value.int .i64 z)) (by rw [cntO_take l j (by omega)]; split <;> simp)), rfl, rfl, rfl, trivial⟩ (.drop (.nil))
    )
 ·
  first
   | (exfalso; omega)
   | (
    refine c_cond_f rfl ?_
    refine c_exit ?_
    refine e_exit_then ?_
    refine e_exit_then ?_
    refine e_exit_block ?_
    refine e_next ?_
    refine c_seq ?_
    refine c_region ?_
    refine r_val .none rfl (p_move rfl) ?_
    refine r_val .none rfl (p_assign rfl) ?_
    refine r_nil ?_
    refine e_next ?_
    refine c_ret ?_
    refine e_ret1 Try.results23 (.tmp rfl .nil) (fun w hm => ⟨?_, hm.since⟩)
    (rw [hS, List.take_of_length_le (by rw [List.length_map]; omega)])
    )
theorem c_xthere (b : Nat) (lv : Value) (S : List RS) (l : List (Value × RS)) {G : Ghost} (id : Int) (hS : S = l.map Prod.snd) (hR : RowAt G b 0 1 (at_ [lv])) (hL : SlL G lv 4 lstC l0 l) (ho : ∀ p ∈ l, p.1.oneCell' = true) (w : World) (hG : Has G w) :
  Calls Try.prog 16 #[Value.pointer (some ⟨b, 0, none⟩), Value.int .i64 id] w (Ret fun r w' => r = Value.bool (thereR S id) ∧ Since nX w w') := by
 refine enter (args := [_, _]) (X := nX) (G := G) (l := [(0, Value.pointer (some ⟨b, 0, none⟩)), (1, Value.int .i64 id)]) Try.func16 rfl Try.ntmps16 hG ⟨rfl, rfl, trivial⟩ (Nat.le_of_ble_eq_true rfl) ?_
 refine c_seq ?_
 refine c_region ?_
 refine r_val .none rfl (p_assign rfl) ?_
 refine r_nil ?_
 refine e_next ?_
 refine c_seq ?_
 refine c_region ?_
 refine r_val .none rfl (p_move rfl) ?_
 refine r_val .none rfl (p_ge rfl rfl) ?_
 refine r_val .none rfl (p_move rfl) ?_
 refine r_splitd (d := 7) rfl (fun h_1 => ?_) (fun h_1 => ?_)
 ·
  first
   | (exfalso; omega)
   | (
    refine r_val (.some rfl rfl) rfl (p_move rfl) ?_
    refine r_val (.some rfl rfl) rfl (p_move rfl) ?_
    refine r_val (.some rfl rfl) rfl (p_nilcheck rfl) ?_
    refine r_val (.some rfl rfl) rfl (p_field Try.underlying47 rfl sz45 rfl) ?_
    refine r_val (.some rfl rfl) rfl (p_ldg (j := 0) Try.underlying45 rfl rfl hR (by first | exact of_decide_eq_true rfl | omega) rfl) ?_
    refine r_val (.some rfl rfl) rfl (p_leng Try.underlying45 rfl hL) ?_
    have bd_2 := (hL).bound
    refine r_val (.some rfl rfl) rfl (p_le rfl rfl) ?_
    refine r_val .none rfl (p_pick_t rfl rfl) ?_
    refine r_val .none rfl (p_move rfl) ?_
    refine r_splitd (d := 16) rfl (fun h_3 => ?_) (fun h_3 => ?_)
    ·
     first
      | (exfalso; omega)
      | (
       refine r_val (.some rfl rfl) rfl (p_move rfl) ?_
       refine r_val (.some rfl rfl) rfl (p_nilcheck rfl) ?_
       refine r_val (.some rfl rfl) rfl (p_field Try.underlying47 rfl sz45 rfl) ?_
       refine r_val (.some rfl rfl) rfl (p_ldg (j := 0) Try.underlying45 rfl rfl hR (by first | exact of_decide_eq_true rfl | omega) rfl) ?_
       refine r_val (.some rfl rfl) rfl (p_move rfl) ?_
       refine r_val (.some rfl rfl) rfl (p_sub rfl rfl (by omega)) ?_
       rw [show id - 1 = (((id - 1).toNat : Nat) : Int) by omega]
       refine r_iaddr_g (.some rfl rfl) rfl Try.underlying45 sz55 rfl hL rfl (by first | exact of_decide_eq_true rfl | omega) (fun p_5 o_6 R_4 => ?_)
       have ho_7 := ho _ (getD_mem (i := ((id - 1).toNat)) (d := l0) (by omega))
       refine r_val (.some rfl rfl) rfl (p_field Try.underlying55 rfl sz3 rfl) ?_
       refine r_val (.some rfl rfl) rfl (p_ldg (j := 3) Try.underlying3 rfl rfl R_4 (by first | exact of_decide_eq_true rfl | omega) (rfl : _ = Value.int _ _)) ?_
       refine r_val (.some rfl rfl) rfl (p_eq rfl rfl) ?_
       refine r_val .none rfl (p_pick_t rfl rfl) ?_
       refine r_val .none rfl (p_assign rfl) ?_
       refine r_nil ?_
       refine e_next ?_
       refine c_ret ?_
       refine e_ret1 Try.results16 (.tmp rfl .nil) (fun w hm => ⟨?_, hm.since⟩)
       first
       | (rw [there_no (by rw [hS, List.length_map]; omega)]; done)
       | (rw [hS, there_yes (by omega) (by omega)]; done)
       )
    ·
     first
      | (exfalso; omega)
      | (
       refine r_skip rfl (.no rfl rfl) ?_
       refine r_skip rfl (.no rfl rfl) ?_
       refine r_skip rfl (.no rfl rfl) ?_
       refine r_skip rfl (.no rfl rfl) ?_
       refine r_skip rfl (.no rfl rfl) ?_
       refine r_skip rfl (.no rfl rfl) ?_
       refine r_skip rfl (.no rfl rfl) ?_
       refine r_skip rfl (.no rfl rfl) ?_
       refine r_skip rfl (.no rfl rfl) ?_
       refine r_skip rfl (.no rfl rfl) ?_
       refine r_val .none rfl (p_pick_f rfl rfl) ?_
       refine r_val .none rfl (p_assign rfl) ?_
       refine r_nil ?_
       refine e_next ?_
       refine c_ret ?_
       refine e_ret1 Try.results16 (.tmp rfl .nil) (fun w hm => ⟨?_, hm.since⟩)
       first
       | (rw [there_no (by rw [hS, List.length_map]; omega)]; done)
       | (rw [hS, there_yes (by omega) (by omega)]; done)
       )
    )
 ·
  first
   | (exfalso; omega)
   | (
    refine r_skip rfl (.no rfl rfl) ?_
    refine r_skip rfl (.no rfl rfl) ?_
    refine r_skip rfl (.no rfl rfl) ?_
    refine r_skip rfl (.no rfl rfl) ?_
    refine r_skip rfl (.no rfl rfl) ?_
    refine r_skip rfl (.no rfl rfl) ?_
    refine r_skip rfl (.no rfl rfl) ?_
    refine r_val .none rfl (p_pick_f rfl rfl) ?_
    refine r_val .none rfl (p_move rfl) ?_
    refine r_skip rfl (.no rfl rfl) ?_
    refine r_skip rfl (.no rfl rfl) ?_
    refine r_skip rfl (.no rfl rfl) ?_
    refine r_skip rfl (.no rfl rfl) ?_
    refine r_skip rfl (.no rfl rfl) ?_
    refine r_skip rfl (.no rfl rfl) ?_
    refine r_skip rfl (.no rfl rfl) ?_
    refine r_skip rfl (.no rfl rfl) ?_
    refine r_skip rfl (.no rfl rfl) ?_
    refine r_skip rfl (.no rfl rfl) ?_
    refine r_val .none rfl (p_pick_f rfl rfl) ?_
    refine r_val .none rfl (p_assign rfl) ?_
    refine r_nil ?_
    refine e_next ?_
    refine c_ret ?_
    refine e_ret1 Try.results16 (.tmp rfl .nil) (fun w hm => ⟨?_, hm.since⟩)
    first
    | (rw [there_no (by rw [hS, List.length_map]; omega)]; done)
    | (rw [hS, there_yes (by omega) (by omega)]; done)
    )
theorem c_fclose {F : Nat → Prop} {G : Ghost} (p : Nat) (id : Int) (s : FS)  (w : World) (hG : Has G w) (hA : (feedA 69 73 3 p s).holds w F) (hFG : ∀ b, F b → G b = none) :
  Calls Try.prog 17 #[Value.pointer (some ⟨p, 0, none⟩), Value.int .i64 id] w (Ret fun r w' => r = Value.int .i64 (if (lkp s.1 id).isSome = true then 0 else 16) ∧ Kept (feedA 69 73 3 p (mdel s.1 id, s.2)) F w w') := by
 refine enterO (args := [_, _]) (G := G) (A := feedA 69 73 3 p s) (l := [(0, Value.pointer (some ⟨p, 0, none⟩)), (1, Value.int .i64 id)]) Try.func17 rfl Try.ntmps17 hG hA hFG ⟨rfl, rfl, trivial⟩ (Nat.le_of_ble_eq_true rfl) ?_
 refine c_unex (fun z => ?_)
 obtain ⟨m, l⟩ := z
 refine c_unand (fun hc => ?_)
 dsimp only at hc ⊢
 refine c_unpack ?_
 refine c_seq ?_
 refine c_region ?_
 refine r_val .none rfl (p_assign rfl) ?_
 refine r_nil ?_
 refine e_next ?_
 refine c_seq ?_
 refine c_seq ?_
 refine c_region ?_
 refine r_val .none rfl (p_move rfl) ?_
 refine r_val .none rfl (p_nilcheck rfl) ?_
 refine r_val .none rfl (p_field Try.underlying69 rfl sz67 rfl) ?_
 refine r_val .none rfl (p_ld (k := 0) Try.underlying67 rfl rfl rfl (by first | exact of_decide_eq_true rfl | omega) (rfl : _ = Value.map _)) ?_
 refine r_val .none rfl (p_move rfl) ?_
 rcases hN : lkp l id with _ | ⟨b, c, cap, lost, its⟩
 ·
  refine r_val .none rfl (p_lookup_no (i := 1) Try.underlying67 (KeyT.int Try.underlying3) zr70 rfl rfl rfl hN) ?_
  refine r_val .none rfl (p_eq_ptr Try.underlying70 (by first | exact .inr rfl | exact .inl rfl) rfl rfl) ?_
  refine r_say (d := 11) (v := Value.bool true) rfl ?_
  refine r_nil ?_
  refine e_next ?_
  refine c_cond_t rfl ?_
  refine c_seq ?_
  refine c_region ?_
  refine r_val .none rfl (p_assign rfl) ?_
  refine r_nil ?_
  refine e_next ?_
  refine c_ret ?_
  refine e_ret_then ?_
  refine e_front (k := 2) rfl ?_
  refine e_front (k := 2) rfl ?_
  refine e_front (k := 2) rfl ?_
  refine e_ret1 Try.results17 (.tmp rfl .nil) (fun w hm => ⟨by rw [show lkp s.1 id = none by rw [hc, eraF_lkp, hN]; rfl]; rfl, by rw [show mdel s.1 id = s.1 from mdel_none (by rw [hc, eraF_lkp, hN]; rfl)]; exact hm.kept [box p 2 69 (at_ [.map (some m), .int .i64 (s.2)]), mapA m kI veL (l), hoard (lisA 73 3) (l)] (.keep (fun _ _ h => h) (.keep (fun _ _ h => h) (.keep (fun _ _ h => h) (.nil)))) (feedA 69 73 3 p (s)) (fun F' h => ⟨(m, l), hc, h⟩)⟩)
 ·
  refine r_front (k := 2) rfl ?_
  refine r_lfocus hN ?_
  refine r_val .none rfl (p_lookup_yes (i := 5) Try.underlying67 (KeyT.int Try.underlying3) zr70 rfl rfl rfl hN) ?_
  refine r_val .none rfl (p_eq_ptr Try.underlying70 (by first | exact .inr rfl | exact .inl rfl) rfl rfl) ?_
  refine r_say (d := 11) (v := Value.bool false) rfl ?_
  refine r_nil ?_
  refine e_next ?_
  refine c_cond_f rfl ?_
  refine c_skip ?_
  refine e_next ?_
  refine c_seq ?_
  refine c_region ?_
  refine r_val .none rfl (p_move rfl) ?_
  refine r_val .none rfl (p_nilcheck rfl) ?_
  refine r_val .none rfl (p_field Try.underlying69 rfl sz67 rfl) ?_
  refine r_val .none rfl (p_ld (k := 4) Try.underlying67 rfl rfl rfl (by first | exact of_decide_eq_true rfl | omega) (rfl : _ = Value.map _)) ?_
  refine r_val .none rfl (p_move rfl) ?_
  refine r_delete (i := 5) .none Try.underlying67 (KeyT.int Try.underlying3) rfl rfl rfl rfl ?_
  refine r_nil ?_
  refine e_next ?_
  refine c_seq ?_
  refine c_region ?_
  refine r_val .none rfl (p_assign rfl) ?_
  refine r_nil ?_
  refine e_next ?_
  refine c_ret ?_
  refine e_front (k := 3) rfl ?_
  refine e_front (k := 5) rfl ?_
  refine e_front (k := 5) rfl ?_
  refine e_ret1 Try.results17 (.tmp rfl .nil) (fun w hm => ⟨by rw [show lkp s.1 id = some (eraL (b, c, cap, lost, its)) by rw [hc, eraF_lkp, hN]; rfl]; rfl, hm.kept [box p 2 69 (at_ [.map (some m), .int .i64 (s.2)]), mapA m kI veL (mdel l id), hoard (lisA 73 3) (mdel l id)] (.keep (fun _ _ h => h) (.keep (fun _ _ h => h) (.keep (fun _ _ h => h) (.drop (.drop (.drop (.nil))))))) (feedA 69 73 3 p ((mdel s.1 id, s.2))) (fun F' h => ⟨(m, mdel l id), (by dsimp only; rw [eraF_mdel, hc]), h⟩)⟩)
end Go.Proofs.Ytplefabpplfjbaa

/- Walks: what Go functions of this chapter come to, each as a function on plain data; no condition but those that each theorem names. Printed by a program of this work (gen.py). -/
namespace Go.Proofs.Ytplefabpplfjbaa
open Go.Gx Go.Gx.T20 Go.Gx.T21 Go.Gx.T22 Go.Gx.T6 Go.Gx.T4 Go.Gx.T20 Go.Gx.T21 Go.Gx.T6 Go.Gx.T4 Go.Gx.T21 Go.Gx.T6 Go.Gx.T4
theorem sz60 : SzIs Try.prog 60 3 := by
 unfold SzIs
 kernel_rfl
theorem zr60 : ZeroIs Try.prog 60 (Value.agg #[Value.int .i64 0, Value.string ⟨#[]⟩, Value.slice none 0 0]) := by
 unfold ZeroIs
 kernel_rfl
theorem bl60_1a2 (x0 : Value) (x1 : Value) : Program.built Try.prog 60 [(1, Value.agg #[x0, x1])] = some #[Value.int .i64 0, x0, x1] := by
 kernel_rfl
theorem c_lref21 (cm : Bool) (rl : ByteArray) (vi : Value) (ids : List Int) {G : Ghost} (hs : SlL G vi 1 cI (0 : Int) ids) (hn : ids.length ≤ 1000) (w : World) (hG : Has G w) :
  Calls Try.prog 19 #[Value.agg #[.bool cm, .string rl, vi]] w (Ret fun r w' => ∃ G', GNew w nX G G' ∧ Has G' w' ∧ (∃ u, r = Value.agg #[b01 cm, .string rl, u] ∧ SlL G' u 1 cI (0 : Int) ids) ∧ Since nX w w') := by
 refine enter (args := [_]) (X := nX) (G := G) (l := [(0, Value.agg #[.bool cm, .string rl, vi])]) Try.func19 rfl Try.ntmps19 hG ⟨rfl, trivial⟩ (Nat.le_of_ble_eq_true rfl) ?_
 refine c_seq ?_
 refine c_region ?_
 refine r_box .none rfl rfl (IsRow.lit _) (fun b_1 => ?_)
 refine r_alloc .none rfl zr60 (IsRow.lit _) (fun b_2 => ?_)
 refine r_nil ?_
 refine e_next ?_
 refine c_seq ?_
 refine c_region ?_
 refine r_val .none rfl (p_field Try.underlying36 rfl sz24 rfl) ?_
 refine r_val .none rfl (p_lda (k := 1) Try.underlying24 rfl sz24 rfl rfl (by first | exact of_decide_eq_true rfl | omega) (rfl : _ = Value.agg #[_, _])) ?_
 refine r_bslice (vs := [(0, Value.agg #[_, _])]) (c := #[_, _]) .none rfl Try.underlying30 el24 rfl rfl rfl (bs24_10a2 _ _) (IsRow.lit _) (fun b_3 => ?_)
 refine r_conv (B := rowA (.slice (some ⟨b_3, 0, none⟩) 1 1) 24 2 ([((rl, ids), vi)]).length (([((rl, ids), vi)]).flatMap mC)) (k := 0) rfl (fun _ _ h => rowA_congr rfl (by rfl) _ _ (box_rowA (n := 1) (sz := 2) rfl (by decide) h)) ?_
 dsimp only [List.set_cons_zero, List.set_cons_succ]
 refine r_freeze (k := 0) rfl (fun G_1 hn_2 hs_3 => ?_)
 replace hs := hs.mono hn_2.le
 have hmt : Mt G_1 (.slice (some ⟨b_3, 0, none⟩) 1 1) [(rl, ids)] := Mt.mk [((rl, ids), vi)] (SlL.of (cells := mC) m0 (fun _ => rfl) rfl hs_3) (fun p hp => by rw [List.mem_singleton.1 hp]; exact hs)
 refine r_callm (vs := [_]) .none rfl cl8 rfl (fun w hw => c_ref20 _ _ hmt (by simp) (by simp only [List.mem_singleton, forall_eq]; omega) w hw) (fun G_4 v_7 hn_5 hr_6 => ?_)
 replace hs := hs.mono hn_5.le
 replace hmt := hmt.mono hn_5.le
 obtain ⟨vx, hms, hvx⟩ := Mt.one_inv hr_6
 refine r_iaddr_g (i := 0) .none rfl Try.underlying28 sz58 rfl hms rfl (by first | exact of_decide_eq_true rfl | omega) (fun p_10 o_11 R_9 => ?_)
 refine r_val .none rfl (p_ldga0 Try.underlying58 rfl sz58 rfl R_9 (by first | exact of_decide_eq_true rfl | omega) (rfl : _ = Value.agg #[_, _])) ?_
 refine r_val .none rfl (p_build (vs := [(1, Value.agg #[_, _])]) rfl (bl60_1a2 _ _)) ?_
 refine r_alloc .none rfl zr60 (IsRow.lit _) (fun b_4 => ?_)
 refine r_stw (k := 0) .none sz60 rfl rfl (IsRow.lit _) (one_lit rfl (all_cons rfl (all_cons rfl (all_cons (hvx).one rfl)))) rfl ?_
 refine r_nil ?_
 refine e_next ?_
 refine c_seq ?_
 refine c_seq ?_
 refine c_region ?_
 refine r_val .none rfl (p_field Try.underlying36 rfl sz4 rfl) ?_
 refine r_val .none rfl (p_ld (k := 2) Try.underlying4 rfl rfl rfl (by first | exact of_decide_eq_true rfl | omega) (rfl : _ = Value.bool _)) ?_
 refine r_nil ?_
 refine e_next ?_
 refine c_split (d := 12) rfl (fun h_12 => ?_) (fun h_12 => ?_)
 ·
  have hcm : cm = true := h_12
  first
   | (exfalso; omega)
   | (
    refine c_cond_t rfl ?_
    refine c_region ?_
    refine r_val .none rfl (p_field Try.underlying60 rfl sz3 rfl) ?_
    refine r_st (k := 0) .none sz3 rfl rfl rfl rfl (by first | exact of_decide_eq_true rfl | omega) ?_
    refine r_nil ?_
    refine e_next ?_
    refine c_seq ?_
    refine c_region ?_
    refine r_val .none rfl (p_ldw (k := 0) Try.underlying60 rfl sz60 rfl rfl (rfl : _ = Value.agg #[_, _, _])) ?_
    refine r_stw (k := 1) .none sz60 rfl rfl (IsRow.lit _) (one_lit rfl (all_cons rfl (all_cons rfl (all_cons (hvx).one rfl)))) rfl ?_
    refine r_nil ?_
    refine e_next ?_
    refine c_ret ?_
    refine e_ret1 Try.results19 (.cell (k := 1) rfl Try.underlying60 rfl sz60 rfl (rfl : _ = Value.agg #[_, _, _]) .nil) (fun w hm => ⟨_, (hn_2.trans hn_5), hm.has, ⟨_, ?_, hvx⟩, hm.since⟩)
    subst hcm
    rfl
    )
 ·
  have hcm : cm = false := by (have h9 := h_12; simpa using h9)
  first
   | (exfalso; omega)
   | (
    refine c_cond_f rfl ?_
    refine c_skip ?_
    refine e_next ?_
    refine c_seq ?_
    refine c_region ?_
    refine r_val .none rfl (p_ldw (k := 0) Try.underlying60 rfl sz60 rfl rfl (rfl : _ = Value.agg #[_, _, _])) ?_
    refine r_stw (k := 1) .none sz60 rfl rfl (IsRow.lit _) (one_lit rfl (all_cons rfl (all_cons rfl (all_cons (hvx).one rfl)))) rfl ?_
    refine r_nil ?_
    refine e_next ?_
    refine c_ret ?_
    refine e_ret1 Try.results19 (.cell (k := 1) rfl Try.underlying60 rfl sz60 rfl (rfl : _ = Value.agg #[_, _, _]) .nil) (fun w hm => ⟨_, (hn_2.trans hn_5), hm.has, ⟨_, ?_, hvx⟩, hm.since⟩)
    subst hcm
    rfl
    )
end Go.Proofs.Ytplefabpplfjbaa

/- Walks: what Go functions of this chapter come to, each as a function on plain data; no condition but those that each theorem names. Printed by a program of this work (gen.py). -/
namespace Go.Proofs.Ytplefabpplfjbaa
open Go.Gx Go.Gx.T20 Go.Gx.T21 Go.Gx.T22 Go.Gx.T6 Go.Gx.T4 Go.Gx.T20 Go.Gx.T21 Go.Gx.T6 Go.Gx.T4 Go.Gx.T21 Go.Gx.T6 Go.Gx.T4
theorem cl23 : Callable Try.prog 23 := callable Try.func23 (by kernel_rfl) rfl
theorem bl55_1i1_3i1 (x0 : Int) (x1 : Int) : Program.built Try.prog 55 [(1, Value.int .i64 x0), (3, Value.int .i64 x1)] = some #[Value.slice none 0 0, Value.int .i64 x0, Value.int .i64 0, Value.int .i64 x1] := by
 kernel_rfl
theorem bs55_10a4 (a0 a1 a2 a3 : Value) : Instr.fill (fun i => some (i * 4, 4)) ((Array.range (1 * 4)).map ((Value.agg #[Value.slice none 0 0, Value.int .i64 0, Value.int .i64 0, Value.int .i64 0]).cells[· % (Value.agg #[Value.slice none 0 0, Value.int .i64 0, Value.int .i64 0, Value.int .i64 0]).cells.size]!)) [(0, Value.agg #[a0, a1, a2, a3])] = some #[a0, a1, a2, a3] := by
 kernel_rfl
theorem el55 : ElemIs Try.prog 55 4 48 (Value.agg #[Value.slice none 0 0, Value.int .i64 0, Value.int .i64 0, Value.int .i64 0]) := by
 unfold ElemIs
 kernel_rfl
theorem c_xopen21 {F : Nat → Prop} {G : Ghost} (b : Nat) (room : Int) (S : List RS) (hn : S.length ≤ 900) (w : World) (hG : Has G w) (hA : (rfA 47 55 60 b (S)).holds w F) (hFG : ∀ b, F b → G b = none) :
  Calls Try.prog 15 #[Value.pointer (some ⟨b, 0, none⟩), Value.int .i64 room] w (Ret fun r w' => r = Value.tuple #[Value.int .i64 (openRI S room), Value.int .i64 (openRE S room)] ∧ Kept (rfA 47 55 60 b (openR S room)) F w w') := by
 refine enterO (args := [_, _]) (G := G) (A := rfA 47 55 60 b (S)) (l := [(0, Value.pointer (some ⟨b, 0, none⟩)), (1, Value.int .i64 room)]) Try.func15 rfl Try.ntmps15 hG hA hFG ⟨rfl, rfl, trivial⟩ (Nat.le_of_ble_eq_true rfl) ?_
 refine c_seq ?_
 refine c_region ?_
 refine r_val .none rfl (p_assign rfl) ?_
 refine r_val .none rfl (p_assign rfl) ?_
 refine r_nil ?_
 refine e_next ?_
 refine c_seq ?_
 refine c_seq ?_
 refine c_region ?_
 refine r_val .none rfl (p_move rfl) ?_
 refine r_val .none rfl (p_lt rfl rfl) ?_
 refine r_val .none rfl (p_move rfl) ?_
 refine r_splitd (d := 8) rfl (fun h_1 => ?_) (fun h_1 => ?_)
 ·
  have hR : room < 1 ∨ 1000 < room := .inl h_1
  first
   | (exfalso; omega)
   | (
    refine r_skip rfl (.no rfl rfl) ?_
    refine r_skip rfl (.no rfl rfl) ?_
    refine r_val .none rfl (p_pick_t rfl rfl) ?_
    refine r_nil ?_
    refine e_next ?_
    refine c_cond_t rfl ?_
    refine c_seq ?_
    refine c_region ?_
    refine r_val .none rfl (p_assign rfl) ?_
    refine r_val .none rfl (p_assign rfl) ?_
    refine r_nil ?_
    refine e_next ?_
    refine c_ret ?_
    refine e_ret_then ?_
    refine e_retn Try.results15 (.tmp rfl (.tmp rfl .nil)) rfl (fun w hm => ⟨by rw [openRI, openRE, if_pos hR, if_pos hR], by rw [openR, if_pos hR]; exact hm.kept [rfA 47 55 60 b (S)] (.keep (fun _ _ h => h) (.nil)) (rfA 47 55 60 b (S)) (fun F' h => starL_one1 h)⟩)
    )
 ·
  have hR1 : ¬ room < 1 := h_1
  first
   | (exfalso; omega)
   | (
    refine r_val (.some rfl rfl) rfl (p_move rfl) ?_
    refine r_val (.some rfl rfl) rfl (p_gt rfl rfl) ?_
    refine r_val .none rfl (p_pick_f rfl rfl) ?_
    refine r_nil ?_
    refine e_next ?_
    refine c_splitd (d := 11) rfl (fun h_2 => ?_) (fun h_2 => ?_)
    ·
     have hR : room < 1 ∨ 1000 < room := by (have h9 := h_2; omega)
     first
      | (exfalso; omega)
      | (
       refine c_cond_t rfl ?_
       refine c_seq ?_
       refine c_region ?_
       refine r_val .none rfl (p_assign rfl) ?_
       refine r_val .none rfl (p_assign rfl) ?_
       refine r_nil ?_
       refine e_next ?_
       refine c_ret ?_
       refine e_ret_then ?_
       refine e_retn Try.results15 (.tmp rfl (.tmp rfl .nil)) rfl (fun w hm => ⟨by rw [openRI, openRE, if_pos hR, if_pos hR], by rw [openR, if_pos hR]; exact hm.kept [rfA 47 55 60 b (S)] (.keep (fun _ _ h => h) (.nil)) (rfA 47 55 60 b (S)) (fun F' h => starL_one1 h)⟩)
       )
    ·
     have hR : ¬ (room < 1 ∨ 1000 < room) := by (have h9 := h_2; omega)
     first
      | (exfalso; omega)
      | (
       refine c_cond_f rfl ?_
       refine c_skip ?_
       refine e_next ?_
       refine c_seq ?_
       refine c_seq ?_
       refine c_region ?_
       refine r_val .none rfl (p_move rfl) ?_
       refine r_callo (k := 0) (vs := [_]) .none rfl cl23 rfl rfl (fun w F hw hA hFG => rf_see (R := fun r => r = _) (fun G' lv l hle hS h1 h2 ho hG => c_xlen _ lv _ l hS h1 h2 ho (by rw [← List.length_map (f := Prod.snd), ← hS]; omega) w hG) hw hA hFG) ?_
       refine r_val .none rfl (p_ge rfl rfl) ?_
       refine r_nil ?_
       refine e_next ?_
       refine c_splitd (d := 14) rfl (fun h_3 => ?_) (fun h_3 => ?_)
       ·
        have hB : 16 ≤ cntO S := by (have h9 := h_3; omega)
        first
         | (exfalso; omega)
         | (
          refine c_cond_t rfl ?_
          refine c_seq ?_
          refine c_region ?_
          refine r_val .none rfl (p_assign rfl) ?_
          refine r_val .none rfl (p_assign rfl) ?_
          refine r_nil ?_
          refine e_next ?_
          refine c_ret ?_
          refine e_ret_then ?_
          refine e_retn Try.results15 (.tmp rfl (.tmp rfl .nil)) rfl (fun w hm => ⟨by rw [openRI, openRE, if_neg hR, if_neg hR, if_pos hB, if_pos hB], by rw [openR, if_neg hR, if_pos hB]; exact hm.kept [rfA 47 55 60 b (S)] (.keep (fun _ _ h => h) (.nil)) (rfA 47 55 60 b (S)) (fun F' h => starL_one1 h)⟩)
          )
       ·
        have hB : ¬ 16 ≤ cntO S := by (have h9 := h_3; omega)
        first
         | (exfalso; omega)
         | (
          refine c_cond_f rfl ?_
          refine c_skip ?_
          refine e_next ?_
          refine c_seq ?_
          refine c_region ?_
          refine r_unex (fun l => ?_)
          refine r_unand (fun hS => ?_)
          refine r_unpack ?_
          refine r_unex (fun lv => ?_)
          refine r_unpack ?_
          refine r_row1 (k := 1) rfl (fun o1 => ?_)
          have hlS : S.length = l.length := by rw [hS, List.length_map]
          obtain ⟨rm, rfl⟩ : ∃ rm : Nat, room = (rm : Int) := ⟨room.toNat, by omega⟩
          refine r_val .none rfl (p_move rfl) ?_
          refine r_val .none rfl (p_move rfl) ?_
          refine r_val .none rfl (p_nilcheck rfl) ?_
          refine r_val .none rfl (p_field Try.underlying47 rfl sz45 rfl) ?_
          refine r_val .none rfl (p_ld (k := 0) Try.underlying45 rfl rfl rfl (by first | exact of_decide_eq_true rfl | omega) rfl) ?_
          refine r_val .none rfl (p_move rfl) ?_
          refine r_val .none rfl (p_build (vs := [(1, Value.int _ _), (3, Value.int _ _)]) rfl (bl55_1i1_3i1 _ _)) ?_
          refine r_bslice (vs := [(0, Value.agg #[_, _, _, _])]) (c := #[_, _, _, _]) .none rfl Try.underlying45 el55 rfl rfl rfl (bs55_10a4 _ _ _ _) (IsRow.lit _) (fun b_1 => ?_)
          refine r_append (k := 2) (k2 := 0) .none rfl Try.underlying45 el55 rfl (by decide) rfl rfl rfl rfl rfl (one_lit rfl rfl) (by simp only [maxLen]; omega) (by omega) (fun v_4 => ?_)
          refine r_row1 (k := 2) rfl (fun o_5 => ?_)
          refine r_val .none rfl (p_nilcheck rfl) ?_
          refine r_val .none rfl (p_field Try.underlying47 rfl sz45 rfl) ?_
          refine r_st (k := 1) .none sz45 rfl rfl o_5 rfl (by first | exact of_decide_eq_true rfl | omega) ?_
          refine r_nil ?_
          refine e_next ?_
          refine c_seq ?_
          refine c_region ?_
          refine r_val .none rfl (p_move rfl) ?_
          refine r_val .none rfl (p_nilcheck rfl) ?_
          refine r_val .none rfl (p_field Try.underlying47 rfl sz45 rfl) ?_
          refine r_val .none rfl (p_ld (k := 1) Try.underlying45 rfl rfl rfl (by first | exact of_decide_eq_true rfl | omega) rfl) ?_
          refine r_val .none rfl (p_leno (k := 2) Try.underlying45 rfl rfl) ?_
          refine r_val .none rfl (p_assign rfl) ?_
          refine r_val .none rfl (p_assign rfl) ?_
          refine r_nil ?_
          refine e_next ?_
          refine c_ret ?_
          refine e_front (k := 3) rfl ?_
          refine e_nilO 60 3 ?_
          refine e_snocI (rowF 60) ((Value.slice none 0 0, (rm, 0, true, [])) : Value × RS) ?_
          refine e_front (k := 3) rfl ?_
          refine e_front (k := 3) rfl ?_
          refine e_retn Try.results15 (.tmp rfl (.tmp rfl .nil)) rfl (fun w hm => ⟨by rw [openRI, openRE, if_neg hR, if_neg hR, if_neg hB, if_neg hB, hlS]; rfl, by rw [openR, if_neg hR, if_neg hB]; exact hm.kept [box b 1 47 (at_ [v_4]), rowA v_4 55 4 (l ++ [((Value.slice none 0 0, (rm, 0, true, [])) : Value × RS)]).length ((l ++ [((Value.slice none 0 0, (rm, 0, true, [])) : Value × RS)]).flatMap lstC), starL ((l ++ [((Value.slice none 0 0, (rm, 0, true, [])) : Value × RS)]).map (rowF 60))] (.keep (fun _ _ h => box_congr (fun i hi => by match i, hi with | 0, _ => rfl) _ _ h) (.keep (fun _ _ h => rowA_snoc (l := l) (x := ((Value.slice none 0 0, (rm, 0, true, [])) : Value × RS)) rfl rfl rfl rfl _ _ h) (.keep (fun _ _ h => h) (.drop (.nil))))) (rfA 47 55 60 b (S ++ [(rm, 0, true, [])])) (fun F' h => rfA_mk (by rw [List.map_append, hS]; rfl) h)⟩)
          )
       )
    )
end Go.Proofs.Ytplefabpplfjbaa

/- Walks: what Go functions of this chapter come to, each as a function on plain data; no condition but those that each theorem names. Printed by a program of this work (gen.py). -/
namespace Go.Proofs.Ytplefabpplfjbaa
open Go.Gx Go.Gx.T20 Go.Gx.T21 Go.Gx.T22 Go.Gx.T6 Go.Gx.T4 Go.Gx.T20 Go.Gx.T21 Go.Gx.T6 Go.Gx.T4 Go.Gx.T21 Go.Gx.T6 Go.Gx.T4
theorem sz53 : SzIs Try.prog 53 1 := by
 unfold SzIs
 kernel_rfl
theorem bs60_10a3 (a0 a1 a2 : Value) : Instr.fill (fun i => some (i * 3, 3)) ((Array.range (1 * 3)).map ((Value.agg #[Value.int .i64 0, Value.string ⟨#[]⟩, Value.slice none 0 0]).cells[· % (Value.agg #[Value.int .i64 0, Value.string ⟨#[]⟩, Value.slice none 0 0]).cells.size]!)) [(0, Value.agg #[a0, a1, a2])] = some #[a0, a1, a2] := by
 kernel_rfl
theorem el60 : ElemIs Try.prog 60 3 48 (Value.agg #[Value.int .i64 0, Value.string ⟨#[]⟩, Value.slice none 0 0]) := by
 unfold ElemIs
 kernel_rfl
set_option maxHeartbeats 1000000 in
theorem c_xsend21 {F : Nat → Prop} {G : Ghost} (b : Nat) (cm : Bool) (rl : ByteArray) (vi : Value) (ids : List Int) (S : List RS) (hs : SlL G vi 1 cI (0 : Int) ids) (hn : S.length ≤ 1000) (hb : ∀ r ∈ S, r.1 ≤ 1000 ∧ 0 ≤ r.2.1 ∧ r.2.1 ≤ 1000000) (w : World) (hG : Has G w) (hA : (rfA 47 55 60 b (S)).holds w F) (hFG : ∀ b, F b → G b = none) :
  Calls Try.prog 18 #[Value.pointer (some ⟨b, 0, none⟩), Value.agg #[b01 cm, .string rl, vi]] w (Ret fun r w' => r = Value.int .i64 (haveR S : Nat) ∧ Kept (rfA 47 55 60 b (S.map (sendR1 ((vi, (cm, rl, ids)) : NV)))) F w w') := by
 refine enterO (args := [_, _]) (G := G) (A := rfA 47 55 60 b (S)) (l := [(0, Value.pointer (some ⟨b, 0, none⟩)), (1, Value.agg #[b01 cm, .string rl, vi])]) Try.func18 rfl Try.ntmps18 hG hA hFG ⟨rfl, rfl, trivial⟩ (Nat.le_of_ble_eq_true rfl) ?_
 refine c_unex (fun l => ?_)
 refine c_unand (fun hS => ?_)
 refine c_unpack ?_
 refine c_unex (fun lv => ?_)
 refine c_unpack ?_
 refine c_row1 (k := 1) rfl (fun o1 => ?_)
 have hlS : S.length = l.length := by rw [hS, List.length_map]
 refine c_seq ?_
 refine c_region ?_
 refine r_box .none rfl rfl (IsRow.lit _) (fun b_1 => ?_)
 refine r_val .none rfl (p_assign rfl) ?_
 refine r_nil ?_
 refine e_next ?_
 refine c_seq ?_
 refine c_region ?_
 refine r_val .none rfl (p_assign rfl) ?_
 refine r_nil ?_
 refine e_next ?_
 refine c_seq ?_
 refine c_seq ?_
 refine c_region ?_
 refine r_val .none rfl (p_move rfl) ?_
 refine r_val .none rfl (p_nilcheck rfl) ?_
 refine r_val .none rfl (p_field Try.underlying47 rfl sz45 rfl) ?_
 refine r_val .none rfl (p_ld (k := 1) Try.underlying45 rfl rfl rfl (by first | exact of_decide_eq_true rfl | omega) rfl) ?_
 refine r_val .none rfl (p_leno (k := 2) Try.underlying45 rfl rfl) ?_
 refine r_val .none rfl (p_move rfl) ?_
 refine r_nil ?_
 refine e_next ?_
 refine c_block ?_
 refine c_name (d := 0) rfl (fun u_1 hu_1 => ?_)
 refine c_name (d := 3) rfl (fun u_2 hu_2 => ?_)
 refine c_name (d := 4) rfl (fun u_3 hu_3 => ?_)
 refine c_name (d := 12) rfl (fun u_4 hu_4 => ?_)
 refine c_nameL (k := 0) rfl (fun A_5 hA_5 => ?_)
 refine c_nameL (k := 1) rfl (fun A_6 hA_6 => ?_)
 refine c_loop (σ := Nat × List (Value × RS) × Nat) (fun s' => [(13, Value.int .i64 (s'.1 : Nat)), (5, Value.int .i64 (s'.2.2 : Nat)), (0, u_1), (3, u_2), (4, u_3), (12, u_4)]) (fun s' => [A_5, A_6, rowA (lv) 55 4 (s'.2.1).length ((s'.2.1).flatMap lstC), starL ((s'.2.1).map (rowF 60))]) (fun _ => _) (fun s' => s'.1 ≤ S.length ∧ s'.2.1.map Prod.snd = sndL ((vi, (cm, rl, ids)) : NV) S s'.1 ∧ s'.2.2 = haveR (S.take s'.1)) (fun s' => S.length - s'.1) ((0, l, 0)) ⟨Nat.zero_le _, by dsimp only; rw [sndL_zero, hS], rfl⟩ rfl ⟨rfl, rfl, rfl, rfl, rfl, rfl, trivial⟩ (.keep (fun _ _ h => h) (.keep (fun _ _ h => h) (.keep (fun _ _ h => h) (.keep (fun _ _ h => h) (.nil))))) (fun s' hphi => ?_)
 subst hu_1
 subst hu_2
 subst hu_3
 subst hu_4
 subst hA_5
 subst hA_6
 obtain ⟨i, l2, hv⟩ := s'
 obtain ⟨hi0, hl2, hhv⟩ := hphi
 dsimp only at hi0 hl2 hhv ⊢
 have hll : l2.length = S.length := by (have h9 := congrArg List.length hl2; rw [List.length_map, sndL_len] at h9; exact h9)
 have hvb : haveR (S.take i) ≤ i := Nat.le_trans (List.length_filter_le _ _) (by rw [List.length_take]; omega)
 refine c_seq ?_
 refine c_region ?_
 refine r_val .none rfl (p_lt rfl rfl) ?_
 refine r_nil ?_
 refine e_next ?_
 refine c_seq ?_
 refine c_splitd (d := 14) rfl (fun h_7 => ?_) (fun h_7 => ?_)
 ·
  have hi : i < S.length := by (have h9 := h_7; omega)
  have hgi : (l2.getD i l0).2 = (S.getD i rs0) := by rw [← getD_snd (by omega), hl2, sndL_get hi]
  have hbi := hb (S.getD i rs0) (by simp [List.getD, List.getElem?_eq_getElem hi])
  rw [← hgi] at hbi
  first
   | (exfalso; omega)
   | (
    refine c_cond_t rfl ?_
    refine c_skip ?_
    refine e_next ?_
    refine c_seq ?_
    refine c_block ?_
    refine c_seq ?_
    refine c_region ?_
    refine r_val .none rfl (p_move rfl) ?_
    refine r_val .none rfl (p_assign rfl) ?_
    refine r_nil ?_
    refine e_next ?_
    refine c_seq ?_
    refine c_region ?_
    refine r_val .none rfl (p_move rfl) ?_
    refine r_val .none rfl (p_nilcheck rfl) ?_
    refine r_val .none rfl (p_field Try.underlying47 rfl sz45 rfl) ?_
    refine r_val .none rfl (p_ld (k := 1) Try.underlying45 rfl rfl rfl (by first | exact of_decide_eq_true rfl | omega) rfl) ?_
    refine r_val .none rfl (p_move rfl) ?_
    refine r_iaddr_o (k := 2) .none rfl Try.underlying45 sz55 rfl rfl rfl (by first | exact of_decide_eq_true rfl | omega) (fun p_8 c_9 hv_10 => ?_)
    refine r_val .none rfl (p_assign rfl) ?_
    refine r_nil ?_
    refine e_next ?_
    refine c_seq ?_
    refine c_seq ?_
    refine c_region ?_
    refine r_val .none rfl (p_move rfl) ?_
    refine r_val .none rfl (p_nilcheck rfl) ?_
    refine r_val .none rfl (p_field Try.underlying55 rfl sz3 rfl) ?_
    refine r_val .none rfl (p_ldo (k := 2) (j := 3) Try.underlying3 rfl rfl hv_10 rfl (by first | exact of_decide_eq_true rfl | omega) (by first | exact of_decide_eq_true rfl | omega) ((flatMap_get (cells := lstC) (fun _ => rfl) l0 _ _ _ (by first | exact of_decide_eq_true rfl | omega) (by first | exact of_decide_eq_true rfl | omega)).trans (rfl : _ = Value.int _ _))) ?_
    refine r_val .none rfl (p_eq rfl rfl) ?_
    refine r_nil ?_
    refine e_next ?_
    refine c_splitd (d := 26) rfl (fun h_11 => ?_) (fun h_11 => ?_)
    ·
     have hO : ¬ (S.getD i rs0).2.2.1 = true := by (have h9 := h_11; rw [← hgi]; intro h8; rw [if_pos h8] at h9; exact absurd h9 (by decide))
     first
      | (exfalso; omega)
      | (
       refine c_cond_t rfl ?_
       refine c_exit ?_
       refine e_exit_then ?_
       refine e_exit_block ?_
       refine e_next ?_
       refine c_region ?_
       refine r_val .none rfl (p_add rfl rfl (by omega)) ?_
       refine r_val .none rfl (p_move rfl) ?_
       refine r_nil ?_
       refine e_front (k := 3) rfl ?_
       refine e_front (k := 3) rfl ?_
       refine e_front (k := 3) rfl ?_
       refine e_front (k := 3) rfl ?_
       refine e_round ((i + 1, l2, hv)) ⟨⟨by dsimp only; omega, hl2.trans (sndL_same hi hO), by dsimp only; rw [haveR_next hi, if_neg (by rw [Bool.and_eq_true]; exact fun h => hO h.1)]; omega⟩, by dsimp only; omega⟩ rfl ⟨rfl, rfl, rfl, rfl, rfl, rfl, trivial⟩ (.keep (fun _ _ h => h) (.keep (fun _ _ h => h) (.keep (fun _ _ h => h) (.keep (fun _ _ h => h) (.nil)))))
       )
    ·
     have hO2 : (l2.getD i l0).2.2.2.1 = true := by (have h9 := h_11; by_cases h8 : (l2.getD i l0).2.2.2.1 = true; exact h8; exact absurd (if_neg h8) h9)
     have hO : (S.getD i rs0).2.2.1 = true := by rw [← hgi]; exact hO2
     first
      | (exfalso; omega)
      | (
       refine c_cond_f rfl ?_
       refine c_skip ?_
       refine e_next ?_
       refine c_seq ?_
       refine c_front (k := 3) rfl ?_
       refine c_pickI (rowF 60) l0 (i := i) (by omega) ?_
       refine c_region_q mixed (by kernel_rfl) ?_
       refine q_val .none rfl (p_move rfl) ?_
       refine q_val .none rfl (p_nilcheck rfl) ?_
       refine q_val .none rfl (p_field Try.underlying55 rfl sz53 rfl) ?_
       refine q_val .none rfl (p_ldo (k := 4) (j := 0) Try.underlying53 rfl rfl hv_10 rfl (by first | exact of_decide_eq_true rfl | omega) (by first | exact of_decide_eq_true rfl | omega) ((flatMap_get (cells := lstC) (fun _ => rfl) l0 _ _ _ (by first | exact of_decide_eq_true rfl | omega) (by first | exact of_decide_eq_true rfl | omega)).trans rfl)) ?_
       refine q_val .none rfl (p_lenO (k := 0) Try.underlying53 rfl rfl) ?_
       refine q_val .none rfl (p_move rfl) ?_
       refine q_val .none rfl (p_nilcheck rfl) ?_
       refine q_val .none rfl (p_field Try.underlying55 rfl sz3 rfl) ?_
       refine q_val .none rfl (p_ldo (k := 4) (j := 1) Try.underlying3 rfl rfl hv_10 rfl (by first | exact of_decide_eq_true rfl | omega) (by first | exact of_decide_eq_true rfl | omega) ((flatMap_get (cells := lstC) (fun _ => rfl) l0 _ _ _ (by first | exact of_decide_eq_true rfl | omega) (by first | exact of_decide_eq_true rfl | omega)).trans (rfl : _ = Value.int _ _))) ?_
       refine q_val .none rfl (p_lt rfl rfl) ?_
       refine q_nil ?_
       refine e_next ?_
       refine c_splitd (d := 36) rfl (fun h_12 => ?_) (fun h_12 => ?_)
       ·
        have hlt : (l2.getD i l0).2.2.2.2.length < (l2.getD i l0).2.1 := by (have h9 := h_12; omega)
        have hlS2 : (S.getD i rs0).2.2.2.length < (S.getD i rs0).1 := by rw [← hgi]; exact hlt
        have hY : sendR1 ((vi, (cm, rl, ids)) : NV) (S.getD i rs0) = (((l2.getD i l0).2.1, (l2.getD i l0).2.2.1, true, (l2.getD i l0).2.2.2.2 ++ [((vi, (cm, rl, ids)) : NV)]) : RS) := by rw [← hgi, sendR1, if_pos hO2, if_pos hlt]
        first
         | (exfalso; omega)
         | (
          refine c_cond_t rfl ?_
          refine c_seq ?_
          refine c_region_d (fun j => [0, 7, 8, 9, 10].contains j) _ mixed (.keep (fun _ _ h => h) (.keep (fun _ _ h => h) (.keep (fun _ _ h => h) (.keep (fun _ _ h => h) (.keep (fun _ _ h => h) (.nil)))))) ?_
          refine d_val2 0 rfl rfl (by kernel_rfl) .none rfl (fun _ => p_move rfl) ?_
          refine d_val1 1 rfl rfl (by kernel_rfl) (fun j hj => by have h : 10 < j := (Nat.lt_of_lt_of_le (by decide : 10 < 11) hj); simp; omega) .none rfl (p_move rfl) ?_
          refine d_val1 2 rfl rfl (by kernel_rfl) (fun j hj => by have h : 10 < j := (Nat.lt_of_lt_of_le (by decide : 10 < 11) hj); simp; omega) .none rfl (p_nilcheck rfl) ?_
          refine d_val1 3 rfl rfl (by kernel_rfl) (fun j hj => by have h : 10 < j := (Nat.lt_of_lt_of_le (by decide : 10 < 11) hj); simp; omega) .none rfl (p_field Try.underlying55 rfl sz53 rfl) ?_
          refine d_val1 4 rfl rfl (by kernel_rfl) (fun j hj => by have h : 10 < j := (Nat.lt_of_lt_of_le (by decide : 10 < 11) hj); simp; omega) .none rfl (p_ldo (k := 4) (j := 0) Try.underlying53 rfl rfl hv_10 rfl (by first | exact of_decide_eq_true rfl | omega) (by first | exact of_decide_eq_true rfl | omega) ((flatMap_get (cells := lstC) (fun _ => rfl) l0 _ _ _ (by first | exact of_decide_eq_true rfl | omega) (by first | exact of_decide_eq_true rfl | omega)).trans rfl)) ?_
          refine d_val1 5 rfl rfl (by kernel_rfl) (fun j hj => by have h : 10 < j := (Nat.lt_of_lt_of_le (by decide : 10 < 11) hj); simp; omega) .none rfl (p_ldw (k := 2) Try.underlying60 rfl sz60 rfl rfl (rfl : _ = Value.agg #[_, _, _])) ?_
          refine d_eff 6 rfl (by kernel_rfl) (fun K_13 hKK_13 hcK_13 => ?_)
          refine r_bslice (vs := [(0, Value.agg #[_, _, _])]) (c := #[_, _, _]) .none rfl Try.underlying53 el60 rfl rfl rfl (bs60_10a3 _ _ _) (IsRow.lit _) (fun b_2 => ?_)
          refine r_nil (e_d (i := 6) (brk := (fun j => [0, 7, 8, 9, 10].contains j)) (ph' := true) hKK_13 hcK_13 rfl (fun _ => GLe.refl _) (fun _ => .drop (.keep (fun _ _ h => h) (.keep (fun _ _ h => h) (.keep (fun _ _ h => h) (.keep (fun _ _ h => h) (.keep (fun _ _ h => h) (.nil))))))) ?_)
          clear hKK_13 hcK_13 K_13
          refine d_eff 7 rfl (by kernel_rfl) (fun K_14 hKK_14 hcK_14 => ?_)
          refine r_appendO (k := 1) (k2 := 0) .none rfl Try.underlying53 el60 rfl (by decide) rfl rfl rfl rfl rfl (one_lit rfl (all_cons rfl (all_cons rfl (all_cons (hs).one rfl)))) (by simp only [maxLen]; omega) (by omega) (fun nv_15 => ?_)
          refine r_conv (B := rowO nv_15 60 3 ((l2.getD i l0).2.2.2.2 ++ [((vi, (cm, rl, ids)) : NV)]).length (((l2.getD i l0).2.2.2.2 ++ [((vi, (cm, rl, ids)) : NV)]).flatMap nvC)) (k := 1) rfl (fun _ _ h => rowO_congr (by simp) (by rw [List.flatMap_append]; rfl) _ _ h) ?_
          dsimp only [List.set_cons_zero, List.set_cons_succ]
          refine r_rowOsl (k := 1) rfl (fun a_16 c_17 e_18 _ => ?_)
          subst e_18
          refine r_nil (e_d (i := 7) (brk := (fun j => [0, 7, 8, 9, 10].contains j)) (ph' := false) hKK_14 hcK_14 rfl (fun h => by cases h) (fun h => by cases h) ?_)
          clear hKK_14 hcK_14 K_14
          refine d_val2 8 rfl rfl (by kernel_rfl) .none rfl (fun _ => p_nilcheck rfl) ?_
          refine d_val2 9 rfl rfl (by kernel_rfl) .none rfl (fun _ => p_field Try.underlying55 rfl sz53 rfl) ?_
          refine d_eff 10 rfl (by kernel_rfl) (fun K_19 hKK_19 hcK_19 => ?_)
          refine r_sto (k := 5) (i := i * 4 + 0) (vs := [(Value.slice a_16 ((l2.getD i l0).2.2.2.2 ++ [((vi, (cm, rl, ids)) : NV)]).length c_17)]) .none sz53 rfl rfl rfl (fun z hz => by rw [List.mem_singleton.1 hz]; rfl) rfl hv_10 (by simp only [List.length_singleton]; omega) ?_
          refine r_conv (B := rowA lv 55 4 (l2.set i ((Value.slice a_16 ((l2.getD i l0).2.2.2.2 ++ [((vi, (cm, rl, ids)) : NV)]).length c_17), (((l2.getD i l0).2.1, (l2.getD i l0).2.2.1, true, (l2.getD i l0).2.2.2.2 ++ [((vi, (cm, rl, ids)) : NV)]) : RS))).length ((l2.set i ((Value.slice a_16 ((l2.getD i l0).2.2.2.2 ++ [((vi, (cm, rl, ids)) : NV)]).length c_17), (((l2.getD i l0).2.1, (l2.getD i l0).2.2.1, true, (l2.getD i l0).2.2.2.2 ++ [((vi, (cm, rl, ids)) : NV)]) : RS))).flatMap lstC)) (k := 5) rfl (fun _ _ h => rowA_congr (List.length_set.symm) (by rw [put_c0 (by omega)]; exact cells_its (r := (l2.getD i l0).2) (r' := (((l2.getD i l0).2.1, (l2.getD i l0).2.2.1, true, (l2.getD i l0).2.2.2.2 ++ [((vi, (cm, rl, ids)) : NV)]) : RS)) rfl rfl hO2 _ _) _ _ h) ?_
          dsimp only [List.set_cons_zero, List.set_cons_succ]
          refine r_nil (e_d (i := 10) (brk := (fun j => [0, 7, 8, 9, 10].contains j)) (ph' := false) hKK_19 hcK_19 rfl (fun h => by cases h) (fun h => by cases h) ?_)
          clear hKK_19 hcK_19 K_19
          refine d_nil (by kernel_rfl) ?_
          refine e_next ?_
          refine c_region ?_
          refine r_val .none rfl (p_move rfl) ?_
          refine r_val .none rfl (p_add rfl rfl (by omega)) ?_
          refine r_val .none rfl (p_assign rfl) ?_
          refine r_nil ?_
          refine e_norm_block ?_
          refine e_next ?_
          refine c_region ?_
          refine r_val .none rfl (p_add rfl rfl (by omega)) ?_
          refine r_val .none rfl (p_move rfl) ?_
          refine r_nil ?_
          refine e_front (k := 2) rfl ?_
          refine e_front (k := 2) rfl ?_
          refine e_putI (rowF 60) ((Value.slice a_16 ((l2.getD i l0).2.2.2.2 ++ [((vi, (cm, rl, ids)) : NV)]).length c_17), (((l2.getD i l0).2.1, (l2.getD i l0).2.2.1, true, (l2.getD i l0).2.2.2.2 ++ [((vi, (cm, rl, ids)) : NV)]) : RS)) (by omega) ?_
          refine e_front (k := 4) rfl ?_
          refine e_front (k := 4) rfl ?_
          refine e_front (k := 4) rfl ?_
          refine e_round ((i + 1, l2.set i ((Value.slice a_16 ((l2.getD i l0).2.2.2.2 ++ [((vi, (cm, rl, ids)) : NV)]).length c_17), (((l2.getD i l0).2.1, (l2.getD i l0).2.2.1, true, (l2.getD i l0).2.2.2.2 ++ [((vi, (cm, rl, ids)) : NV)]) : RS)), hv + 1)) ⟨⟨by dsimp only; omega, by dsimp only; rw [List.map_set, hl2, ← hY, sndL_next hi], by dsimp only; rw [haveR_next hi, if_pos (by rw [Bool.and_eq_true, decide_eq_true_eq]; exact ⟨hO, hlS2⟩)]; omega⟩, by dsimp only; omega⟩ rfl ⟨rfl, rfl, rfl, rfl, rfl, rfl, trivial⟩ (.keep (fun _ _ h => h) (.keep (fun _ _ h => h) (.keep (fun _ _ h => h) (.keep (fun _ _ h => h) (.drop (.nil))))))
          )
       ·
        have hlt : ¬ (l2.getD i l0).2.2.2.2.length < (l2.getD i l0).2.1 := by (have h9 := h_12; omega)
        have hlS2 : ¬ (S.getD i rs0).2.2.2.length < (S.getD i rs0).1 := by rw [← hgi]; exact hlt
        have hY : sendR1 ((vi, (cm, rl, ids)) : NV) (S.getD i rs0) = (((l2.getD i l0).2.1, (l2.getD i l0).2.2.1 + 1, (l2.getD i l0).2.2.2.1, (l2.getD i l0).2.2.2.2) : RS) := by rw [← hgi, sendR1, if_pos hO2, if_neg hlt, hO2]
        first
         | (exfalso; omega)
         | (
          refine c_cond_f rfl ?_
          refine c_region ?_
          refine r_val .none rfl (p_move rfl) ?_
          refine r_val .none rfl (p_nilcheck rfl) ?_
          refine r_val .none rfl (p_field Try.underlying55 rfl sz3 rfl) ?_
          refine r_val .none rfl (p_ldo (k := 4) (j := 2) Try.underlying3 rfl rfl hv_10 rfl (by first | exact of_decide_eq_true rfl | omega) (by first | exact of_decide_eq_true rfl | omega) ((flatMap_get (cells := lstC) (fun _ => rfl) l0 _ _ _ (by first | exact of_decide_eq_true rfl | omega) (by first | exact of_decide_eq_true rfl | omega)).trans (rfl : _ = Value.int _ _))) ?_
          refine r_val .none rfl (p_add rfl rfl (by omega)) ?_
          refine r_val .none rfl (p_nilcheck rfl) ?_
          refine r_val .none rfl (p_field Try.underlying55 rfl sz3 rfl) ?_
          refine r_sto (k := 4) (i := i * 4 + 2) (vs := [.int .i64 ((l2.getD i l0).2.2.1 + 1)]) .none sz3 rfl rfl rfl (fun z hz => by rw [List.mem_singleton.1 hz]; rfl) rfl hv_10 (by simp only [List.length_singleton]; omega) ?_
          refine r_conv (B := rowA lv 55 4 (l2.set i ((l2.getD i l0).1, (((l2.getD i l0).2.1, (l2.getD i l0).2.2.1 + 1, (l2.getD i l0).2.2.2.1, (l2.getD i l0).2.2.2.2) : RS))).length ((l2.set i ((l2.getD i l0).1, (((l2.getD i l0).2.1, (l2.getD i l0).2.2.1 + 1, (l2.getD i l0).2.2.2.1, (l2.getD i l0).2.2.2.2) : RS))).flatMap lstC)) (k := 4) rfl (fun _ _ h => rowA_congr (List.length_set.symm) (by rw [put_c2 (by omega)]) _ _ h) ?_
          dsimp only [List.set_cons_zero, List.set_cons_succ]
          refine r_nil ?_
          refine e_norm_block ?_
          refine e_next ?_
          refine c_region ?_
          refine r_val .none rfl (p_add rfl rfl (by omega)) ?_
          refine r_val .none rfl (p_move rfl) ?_
          refine r_nil ?_
          refine e_front (k := 1) rfl ?_
          refine e_front (k := 1) rfl ?_
          refine e_putI (rowF 60) ((l2.getD i l0).1, (((l2.getD i l0).2.1, (l2.getD i l0).2.2.1 + 1, (l2.getD i l0).2.2.2.1, (l2.getD i l0).2.2.2.2) : RS)) (by omega) ?_
          refine e_front (k := 3) rfl ?_
          refine e_front (k := 3) rfl ?_
          refine e_front (k := 3) rfl ?_
          refine e_round ((i + 1, l2.set i ((l2.getD i l0).1, (((l2.getD i l0).2.1, (l2.getD i l0).2.2.1 + 1, (l2.getD i l0).2.2.2.1, (l2.getD i l0).2.2.2.2) : RS)), hv)) ⟨⟨by dsimp only; omega, by dsimp only; rw [List.map_set, hl2, ← hY, sndL_next hi], by dsimp only; rw [haveR_next hi, if_neg (by rw [Bool.and_eq_true, decide_eq_true_eq]; exact fun h => hlS2 h.2)]; omega⟩, by dsimp only; omega⟩ rfl ⟨rfl, rfl, rfl, rfl, rfl, rfl, trivial⟩ (.keep (fun _ _ h => h) (.keep (fun _ _ h => h) (.keep (fun _ _ h => h) (.keep (fun _ _ h => h) (.nil)))))
          )
       )
    )
 ·
  have hie : i = S.length := by (have h9 := h_7; omega)
  first
   | (exfalso; omega)
   | (
    refine c_cond_f rfl ?_
    refine c_exit ?_
    refine e_exit_then ?_
    refine e_exit_then ?_
    refine e_exit_block ?_
    refine e_next ?_
    refine c_seq ?_
    refine c_region ?_
    refine r_val .none rfl (p_move rfl) ?_
    refine r_val .none rfl (p_assign rfl) ?_
    refine r_nil ?_
    refine e_next ?_
    refine c_ret ?_
    refine e_front (k := 3) rfl ?_
    refine e_front (k := 3) rfl ?_
    refine e_front (k := 3) rfl ?_
    refine e_ret1 Try.results18 (.tmp rfl .nil) (fun w hm => ⟨?_, hm.kept [box b 1 47 (at_ [lv]), rowA lv 55 4 (l2).length ((l2).flatMap lstC), starL ((l2).map (rowF 60))] (.keep (fun _ _ h => box_congr (fun i hi => by match i, hi with | 0, _ => rfl) _ _ h) (.keep (fun _ _ h => h) (.keep (fun _ _ h => h) (.drop (.nil))))) (rfA 47 55 60 b (S.map (sendR1 ((vi, (cm, rl, ids)) : NV)))) (fun F' h => rfA_mk (by rw [hl2, hie, sndL_all]) h)⟩)
    (rw [hhv, hie, List.take_length])
    )
end Go.Proofs.Ytplefabpplfjbaa

/- Walks: what Go functions of this chapter come to, each as a function on plain data; no condition but those that each theorem names. Printed by a program of this work (gen.py). -/
namespace Go.Proofs.Ytplefabpplfjbaa
open Go.Gx Go.Gx.T20 Go.Gx.T21 Go.Gx.T22 Go.Gx.T6 Go.Gx.T4 Go.Gx.T20 Go.Gx.T21 Go.Gx.T6 Go.Gx.T4 Go.Gx.T21 Go.Gx.T6 Go.Gx.T4
theorem cl16 : Callable Try.prog 16 := callable Try.func16 (by kernel_rfl) rfl
theorem bl60_  : Program.built Try.prog 60 [] = some #[Value.int .i64 0, Value.string ⟨#[]⟩, Value.slice none 0 0] := by
 kernel_rfl
theorem c_xtake1 {F : Nat → Prop} {G : Ghost} (b : Nat) (k : Nat) (S : List RS) (x : NV) (t : List NV) (hn : S.length ≤ 1000) (hT : thereR S ((k : Int) + 1) = true) (hit : (S.getD k rs0).2.2.2 = x :: t) (hx : SlL G x.1 1 cI (0 : Int) x.2.2.2) (w : World) (hG : Has G w) (hA : (rfA 47 55 60 b (S)).holds w F) (hFG : ∀ b, F b → G b = none) :
  Calls Try.prog 20 #[Value.pointer (some ⟨b, 0, none⟩), Value.int .i64 ((k : Int) + 1)] w (Ret fun r w' => r = Value.tuple #[.agg #[b01 x.2.1, .string x.2.2.1, x.1], .bool true] ∧ Kept (rfA 47 55 60 b (S.set k ((S.getD k rs0).1, (S.getD k rs0).2.1, (S.getD k rs0).2.2.1, t))) F w w') := by
 refine enterO (args := [_, _]) (G := G) (A := rfA 47 55 60 b (S)) (l := [(0, Value.pointer (some ⟨b, 0, none⟩)), (1, Value.int .i64 ((k : Int) + 1))]) Try.func20 rfl Try.ntmps20 hG hA hFG ⟨rfl, rfl, trivial⟩ (Nat.le_of_ble_eq_true rfl) ?_
 refine c_seq ?_
 refine c_region ?_
 refine r_alloc .none rfl zr60 (IsRow.lit _) (fun b_1 => ?_)
 refine r_val .none rfl (p_assign rfl) ?_
 refine r_nil ?_
 refine e_next ?_
 refine c_seq ?_
 refine c_seq ?_
 refine c_region ?_
 refine r_val .none rfl (p_move rfl) ?_
 refine r_val .none rfl (p_move rfl) ?_
 refine r_callo (k := 1) (vs := [_, _]) .none rfl cl16 rfl rfl (fun w F hw hA hFG => rf_see (R := fun r => r = _) (fun G' lv l hle hS h1 h2 ho hG => c_xthere _ lv _ l _ hS h1 h2 ho w hG) hw hA hFG) ?_
 refine r_say (d := 9) (v := Value.bool true) (congrArg (fun z => some (Value.bool z)) (hT)) ?_
 obtain ⟨hid1, hid2, hop⟩ := there_of hT
 refine r_val .none rfl (p_not rfl) ?_
 refine r_say (d := 10) (v := Value.bool false) rfl ?_
 refine r_val .none rfl (p_move rfl) ?_
 refine r_front (k := 1) rfl ?_
 refine r_unex (fun l => ?_)
 refine r_unand (fun hS => ?_)
 refine r_unpack ?_
 refine r_unex (fun lv => ?_)
 refine r_unpack ?_
 refine r_row1 (k := 1) rfl (fun o1 => ?_)
 have hlS : S.length = l.length := by rw [hS, List.length_map]
 refine r_rowblk (k := 1) rfl (by omega) (fun lb lc hvl hcl => ?_)
 have hgk : (l.getD k l0).2 = (S.getD k rs0) := by rw [← getD_snd (by omega), hS]
 rw [← hgk] at hit
 refine r_front (k := 2) rfl ?_
 refine r_pickI (rowF 60) l0 (i := k) (by omega) ?_
 refine r_val (.some rfl rfl) rfl (p_move rfl) ?_
 refine r_val (.some rfl rfl) rfl (p_nilcheck rfl) ?_
 refine r_val (.some rfl rfl) rfl (p_field Try.underlying47 rfl sz45 rfl) ?_
 refine r_val (.some rfl rfl) rfl (p_ld (k := 2) Try.underlying45 rfl rfl rfl (by first | exact of_decide_eq_true rfl | omega) rfl) ?_
 refine r_val (.some rfl rfl) rfl (p_move rfl) ?_
 refine r_val (.some rfl rfl) rfl (p_sub rfl rfl (by omega)) ?_
 rw [show (k : Int) + 1 - 1 = ((k : Nat) : Int) by omega]
 refine r_val (.some rfl rfl) rfl (iaddr_o Try.underlying45 sz55 rfl hvl rfl (by first | exact of_decide_eq_true rfl | omega)) ?_
 refine r_val (.some rfl rfl) rfl (p_field Try.underlying55 rfl sz53 rfl) ?_
 refine r_val (.some rfl rfl) rfl (p_ldo (k := 3) (j := 0) Try.underlying53 rfl rfl hvl rfl (by first | exact of_decide_eq_true rfl | omega) (by first | exact of_decide_eq_true rfl | omega) ((flatMap_get (cells := lstC) (fun _ => rfl) l0 _ _ _ (by first | exact of_decide_eq_true rfl | omega) (by first | exact of_decide_eq_true rfl | omega)).trans rfl)) ?_
 refine r_val (.some rfl rfl) rfl (p_lenO (k := 0) Try.underlying53 rfl rfl) ?_
 refine r_val (.some rfl rfl) rfl (p_eq rfl rfl) ?_
 refine r_say (d := 22) (v := Value.bool false) (congrArg (fun z => some (Value.bool z)) (decide_eq_false (by rw [hit, List.length_cons]; omega))) ?_
 refine r_val .none rfl (p_pick_f rfl rfl) ?_
 refine r_nil ?_
 refine e_next ?_
 refine c_cond_f rfl ?_
 refine c_skip ?_
 refine e_next ?_
 refine c_seq ?_
 refine c_region ?_
 refine r_val .none rfl (p_move rfl) ?_
 refine r_val .none rfl (p_nilcheck rfl) ?_
 refine r_val .none rfl (p_field Try.underlying47 rfl sz45 rfl) ?_
 refine r_val .none rfl (p_ld (k := 2) Try.underlying45 rfl rfl rfl (by first | exact of_decide_eq_true rfl | omega) rfl) ?_
 refine r_val .none rfl (p_move rfl) ?_
 refine r_val .none rfl (p_sub rfl rfl (by omega)) ?_
 rw [show (k : Int) + 1 - 1 = ((k : Nat) : Int) by omega]
 refine r_val .none rfl (iaddr_o Try.underlying45 sz55 rfl hvl rfl (by first | exact of_decide_eq_true rfl | omega)) ?_
 refine r_val .none rfl (p_field Try.underlying55 rfl sz53 rfl) ?_
 refine r_val .none rfl (p_ldo (k := 3) (j := 0) Try.underlying53 rfl rfl hvl rfl (by first | exact of_decide_eq_true rfl | omega) (by first | exact of_decide_eq_true rfl | omega) ((flatMap_get (cells := lstC) (fun _ => rfl) l0 _ _ _ (by first | exact of_decide_eq_true rfl | omega) (by first | exact of_decide_eq_true rfl | omega)).trans rfl)) ?_
 refine r_rowOat (k := 0) rfl (by rw [hit]; exact Nat.succ_pos _) (fun ob oo oc hvO hocl => ?_)
 refine r_val .none rfl (p_iaddrO Try.underlying53 sz60 rfl hvO rfl (by rw [hit]; exact Nat.succ_pos _)) ?_
 refine r_val .none rfl (p_ldO (k := 0) (f := at_ (nvC x)) Try.underlying60 rfl sz60 rfl rfl hvO (fun j hj => by rw [hit]; exact nv_head j hj) rfl) ?_
 refine r_alloc .none rfl zr60 (IsRow.lit _) (fun b_2 => ?_)
 refine r_stw (k := 0) .none sz60 rfl rfl (IsRow.lit _) (one_lit rfl (all_cons rfl (all_cons rfl (all_cons (hx).one rfl)))) rfl ?_
 refine r_nil ?_
 refine e_next ?_
 refine c_seq ?_
 refine c_region_d (fun j => [18].contains j) _ mixed (.keep (fun _ _ h => h) (.keep (fun _ _ h => h) (.keep (fun _ _ h => h) (.keep (fun _ _ h => h) (.keep (fun _ _ h => h) (.keep (fun _ _ h => h) (.nil))))))) ?_
 refine d_val1 0 rfl rfl (by kernel_rfl) (fun j hj => by have h : 18 < j := (Nat.lt_of_lt_of_le (by decide : 18 < 19) hj); simp; omega) .none rfl (p_move rfl) ?_
 refine d_val1 1 rfl rfl (by kernel_rfl) (fun j hj => by have h : 18 < j := (Nat.lt_of_lt_of_le (by decide : 18 < 19) hj); simp; omega) .none rfl (p_nilcheck rfl) ?_
 refine d_val1 2 rfl rfl (by kernel_rfl) (fun j hj => by have h : 18 < j := (Nat.lt_of_lt_of_le (by decide : 18 < 19) hj); simp; omega) .none rfl (p_field Try.underlying47 rfl sz45 rfl) ?_
 refine d_val1 3 rfl rfl (by kernel_rfl) (fun j hj => by have h : 18 < j := (Nat.lt_of_lt_of_le (by decide : 18 < 19) hj); simp; omega) .none rfl (p_ld (k := 3) Try.underlying45 rfl rfl rfl (by first | exact of_decide_eq_true rfl | omega) rfl) ?_
 refine d_val1 4 rfl rfl (by kernel_rfl) (fun j hj => by have h : 18 < j := (Nat.lt_of_lt_of_le (by decide : 18 < 19) hj); simp; omega) .none rfl (p_move rfl) ?_
 refine d_val1 5 rfl rfl (by kernel_rfl) (fun j hj => by have h : 18 < j := (Nat.lt_of_lt_of_le (by decide : 18 < 19) hj); simp; omega) .none rfl (p_sub rfl rfl (by omega)) ?_
 rw [show (k : Int) + 1 - 1 = ((k : Nat) : Int) by omega]
 refine d_val1 6 rfl rfl (by kernel_rfl) (fun j hj => by have h : 18 < j := (Nat.lt_of_lt_of_le (by decide : 18 < 19) hj); simp; omega) .none rfl (p_move rfl) ?_
 refine d_val1 7 rfl rfl (by kernel_rfl) (fun j hj => by have h : 18 < j := (Nat.lt_of_lt_of_le (by decide : 18 < 19) hj); simp; omega) .none rfl (p_nilcheck rfl) ?_
 refine d_val1 8 rfl rfl (by kernel_rfl) (fun j hj => by have h : 18 < j := (Nat.lt_of_lt_of_le (by decide : 18 < 19) hj); simp; omega) .none rfl (p_field Try.underlying47 rfl sz45 rfl) ?_
 refine d_val1 9 rfl rfl (by kernel_rfl) (fun j hj => by have h : 18 < j := (Nat.lt_of_lt_of_le (by decide : 18 < 19) hj); simp; omega) .none rfl (p_ld (k := 3) Try.underlying45 rfl rfl rfl (by first | exact of_decide_eq_true rfl | omega) rfl) ?_
 refine d_val1 10 rfl rfl (by kernel_rfl) (fun j hj => by have h : 18 < j := (Nat.lt_of_lt_of_le (by decide : 18 < 19) hj); simp; omega) .none rfl (p_move rfl) ?_
 refine d_val1 11 rfl rfl (by kernel_rfl) (fun j hj => by have h : 18 < j := (Nat.lt_of_lt_of_le (by decide : 18 < 19) hj); simp; omega) .none rfl (p_sub rfl rfl (by omega)) ?_
 rw [show (k : Int) + 1 - 1 = ((k : Nat) : Int) by omega]
 refine d_val1 12 rfl rfl (by kernel_rfl) (fun j hj => by have h : 18 < j := (Nat.lt_of_lt_of_le (by decide : 18 < 19) hj); simp; omega) .none rfl (iaddr_o Try.underlying45 sz55 rfl hvl rfl (by first | exact of_decide_eq_true rfl | omega)) ?_
 refine d_val1 13 rfl rfl (by kernel_rfl) (fun j hj => by have h : 18 < j := (Nat.lt_of_lt_of_le (by decide : 18 < 19) hj); simp; omega) .none rfl (p_field Try.underlying55 rfl sz53 rfl) ?_
 refine d_val1 14 rfl rfl (by kernel_rfl) (fun j hj => by have h : 18 < j := (Nat.lt_of_lt_of_le (by decide : 18 < 19) hj); simp; omega) .none rfl (p_ldo (k := 4) (j := 0) Try.underlying53 rfl rfl hvl rfl (by first | exact of_decide_eq_true rfl | omega) (by first | exact of_decide_eq_true rfl | omega) ((flatMap_get (cells := lstC) (fun _ => rfl) l0 _ _ _ (by first | exact of_decide_eq_true rfl | omega) (by first | exact of_decide_eq_true rfl | omega)).trans rfl)) ?_
 refine d_val1 15 rfl rfl (by kernel_rfl) (fun j hj => by have h : 18 < j := (Nat.lt_of_lt_of_le (by decide : 18 < 19) hj); simp; omega) .none rfl (p_tailO Try.underlying53 sz60 rfl hvO (by rw [hit]; exact Nat.succ_pos _) rfl) ?_
 refine d_val1 16 rfl rfl (by kernel_rfl) (fun j hj => by have h : 18 < j := (Nat.lt_of_lt_of_le (by decide : 18 < 19) hj); simp; omega) .none rfl (iaddr_o Try.underlying45 sz55 rfl hvl rfl (by first | exact of_decide_eq_true rfl | omega)) ?_
 refine d_val1 17 rfl rfl (by kernel_rfl) (fun j hj => by have h : 18 < j := (Nat.lt_of_lt_of_le (by decide : 18 < 19) hj); simp; omega) .none rfl (p_field Try.underlying55 rfl sz53 rfl) ?_
 refine d_eff 18 rfl (by kernel_rfl) (fun K_1 hKK_1 hcK_1 => ?_)
 refine r_sto (k := 4) (i := k * 4 + 0) (vs := [(.slice (if oc = 1 then some ⟨ob, oo, none⟩ else some ⟨ob, oo + 3, none⟩) ((l.getD k l0).2.2.2.2.length - 1) (oc - 1))]) .none sz53 rfl rfl rfl (fun z hz => by rw [List.mem_singleton.1 hz]; rfl) rfl hvl (by simp only [List.length_singleton]; omega) ?_
 refine r_conv (B := rowA lv 55 4 (l.set k ((.slice (if oc = 1 then some ⟨ob, oo, none⟩ else some ⟨ob, oo + 3, none⟩) ((l.getD k l0).2.2.2.2.length - 1) (oc - 1)), (((l.getD k l0).2.1, (l.getD k l0).2.2.1, (l.getD k l0).2.2.2.1, t) : RS))).length ((l.set k ((.slice (if oc = 1 then some ⟨ob, oo, none⟩ else some ⟨ob, oo + 3, none⟩) ((l.getD k l0).2.2.2.2.length - 1) (oc - 1)), (((l.getD k l0).2.1, (l.getD k l0).2.2.1, (l.getD k l0).2.2.2.1, t) : RS))).flatMap lstC)) (k := 4) rfl (fun _ _ h => rowA_congr (List.length_set.symm) (by rw [put_c0 (by omega)]; exact cells_its (r := (l.getD k l0).2) (r' := (((l.getD k l0).2.1, (l.getD k l0).2.2.1, (l.getD k l0).2.2.2.1, t) : RS)) rfl rfl rfl _ _) _ _ h) ?_
 dsimp only [List.set_cons_zero, List.set_cons_succ]
 refine r_nil (e_d (i := 18) (brk := (fun j => [18].contains j)) (ph' := false) hKK_1 hcK_1 rfl (fun h => by cases h) (fun h => by cases h) ?_)
 clear hKK_1 hcK_1 K_1
 refine d_nil (by kernel_rfl) ?_
 refine e_next ?_
 refine c_seq ?_
 refine c_region ?_
 refine r_val .none rfl (p_ldw (k := 0) Try.underlying60 rfl sz60 rfl rfl (rfl : _ = Value.agg #[_, _, _])) ?_
 refine r_stw (k := 5) .none sz60 rfl rfl (IsRow.lit _) (one_lit rfl (all_cons rfl (all_cons rfl (all_cons (hx).one rfl)))) rfl ?_
 refine r_val .none rfl (p_assign rfl) ?_
 refine r_nil ?_
 refine e_next ?_
 refine c_ret ?_
 refine e_front (k := 2) rfl ?_
 refine e_front (k := 2) rfl ?_
 refine e_conv1 (B := rowO (.slice (if oc = 1 then some ⟨ob, oo, none⟩ else some ⟨ob, oo + 3, none⟩) ((l.getD k l0).2.2.2.2.length - 1) (oc - 1)) 60 3 t.length (t.flatMap nvC)) (fun _ _ h => rowO_congr (by rw [hit]; rfl) (by rw [hit]; rfl) _ _ (rowO_tail (by rw [hit]; exact Nat.succ_pos _) hvO h)) ?_
 refine e_putI (rowF 60) ((.slice (if oc = 1 then some ⟨ob, oo, none⟩ else some ⟨ob, oo + 3, none⟩) ((l.getD k l0).2.2.2.2.length - 1) (oc - 1)), (((l.getD k l0).2.1, (l.getD k l0).2.2.1, (l.getD k l0).2.2.2.1, t) : RS)) (by omega) ?_
 refine e_front (k := 3) rfl ?_
 refine e_front (k := 3) rfl ?_
 refine e_retn Try.results20 (.cell (k := 4) rfl Try.underlying60 rfl sz60 rfl (rfl : _ = Value.agg #[_, _, _]) (.tmp rfl .nil)) rfl (fun w hm => ⟨?_, hm.kept [box b 1 47 (at_ [lv]), rowA lv 55 4 (l.set k ((.slice (if oc = 1 then some ⟨ob, oo, none⟩ else some ⟨ob, oo + 3, none⟩) ((l.getD k l0).2.2.2.2.length - 1) (oc - 1)), (((l.getD k l0).2.1, (l.getD k l0).2.2.1, (l.getD k l0).2.2.2.1, t) : RS))).length ((l.set k ((.slice (if oc = 1 then some ⟨ob, oo, none⟩ else some ⟨ob, oo + 3, none⟩) ((l.getD k l0).2.2.2.2.length - 1) (oc - 1)), (((l.getD k l0).2.1, (l.getD k l0).2.2.1, (l.getD k l0).2.2.2.1, t) : RS))).flatMap lstC), starL ((l.set k ((.slice (if oc = 1 then some ⟨ob, oo, none⟩ else some ⟨ob, oo + 3, none⟩) ((l.getD k l0).2.2.2.2.length - 1) (oc - 1)), (((l.getD k l0).2.1, (l.getD k l0).2.2.1, (l.getD k l0).2.2.2.1, t) : RS))).map (rowF 60))] (.keep (fun _ _ h => box_congr (fun i hi => by match i, hi with | 0, _ => rfl) _ _ h) (.keep (fun _ _ h => h) (.keep (fun _ _ h => h) (.drop (.drop (.nil)))))) (rfA 47 55 60 b (S.set k ((S.getD k rs0).1, (S.getD k rs0).2.1, (S.getD k rs0).2.2.1, t))) (fun F' h => rfA_mk (by rw [List.map_set, ← hgk, hS]) h)⟩)
 rfl
theorem c_xtake0 {F : Nat → Prop} {G : Ghost} (b : Nat) (id : Int) (S : List RS) (hn : S.length ≤ 1000) (h0 : thereR S id = true → (S.getD (id - 1).toNat rs0).2.2.2 = []) (w : World) (hG : Has G w) (hA : (rfA 47 55 60 b (S)).holds w F) (hFG : ∀ b, F b → G b = none) :
  Calls Try.prog 20 #[Value.pointer (some ⟨b, 0, none⟩), Value.int .i64 id] w (Ret fun r w' => r = Value.tuple #[.agg #[.int .i64 0, .string ⟨#[]⟩, .slice none 0 0], .bool false] ∧ Kept (rfA 47 55 60 b (S)) F w w') := by
 refine enterO (args := [_, _]) (G := G) (A := rfA 47 55 60 b (S)) (l := [(0, Value.pointer (some ⟨b, 0, none⟩)), (1, Value.int .i64 id)]) Try.func20 rfl Try.ntmps20 hG hA hFG ⟨rfl, rfl, trivial⟩ (Nat.le_of_ble_eq_true rfl) ?_
 refine c_seq ?_
 refine c_region ?_
 refine r_alloc .none rfl zr60 (IsRow.lit _) (fun b_1 => ?_)
 refine r_val .none rfl (p_assign rfl) ?_
 refine r_nil ?_
 refine e_next ?_
 refine c_seq ?_
 refine c_seq ?_
 refine c_region ?_
 refine r_val .none rfl (p_move rfl) ?_
 refine r_val .none rfl (p_move rfl) ?_
 refine r_callo (k := 1) (vs := [_, _]) .none rfl cl16 rfl rfl (fun w F hw hA hFG => rf_see (R := fun r => r = _) (fun G' lv l hle hS h1 h2 ho hG => c_xthere _ lv _ l _ hS h1 h2 ho w hG) hw hA hFG) ?_
 refine r_val .none rfl (p_not rfl) ?_
 refine r_val .none rfl (p_move rfl) ?_
 refine r_splitn (d := 11) rfl (fun h_1 => ?_) (fun h_1 => ?_)
 ·
  have hT : thereR S id = false := by (have h9 := h_1; simpa using h9)
  first
   | (exfalso; omega)
   | (
    refine r_skip rfl (.no rfl rfl) ?_
    refine r_skip rfl (.no rfl rfl) ?_
    refine r_skip rfl (.no rfl rfl) ?_
    refine r_skip rfl (.no rfl rfl) ?_
    refine r_skip rfl (.no rfl rfl) ?_
    refine r_skip rfl (.no rfl rfl) ?_
    refine r_skip rfl (.no rfl rfl) ?_
    refine r_skip rfl (.no rfl rfl) ?_
    refine r_skip rfl (.no rfl rfl) ?_
    refine r_skip rfl (.no rfl rfl) ?_
    refine r_skip rfl (.no rfl rfl) ?_
    refine r_val .none rfl (p_pick_t rfl rfl) ?_
    refine r_nil ?_
    refine e_next ?_
    refine c_cond_t rfl ?_
    refine c_seq ?_
    refine c_region ?_
    refine r_val .none rfl (p_build (vs := []) rfl (bl60_ )) ?_
    refine r_stw (k := 0) .none sz60 rfl rfl (IsRow.lit _) (one_lit rfl rfl) rfl ?_
    refine r_val .none rfl (p_assign rfl) ?_
    refine r_nil ?_
    refine e_next ?_
    refine c_ret ?_
    refine e_ret_then ?_
    refine e_retn Try.results20 (.cell (k := 0) rfl Try.underlying60 rfl sz60 rfl (rfl : _ = Value.agg #[_, _, _]) (.tmp rfl .nil)) rfl (fun w hm => ⟨?_, hm.kept [rfA 47 55 60 b (S)] (.drop (.keep (fun _ _ h => h) (.nil))) (rfA 47 55 60 b (S)) (fun F' h => starL_one1 h)⟩)
    rfl
    )
 ·
  have hT : thereR S id = true := by (have h9 := h_1; simpa using h9)
  obtain ⟨hid1, hid2, hop⟩ := there_of hT
  have hit := h0 hT
  obtain ⟨k, rfl⟩ : ∃ k : Nat, id = (k : Int) + 1 := ⟨(id - 1).toNat, by omega⟩
  rw [show ((k : Int) + 1 - 1).toNat = k by omega] at hit
  first
   | (exfalso; omega)
   | (
    refine r_front (k := 1) rfl ?_
    refine r_unex (fun l => ?_)
    refine r_unand (fun hS => ?_)
    refine r_unpack ?_
    refine r_unex (fun lv => ?_)
    refine r_unpack ?_
    refine r_row1 (k := 1) rfl (fun o1 => ?_)
    have hlS : S.length = l.length := by rw [hS, List.length_map]
    refine r_rowblk (k := 1) rfl (by omega) (fun lb lc hvl hcl => ?_)
    have hgk : (l.getD k l0).2 = (S.getD k rs0) := by rw [← getD_snd (by omega), hS]
    rw [← hgk] at hit
    refine r_front (k := 2) rfl ?_
    refine r_pickI (rowF 60) l0 (i := k) (by omega) ?_
    refine r_val (.some rfl rfl) rfl (p_move rfl) ?_
    refine r_val (.some rfl rfl) rfl (p_nilcheck rfl) ?_
    refine r_val (.some rfl rfl) rfl (p_field Try.underlying47 rfl sz45 rfl) ?_
    refine r_val (.some rfl rfl) rfl (p_ld (k := 2) Try.underlying45 rfl rfl rfl (by first | exact of_decide_eq_true rfl | omega) rfl) ?_
    refine r_val (.some rfl rfl) rfl (p_move rfl) ?_
    refine r_val (.some rfl rfl) rfl (p_sub rfl rfl (by omega)) ?_
    rw [show (k : Int) + 1 - 1 = ((k : Nat) : Int) by omega]
    refine r_val (.some rfl rfl) rfl (iaddr_o Try.underlying45 sz55 rfl hvl rfl (by first | exact of_decide_eq_true rfl | omega)) ?_
    refine r_val (.some rfl rfl) rfl (p_field Try.underlying55 rfl sz53 rfl) ?_
    refine r_val (.some rfl rfl) rfl (p_ldo (k := 3) (j := 0) Try.underlying53 rfl rfl hvl rfl (by first | exact of_decide_eq_true rfl | omega) (by first | exact of_decide_eq_true rfl | omega) ((flatMap_get (cells := lstC) (fun _ => rfl) l0 _ _ _ (by first | exact of_decide_eq_true rfl | omega) (by first | exact of_decide_eq_true rfl | omega)).trans rfl)) ?_
    refine r_val (.some rfl rfl) rfl (p_lenO (k := 0) Try.underlying53 rfl rfl) ?_
    refine r_val (.some rfl rfl) rfl (p_eq rfl rfl) ?_
    refine r_say (d := 22) (v := Value.bool true) (congrArg (fun z => some (Value.bool z)) (decide_eq_true (by rw [hit]; rfl))) ?_
    refine r_val .none rfl (p_pick_f rfl rfl) ?_
    refine r_nil ?_
    refine e_next ?_
    refine c_cond_t rfl ?_
    refine c_seq ?_
    refine c_region ?_
    refine r_val .none rfl (p_build (vs := []) rfl (bl60_ )) ?_
    refine r_stw (k := 4) .none sz60 rfl rfl (IsRow.lit _) (one_lit rfl rfl) rfl ?_
    refine r_val .none rfl (p_assign rfl) ?_
    refine r_nil ?_
    refine e_next ?_
    refine c_ret ?_
    refine e_ret_then ?_
    refine e_front (k := 1) rfl ?_
    refine e_front (k := 1) rfl ?_
    refine e_putI (rowF 60) (l.getD k l0) (by omega) ?_
    rw [set_getD (by omega)]
    refine e_front (k := 2) rfl ?_
    refine e_front (k := 2) rfl ?_
    refine e_retn Try.results20 (.cell (k := 3) rfl Try.underlying60 rfl sz60 rfl (rfl : _ = Value.agg #[_, _, _]) (.tmp rfl .nil)) rfl (fun w hm => ⟨?_, hm.kept [box b 1 47 (at_ [lv]), rowA lv 55 4 (l).length ((l).flatMap lstC), starL ((l).map (rowF 60))] (.keep (fun _ _ h => box_congr (fun i hi => by match i, hi with | 0, _ => rfl) _ _ h) (.keep (fun _ _ h => h) (.keep (fun _ _ h => h) (.drop (.nil))))) (rfA 47 55 60 b (S)) (fun F' h => rfA_mk hS h)⟩)
    rfl
    )
theorem c_xtake1x {F : Nat → Prop} {G : Ghost} (b : Nat) (id : Int) (S : List RS) (k : Nat) (x : NV) (t : List NV) (hN : id = (k : Int) + 1) (hn : S.length ≤ 1000) (hT : thereR S id = true) (hit : (S.getD k rs0).2.2.2 = x :: t) (hx : SlL G x.1 1 cI (0 : Int) x.2.2.2) (w : World) (hG : Has G w) (hA : (rfA 47 55 60 b (S)).holds w F) (hFG : ∀ b, F b → G b = none) :
  Calls Try.prog 20 #[Value.pointer (some ⟨b, 0, none⟩), Value.int .i64 id] w (Ret fun r w' => r = Value.tuple #[.agg #[b01 x.2.1, .string x.2.2.1, x.1], .bool true] ∧ Kept (rfA 47 55 60 b (tkR S k t)) F w w') := by
 subst hN; exact c_xtake1 b k S x t hn hT hit hx w hG hA hFG
end Go.Proofs.Ytplefabpplfjbaa
