/- Plain laws: a fact meets a step just if its terms fit it with what the facts ahead have bound; no program in sight. -/
import Derived.Test.YtinbigokigkfaaaPl13
import Derived.Test.YtinbigokigkfaaaPl03b
import Derived.Test.YtinbigokigkfaaaPl04b
namespace Go.Gx.T13
open Go.Gx Go.Gx.T3 Go.Gx.T4 Go.Gx.T8

/-- How many conditions are Pos. -/
def npos : List CT → Nat
  | [] => 0
  | c :: t => (if c.h.k = 1 then 1 else 0) + npos t
theorem bound_snoc (v : Int) (c : CT) : ∀ (l : List CT) (b : Int), bound v (l ++ [c]) b = match bound v l b with | some x => some x | none => if c.h.k = 1 then (firstF c.h v).map fun f => (b + npos l, f) else none
  | [], b => by
    simp only [List.nil_append, bound, npos]
    by_cases h : c.h.k = 1
    · rw [if_pos h, if_pos h]; cases firstF c.h v <;> simp
    · rw [if_neg h, if_neg h]
  | d :: t, b => by
    rw [List.cons_append, bound, bound, npos]
    by_cases h : d.h.k = 1
    · rw [if_pos h, if_pos h, if_pos h]
      cases firstF d.h v with
      | some f => rfl
      | none =>
        dsimp only
        rw [bound_snoc v c t (b + 1)]
        have e : b + 1 + (npos t : Int) = b + ((1 + npos t : Nat) : Int) := by omega
        rw [e]
    · rw [if_neg h, if_neg h, if_neg h, bound_snoc v c t b]
      have e : b + ((0 + npos t : Nat) : Int) = b + (npos t : Int) := by omega
      rw [e]
theorem bound_npos {v : Int} : ∀ {l : List CT} {b : Int} {x : Int × Int}, bound v l b = some x → b ≤ x.1 ∧ x.1 < b + npos l
  | [], _, _, h => by simp [bound] at h
  | c :: t, b, x, h => by
    rw [bound] at h
    rw [npos]
    split at h
    · rename_i hk
      rw [if_pos hk]
      split at h
      · simp at h; subst h; simp; omega
      · have := bound_npos h; omega
    · rename_i hk
      rw [if_neg hk]
      have := bound_npos h; omega

theorem get_add {ps : List Pr} (hp : ∀ p ∈ ps, 1 ≤ p.2) (n t m : Int) : getP (ps ++ [(n, t)]) m = if getP ps m = 0 then (if n = m then t else 0) else getP ps m := by
  induction ps with
  | nil => simp [getP]
  | cons p r ih =>
    have h1 := hp p (by simp)
    by_cases e : p.1 = m
    · have a1 : getP (p :: r ++ [(n, t)]) m = p.2 := by simp [getP, e]
      have a2 : getP (p :: r) m = p.2 := by simp [getP, e]
      rw [a1, a2, if_neg (by omega)]
    · have a1 : getP (p :: r ++ [(n, t)]) m = getP (r ++ [(n, t)]) m := by simp [getP, e]
      have a2 : getP (p :: r) m = getP r m := by simp [getP, e]
      rw [a1, a2]; exact ih fun q hq => hp q (by simp [hq])

def right3 (t : Tri) : Prop := 1 ≤ t.1 ∧ 1 ≤ t.2.1 ∧ 1 ≤ t.2.2
theorem fld_pos {t : Tri} (h : right3 t) (i : Int) : 1 ≤ fld t i := by
  obtain ⟨a, b, c⟩ := h
  unfold fld; split
  · exact a
  · split
    · exact b
    · exact c
/-- What the pairs say is what the facts of the Pos conditions ahead have bound. -/
structure Bd (ch : List CT) (back : List Tri) (ps : List Pr) : Prop where
  len : npos ch = back.length
  pos : ∀ p ∈ ps, 1 ≤ p.2
  rt : ∀ t ∈ back, right3 t
  get : ∀ v, getP ps v = match bound v ch 0 with | some x => fld (back.getD x.1.toNat z3) x.2 | none => 0
theorem Bd.nil : Bd [] [] [] := ⟨rfl, by simp, by simp, fun v => by simp [getP, bound]⟩
theorem Bd.some {ch : List CT} {back : List Tri} {ps : List Pr} (h : Bd ch back ps) {v : Int} {x : Int × Int} (hx : bound v ch 0 = some x) : (∃ b : Nat, x.1 = (b : Int) ∧ b < back.length) ∧ getP ps v = fld (back.getD x.1.toNat z3) x.2 ∧ getP ps v ≠ 0 := by
  have h1 := bound_npos hx
  have h2 := h.len
  have h3 : getP ps v = fld (back.getD x.1.toNat z3) x.2 := by rw [h.get v, hx]
  refine ⟨⟨x.1.toNat, by omega, by omega⟩, h3, ?_⟩
  rw [h3]
  have h4 : x.1.toNat < back.length := by omega
  have h5 : back.getD x.1.toNat z3 ∈ back := by simp [List.getD, List.getElem?_eq_getElem h4]
  have := fld_pos (h.rt _ h5) x.2
  omega
theorem Bd.none {ch : List CT} {back : List Tri} {ps : List Pr} (h : Bd ch back ps) {v : Int} (hx : bound v ch 0 = none) : getP ps v = 0 := by
  have h3 := h.get v
  rw [hx] at h3; exact h3
/-- Field f fits. -/
def fitF (h : Hd) (t : Tri) (ps : List Pr) (f : Nat) : Prop :=
  if vF h f = true then (if getP ps (nF h f) = 0 then (match dupF h f with | some g => fld t f = fld t g | none => True) else fld t f = getP ps (nF h f)) else nF h f = fld t f
theorem test_fit {ch : List CT} {back : List Tri} {ps : List Pr} (hb : Bd ch back ps) (h : Hd) (t : Tri) {f : Nat} (hv : vF h f = true) : ((testF ch h f).all fun x => holdsT x back t) = true ↔ fitF h t ps f := by
  unfold fitF
  rw [if_pos hv]
  cases e : bound (nF h f) ch 0 with
  | some x =>
    obtain ⟨⟨b, hbx, hlt⟩, hg, hnz⟩ := hb.some e
    rw [T2 hv (by rw [e]; rfl), e, if_neg hnz]
    obtain ⟨x1, x2⟩ := x
    dsimp only at hbx hg ⊢
    subst hbx
    simp only [Option.getD_some, List.all_cons, List.all_nil, Bool.and_true]
    rw [holds_back (by omega), decide_eq_true_iff, hg]
    simp
  | none =>
    have hz := hb.none e
    rw [if_pos hz]
    cases d : dupF h f with
    | some g =>
      rw [T3 hv (by rw [e]; rfl) d]
      simp only [List.all_cons, List.all_nil, Bool.and_true]
      rw [holds_own (by omega), decide_eq_true_iff]
    | none =>
      rw [T4 hv (by rw [e]; rfl) d]
      simp

theorem has_fit {h : Hd} {t : Tri} (hn : headOk h = true) : hasK t (keyTo h 3 0, keyTo h 3 1, keyTo h 3 2) = true ↔ (h.v0 = false → h.n0 = t.1) ∧ (h.v1 = false → h.n1 = t.2.1) ∧ (h.v2 = false → h.n2 = t.2.2) := by
  simp only [headOk, termRight, Bool.and_eq_true, decide_eq_true_eq] at hn
  obtain ⟨a, b, c⟩ := hn
  unfold hasK
  rw [decide_eq_true_iff]
  have k0 : keyTo h 3 0 = if h.v0 = false then h.n0 else 0 := by simp [keyTo, vF, nF]
  have k1 : keyTo h 3 1 = if h.v1 = false then h.n1 else 0 := by simp [keyTo, vF, nF]
  have k2 : keyTo h 3 2 = if h.v2 = false then h.n2 else 0 := by simp [keyTo, vF, nF]
  rw [k0, k1, k2]
  cases e0 : h.v0 <;> cases e1 : h.v1 <;> cases e2 : h.v2 <;> simp [e0, e1, e2] at a b c ⊢ <;> omega
theorem meets_fit {ch : List CT} {back : List Tri} {ps : List Pr} (hb : Bd ch back ps) {h : Hd} (hk : h.k ≠ 3) (hn : headOk h = true) (t : Tri) :
    meets h.k (keyTo h 3 0, keyTo h 3 1, keyTo h 3 2) (testsTo ch h 3) back t = true ↔ fitF h t ps 0 ∧ fitF h t ps 1 ∧ fitF h t ps 2 := by
  have hh := has_fit (t := t) hn
  have hall : ((testsTo ch h 3).all fun x => holdsT x back t) = true ↔ (h.v0 = true → fitF h t ps 0) ∧ (h.v1 = true → fitF h t ps 1) ∧ (h.v2 = true → fitF h t ps 2) := by
    have e : testsTo ch h 3 = (([] ++ testF ch h 0) ++ testF ch h 1) ++ testF ch h 2 := rfl
    rw [e, List.nil_append, List.all_append, List.all_append, Bool.and_eq_true, Bool.and_eq_true]
    have key : ∀ f, ((testF ch h f).all fun x => holdsT x back t) = true ↔ (vF h f = true → fitF h t ps f) := by
      intro f
      cases hv : vF h f with
      | true => rw [test_fit hb h t hv]; simp
      | false => rw [T1 hv]; simp
    rw [key, key, key]
    exact ⟨fun ⟨⟨a, b⟩, c⟩ => ⟨a, b, c⟩, fun ⟨a, b, c⟩ => ⟨⟨a, b⟩, c⟩⟩
  have hno : ∀ f, vF h f = false → (fitF h t ps f ↔ nF h f = fld t f) := fun f hv => by unfold fitF; rw [if_neg (by rw [hv]; decide)]
  unfold meets
  by_cases c : hasK t (keyTo h 3 0, keyTo h 3 1, keyTo h 3 2) = true
  · rw [if_neg (by rintro (x | x); exact hk x; rw [c] at x; cases x), hall]
    obtain ⟨c0, c1, c2⟩ := hh.1 c
    have q0 : h.v0 = false → fitF h t ps 0 := fun e => (hno 0 e).2 (c0 e)
    have q1 : h.v1 = false → fitF h t ps 1 := fun e => (hno 1 e).2 (c1 e)
    have q2 : h.v2 = false → fitF h t ps 2 := fun e => (hno 2 e).2 (c2 e)
    cases e0 : h.v0 <;> cases e1 : h.v1 <;> cases e2 : h.v2 <;> simp_all
  · rw [if_pos (.inr (by simpa using c))]
    exact Iff.intro (fun x => absurd x (by decide)) (fun x => absurd (hh.2 ⟨fun e => (hno 0 e).1 x.1, fun e => (hno 1 e).1 x.2.1, fun e => (hno 2 e).1 x.2.2⟩) c)

/-- What the pairs are behind a fit. -/
theorem rfit_3 (v0 : Bool) (n0 : Int) (v1 : Bool) (n1 : Int) (v2 : Bool) (n2 t0 t1 t2 : Int) (ps : List Pr) : rfit v0 n0 v1 n1 v2 n2 t0 t1 t2 ps 3 = ((rfit1 v0 n0 t0 ps).bind (rfit1 v1 n1 t1)).bind (rfit1 v2 n2 t2) := rfl
theorem rfit1_yes {v : Bool} {n t : Int} {ps qs : List Pr} (h : rfit1 v n t ps = some qs) (hp : ∀ p ∈ ps, 1 ≤ p.2) (ht : 1 ≤ t) : (∀ p ∈ qs, 1 ≤ p.2) ∧ ∀ m, getP qs m = if getP ps m = 0 then (if v = true ∧ n = m then t else 0) else getP ps m := by
  unfold rfit1 at h
  split at h
  · rename_i hv
    split at h
    · simp at h; subst h
      refine ⟨fun p hq => ?_, fun m => ?_⟩
      · rcases List.mem_append.1 hq with hq | hq
        · exact hp p hq
        · rw [List.mem_singleton.1 hq]; exact ht
      · rw [get_add hp]; simp [hv]
    · rename_i hz
      split at h
      · simp at h; subst h
        refine ⟨hp, fun m => ?_⟩
        by_cases z : getP ps m = 0
        · rw [if_pos z, z, if_neg (by rintro ⟨_, rfl⟩; exact hz z)]
        · rw [if_neg z]
      · cases h
  · rename_i hv
    split at h
    · simp at h; subst h
      refine ⟨hp, fun m => ?_⟩
      by_cases z : getP ps m = 0
      · rw [if_pos z, z, if_neg (by rintro ⟨a, _⟩; exact hv a)]
      · rw [if_neg z]
    · cases h
theorem rfit1_iff {v : Bool} {n t : Int} {ps : List Pr} : (rfit1 v n t ps).isSome = true ↔ if v = true then (getP ps n = 0 ∨ getP ps n = t) else n = t := by
  unfold rfit1
  repeat' split
  all_goals simp_all
theorem rfit_iff {h : Hd} {t : Tri} {ps : List Pr} (hp : ∀ p ∈ ps, 1 ≤ p.2) (ht : right3 t) :
    ((rfit h.v0 h.n0 h.v1 h.n1 h.v2 h.n2 t.1 t.2.1 t.2.2 ps 3).isSome = true ↔ fitF h t ps 0 ∧ fitF h t ps 1 ∧ fitF h t ps 2) ∧
    ∀ qs, rfit h.v0 h.n0 h.v1 h.n1 h.v2 h.n2 t.1 t.2.1 t.2.2 ps 3 = some qs → (∀ p ∈ qs, 1 ≤ p.2) ∧ ∀ m, getP qs m = if getP ps m = 0 then (match firstF h m with | some f => fld t f | none => 0) else getP ps m := by
  obtain ⟨ta, tb, tc⟩ := ht
  have f0 : fld t 0 = t.1 := rfl
  have f1 : fld t 1 = t.2.1 := rfl
  have f2 : fld t 2 = t.2.2 := rfl
  have e0 : fld t ((0 : Nat) : Int) = t.1 := rfl
  have e1 : fld t ((1 : Nat) : Int) = t.2.1 := rfl
  have e2 : fld t ((2 : Nat) : Int) = t.2.2 := rfl
  rw [rfit_3]
  constructor
  · have g0 : (fitF h t ps 0 ↔ (rfit1 h.v0 h.n0 t.1 ps).isSome = true) := by
      rw [rfit1_iff]; unfold fitF
      simp only [vF, nF, dup0]
      cases h.v0 with
      | false => rw [if_neg (by decide), if_neg (by decide), e0]
      | true =>
        rw [if_pos rfl, if_pos rfl, e0]
        by_cases z : getP ps h.n0 = 0
        · rw [if_pos z]; exact ⟨fun _ => .inl z, fun _ => trivial⟩
        · rw [if_neg z]; exact ⟨fun e => .inr e.symm, fun e => (e.resolve_left z).symm⟩
    cases r0 : rfit1 h.v0 h.n0 t.1 ps with
    | none => rw [r0] at g0; simp [g0]
    | some q =>
      obtain ⟨hq, gq⟩ := rfit1_yes r0 hp ta
      rw [r0] at g0
      have g1 : (fitF h t ps 1 ↔ (rfit1 h.v1 h.n1 t.2.1 q).isSome = true) := by
        rw [rfit1_iff, gq]; unfold fitF dupF sameF
        simp only [vF, nF]
        by_cases z : getP ps h.n1 = 0 <;> by_cases a : h.n0 = h.n1 <;> cases h.v0 <;> cases h.v1 <;> simp [f0, f1, e0, e1, z, a] <;> omega
      cases r1 : rfit1 h.v1 h.n1 t.2.1 q with
      | none => rw [r1] at g1; simp [r1, g1]
      | some q' =>
        obtain ⟨hq', gq'⟩ := rfit1_yes r1 hq tb
        rw [r1] at g1
        have g2 : (fitF h t ps 2 ↔ (rfit1 h.v2 h.n2 t.2.2 q').isSome = true) := by
          rw [rfit1_iff, gq', gq]; unfold fitF dupF sameF
          simp only [vF, nF]
          by_cases z : getP ps h.n2 = 0 <;> by_cases a : h.n0 = h.n2 <;> by_cases b : h.n1 = h.n2 <;> cases h.v0 <;> cases h.v1 <;> cases h.v2 <;> simp [f0, f1, f2, e0, e1, e2, z, a, b] <;> omega
        simp [r1, g0, g1, g2]
  · intro qs hqs
    obtain ⟨q', h1, h2⟩ := Option.bind_eq_some_iff.1 hqs
    obtain ⟨q, h3, h4⟩ := Option.bind_eq_some_iff.1 h1
    obtain ⟨hq, gq⟩ := rfit1_yes h3 hp ta
    obtain ⟨hq', gq'⟩ := rfit1_yes h4 hq tb
    obtain ⟨hqs', gqs⟩ := rfit1_yes h2 hq' tc
    refine ⟨hqs', fun m => ?_⟩
    rw [gqs, gq', gq]
    unfold firstF
    by_cases z : getP ps m = 0 <;> by_cases a : h.v0 = true ∧ h.n0 = m <;> by_cases b : h.v1 = true ∧ h.n1 = m <;> by_cases c : h.v2 = true ∧ h.n2 = m <;> simp [z, a, b, c, f0, f1, f2] <;> omega

theorem Bd.goPos {ch : List CT} {back : List Tri} {ps qs : List Pr} (hb : Bd ch back ps) {c : CT} (hk : c.h.k = 1) {t : Tri} (ht : right3 t) (hq : rfit c.h.v0 c.h.n0 c.h.v1 c.h.n1 c.h.v2 c.h.n2 t.1 t.2.1 t.2.2 ps 3 = Option.some qs) : Bd (ch ++ [c]) (back ++ [t]) qs := by
  obtain ⟨h1, h2⟩ := (rfit_iff hb.pos ht).2 qs hq
  have hnp : npos (ch ++ [c]) = npos ch + 1 := by
    clear h1 h2 hq hb
    induction ch with
    | nil => simp [npos, hk]
    | cons d l ih => simp only [List.cons_append, npos, ih]; omega
  refine ⟨by rw [hnp, hb.len]; simp, h1, fun x hx => ?_, fun v => ?_⟩
  · rcases List.mem_append.1 hx with hx | hx
    · exact hb.rt x hx
    · rw [List.mem_singleton.1 hx]; exact ht
  · rw [h2, bound_snoc]
    cases e : bound v ch 0 with
    | some x =>
      obtain ⟨⟨b, hbx, hlt⟩, hg, hnz⟩ := hb.some e
      rw [if_neg hnz, hg, hbx]
      have h5 : (back ++ [t]).getD b z3 = back.getD b z3 := by simp [List.getD, List.getElem?_append_left hlt]
      show fld (back.getD (b : Int).toNat z3) x.2 = fld ((back ++ [t]).getD x.1.toNat z3) x.2
      rw [hbx]; simp only [Int.toNat_natCast]; rw [h5]
    | none =>
      rw [if_pos (hb.none e)]
      dsimp only
      rw [if_pos hk]
      cases firstF c.h v with
      | none => rfl
      | some f =>
        show fld t f = fld ((back ++ [t]).getD ((0 : Int) + (npos ch : Int)).toNat z3) f
        have h5 : ((0 : Int) + (npos ch : Int)).toNat = back.length := by rw [hb.len]; omega
        rw [h5]; simp [List.getD]
theorem Bd.goNeg {ch : List CT} {back : List Tri} {ps : List Pr} (hb : Bd ch back ps) {c : CT} (hk : c.h.k ≠ 1) : Bd (ch ++ [c]) back ps := by
  have hnp : npos (ch ++ [c]) = npos ch := by
    clear hb
    induction ch with
    | nil => simp [npos, hk]
    | cons d l ih => simp only [List.cons_append, npos, ih]
  refine ⟨by rw [hnp]; exact hb.len, hb.pos, hb.rt, fun v => ?_⟩
  rw [hb.get v, bound_snoc]
  cases bound v ch 0 with
  | some x => rfl
  | none => dsimp only; rw [if_neg hk]

theorem stepsOf_get : ∀ (l ch : List CT) (k : Nat) (hk : k < l.length), (stepsOf ch l)[k]? = some (stepOf (ch ++ l.take k) l[k])
  | c :: t, ch, 0, _ => by simp [stepsOf]
  | c :: t, ch, k + 1, hk => by
    rw [stepsOf, List.getElem?_cons_succ, stepsOf_get t (ch ++ [c]) k (by simpa using hk)]
    simp
theorem step_at {l : List CT} {qs : List SVal} {rs : List (CT × Value)} {k : Nat} (hq : stepsOf [] l = qs.map Prod.fst) (hl : l = rs.map Prod.fst) (hk : k < rs.length) : (qs.getD k s0).1 = stepOf (l.take k) (rs.getD k d0).1 := by
  have hkl : k < l.length := by rw [hl]; simpa using hk
  have h1 := stepsOf_get l [] k hkl
  rw [hq, List.nil_append] at h1
  have hkq : k < qs.length := by
    have := congrArg List.length hq; rw [stepsOf_len] at this; simp at this; omega
  have h2 : l[k] = (rs.getD k d0).1 := by subst hl; simp [List.getD, List.getElem?_eq_getElem hk]
  rw [h2] at h1
  have h3 : (qs.map Prod.fst)[k]? = some (qs.getD k s0).1 := by simp [List.getD, List.getElem?_eq_getElem hkq]
  rw [h3] at h1
  exact Option.some.inj h1
/-- A fact meets a step just if it fits. -/
theorem meets_rfit {ch : List CT} {back : List Tri} {ps : List Pr} (hb : Bd ch back ps) {c : CT} (hk : c.h.k ≠ 3) (hn : headOk c.h = true) {t : Tri} (ht : right3 t) {s : ST} (hs : s = stepOf ch c) :
    meets s.h.k (s.h.k0, s.h.k1, s.h.k2) s.h.ts back t = (rfit c.h.v0 c.h.n0 c.h.v1 c.h.n1 c.h.v2 c.h.n2 t.1 t.2.1 t.2.2 ps 3).isSome := by
  rw [hs, stepOf_other hk]
  have h1 := meets_fit hb hk hn t
  have h2 := (rfit_iff (h := c.h) (t := t) hb.pos ht).1
  rw [Bool.eq_iff_iff, h2]
  exact h1
theorem head_of {l : List CT} {c : CT} (hf : ∀ c ∈ l, check c 1 = 0) (hc : c ∈ l) (hk : c.h.k ≠ 3) : headOk c.h = true := by
  have h1 := hf c hc
  cases c with
  | mk h s =>
    rcases check_right h1 with ⟨h2, _⟩ | ⟨_, h2, _⟩
    · exact absurd h2 hk
    · exact h2
theorem right3_of {bs : List Tri} {k : Nat} (h : (bs.all fun t => tripleRight t.1 t.2.1 t.2.2) = true) (hk : k < bs.length) : right3 (bs.getD k z3) := by
  have h1 : bs.getD k z3 ∈ bs := by simp [List.getD, List.getElem?_eq_getElem hk]
  have h2 := List.all_eq_true.1 h _ h1
  simp only [tripleRight, decide_eq_true_eq] at h2
  exact ⟨h2.1.1, h2.2.1.1, h2.2.2.1⟩
theorem take_at {l : List CT} {rs : List (CT × Value)} {k : Nat} (hl : l = rs.map Prod.fst) (hk : k < rs.length) : l.take (k + 1) = l.take k ++ [(rs.getD k d0).1] := by
  rw [hl]; exact map_take hk
theorem some_getD {α : Type} {o : Option α} {d : α} (h : o.isSome = true) : o = some (o.getD d) := by
  cases o with
  | none => cases h
  | some x => rfl
end Go.Gx.T13
