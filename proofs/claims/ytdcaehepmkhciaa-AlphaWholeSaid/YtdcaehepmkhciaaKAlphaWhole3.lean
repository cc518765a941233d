/- Texts of this work, laid together: a logic of steps, plain laws, and walks of Go functions, each without a condition but those that its theorems name. -/
import Derived.Test.YtdcaehepmkhciaaKAlphaWhole2
import Derived.Test.YtdcaehepmkhciaaRows
/- Plain laws of memories: each has just the facts that there are and that have its key; no program in sight. -/
namespace Go.Gx.T12
open Go.Gx Go.Gx.T10 Go.Gx.T11
theorem allK_mem {t k : Tri} : k ∈ allK t ↔ hasK t k = true := by
  obtain ⟨a, b, c⟩ := t
  obtain ⟨x, y, z⟩ := k
  simp only [allK, hasK, List.mem_cons, List.mem_nil_iff, or_false, decide_eq_true_eq, Prod.mk.injEq]
  constructor
  · rintro (h | h | h | h | h | h | h | h) <;> (obtain ⟨rfl, rfl, rfl⟩ := h; simp)
  · rintro ⟨h1 | h1, h2 | h2, h3 | h3⟩ <;> simp [h1, h2, h3]
theorem touched_iff {u : List (Tri × Int)} {t k : Tri} : k ∈ touched u t ↔ hasK t k = true ∧ ¬ cnt u k = 0 := by
  unfold touched
  rw [List.mem_filter, allK_mem]
  simp
/-- What is done in one memory. -/
def inM (h : List (Int × Int)) (id : Int) : List (Int × Int) := if 0 < (lkp h id).getD 0 then h else mput h id 1
def outM (h : List (Int × Int)) (id : Int) : List (Int × Int) := if (lkp h id).getD 0 = 0 then h else mdel h id
theorem putC_lkp (c : SC) (x k : Tri) (id : Int) : lkp (putC c x id).2 k = if x = k then (lkp c k).map (fun h => inM h id) else lkp c k := by
  unfold putC
  cases e : lkp c x with
  | none => by_cases h : x = k; (subst h; simp [e]); simp [h]
  | some h0 =>
    by_cases h : x = k
    · subst h
      simp only [inM, e]
      split
      · rename_i hi; simp [e, hi]
      · rename_i hi; simp [lkp_mput, hi]
    · simp only [h, if_false]
      split
      · rfl
      · simp [lkp_mput, h]
theorem takeC_lkp (c : SC) (x k : Tri) (id : Int) : lkp (takeC c x id).2 k = if x = k then (lkp c k).map (fun h => outM h id) else lkp c k := by
  unfold takeC
  cases e : lkp c x with
  | none => by_cases h : x = k; (subst h; simp [e]); simp [h]
  | some h0 =>
    by_cases h : x = k
    · subst h
      simp only [outM, e]
      split
      · rename_i hi; simp [e, hi]
      · rename_i hi; simp [lkp_mput, hi]
    · simp only [h, if_false]
      split
      · rfl
      · simp [lkp_mput, h]
/-- What a memory has: each id once, those that S says. -/
structure Mm (h : List (Int × Int)) (S : Int → Prop) : Prop where
  nd : (h.map (·.1)).Nodup
  one : ∀ q ∈ h, q.2 = 1
  mem : ∀ id, (lkp h id).isSome = true ↔ S id
theorem Mm.val {h : List (Int × Int)} {S : Int → Prop} (m : Mm h S) (id : Int) : (lkp h id).getD 0 = if (lkp h id).isSome = true then 1 else 0 := by
  cases e : lkp h id with
  | none => rfl
  | some v =>
    have h9 : v = 1 := m.one _ (lkp_some e)
    simp [h9]
theorem Mm.pos {h : List (Int × Int)} {S : Int → Prop} (m : Mm h S) (id : Int) : 0 < (lkp h id).getD 0 ↔ S id := by
  rw [m.val, ← m.mem]; split <;> simp_all
theorem Mm.zero {h : List (Int × Int)} {S : Int → Prop} (m : Mm h S) (id : Int) : (lkp h id).getD 0 = 0 ↔ ¬ S id := by
  rw [m.val, ← m.mem]; split <;> simp_all
theorem Mm.congr {h : List (Int × Int)} {S T : Int → Prop} (m : Mm h S) (e : ∀ id, S id ↔ T id) : Mm h T := ⟨m.nd, m.one, fun id => (m.mem id).trans (e id)⟩
theorem Mm.nil : Mm [] (fun _ => False) := ⟨by simp, by simp, by simp [lkp]⟩
theorem Mm.put {h : List (Int × Int)} {S : Int → Prop} (m : Mm h S) (id : Int) : Mm (mput h id 1) (fun x => x = id ∨ S x) := by
  refine ⟨mput_nodup m.nd _ _, fun q hq => ?_, fun x => ?_⟩
  · rcases mem_mput hq with rfl | hq
    · rfl
    · exact m.one q hq
  · rw [lkp_mput]
    by_cases e : id = x
    · subst e; simp
    · rw [if_neg e, m.mem]; constructor
      · exact .inr
      · rintro (h | h); exact absurd h.symm e; exact h
theorem Mm.inM {h : List (Int × Int)} {S : Int → Prop} (m : Mm h S) (id : Int) : Mm (inM h id) (fun x => x = id ∨ S x) := by
  unfold T12.inM
  split
  · rename_i hi
    exact m.congr (fun x => ⟨.inr, fun h => by rcases h with rfl | h; exact (m.pos _).1 hi; exact h⟩)
  · exact m.put id
theorem Mm.outM {h : List (Int × Int)} {S : Int → Prop} (m : Mm h S) (id : Int) : Mm (outM h id) (fun x => ¬ x = id ∧ S x) := by
  unfold T12.outM
  split
  · rename_i hi
    exact m.congr (fun x => ⟨fun h => ⟨fun e => (m.zero id).1 hi (e ▸ h), h⟩, fun h => h.2⟩)
  · refine ⟨mdel_nodup m.nd _, fun q hq => m.one q ((mdel_sub h id).subset hq), fun x => ?_⟩
    rw [lkp_mdel m.nd]
    by_cases e : id = x
    · subst e; simp
    · rw [if_neg e, m.mem]
      exact ⟨fun h => ⟨fun h2 => e h2.symm, h⟩, fun h => h.2⟩
/-- All memories, of some keys: what they have. -/
structure Me (c : SC) (S : Tri → Int → Prop) : Prop where
  mm : ∀ k h, lkp c k = some h → Mm h (S k)
theorem Me.put {c : SC} {S : Tri → Int → Prop} (m : Me c S) (x : Tri) (id : Int) : Me (putC c x id).2 (fun k i => (k = x ∧ i = id) ∨ S k i) := ⟨fun k h e => by
  rw [putC_lkp] at e
  by_cases hx : x = k
  · subst hx
    rw [if_pos rfl] at e
    cases e0 : lkp c x with
    | none => rw [e0] at e; cases e
    | some h0 =>
      rw [e0] at e; simp only [Option.map_some, Option.some.injEq] at e; subst e
      exact ((m.mm x h0 e0).inM id).congr (fun i => by simp)
  · rw [if_neg hx] at e
    exact (m.mm k h e).congr (fun i => ⟨.inr, fun h => by rcases h with h | h; exact absurd h.1.symm hx; exact h⟩)⟩
theorem Me.take {c : SC} {S : Tri → Int → Prop} (m : Me c S) (x : Tri) (id : Int) : Me (takeC c x id).2 (fun k i => ¬ (k = x ∧ i = id) ∧ S k i) := ⟨fun k h e => by
  rw [takeC_lkp] at e
  by_cases hx : x = k
  · subst hx
    rw [if_pos rfl] at e
    cases e0 : lkp c x with
    | none => rw [e0] at e; cases e
    | some h0 =>
      rw [e0] at e; simp only [Option.map_some, Option.some.injEq] at e; subst e
      exact ((m.mm x h0 e0).outM id).congr (fun i => by simp)
  · rw [if_neg hx] at e
    exact (m.mm k h e).congr (fun i => ⟨fun h => ⟨fun h2 => hx h2.1.symm, h⟩, fun h => h.2⟩)⟩
theorem Me.congr {c : SC} {S T : Tri → Int → Prop} (m : Me c S) (e : ∀ k h, lkp c k = some h → ∀ i, S k i ↔ T k i) : Me c T := ⟨fun k h hk => (m.mm k h hk).congr (e k h hk)⟩
/-- Nothing is wanted, or not, by it. -/
def Keep (c c' : SC) : Prop := ∀ k, lkp c' k = none ↔ lkp c k = none
theorem keep_put (c : SC) (x : Tri) (id : Int) : Keep c (putC c x id).2 := fun k => by
  rw [putC_lkp]; split <;> simp
theorem keep_take (c : SC) (x : Tri) (id : Int) : Keep c (takeC c x id).2 := fun k => by
  rw [takeC_lkp]; split <;> simp
theorem Keep.trans {a b c : SC} (h : Keep a b) (g : Keep b c) : Keep a c := fun k => (g k).trans (h k)
theorem dels_put (id : Int) : ∀ (l : List Tri) (c : SC) (S : Tri → Int → Prop), Me c S → Me (dels (fun x c => (!(putC c x id).1, (putC c x id).2)) l c).2 (fun k i => (k ∈ l ∧ i = id) ∨ S k i) ∧ Keep c (dels (fun x c => (!(putC c x id).1, (putC c x id).2)) l c).2
  | [], c, S, m => ⟨m.congr (fun _ _ _ i => by simp), fun _ => Iff.rfl⟩
  | x :: t, c, S, m => by
    obtain ⟨h1, h2⟩ := dels_put id t _ _ (m.put x id)
    simp only [dels]
    refine ⟨h1.congr (fun k _ _ i => ?_), (keep_put c x id).trans h2⟩
    simp only [List.mem_cons]
    constructor
    · rintro (⟨h, e⟩ | ⟨h, e⟩ | h)
      · exact .inl ⟨.inr h, e⟩
      · exact .inl ⟨.inl h, e⟩
      · exact .inr h
    · rintro (⟨h | h, e⟩ | h)
      · exact .inr (.inl ⟨h, e⟩)
      · exact .inl ⟨h, e⟩
      · exact .inr (.inr h)
theorem dels_take (id : Int) : ∀ (l : List Tri) (c : SC) (S : Tri → Int → Prop), Me c S → Me (dels (fun x c => (!(takeC c x id).1, (takeC c x id).2)) l c).2 (fun k i => ¬ (k ∈ l ∧ i = id) ∧ S k i) ∧ Keep c (dels (fun x c => (!(takeC c x id).1, (takeC c x id).2)) l c).2
  | [], c, S, m => ⟨m.congr (fun _ _ _ i => by simp), fun _ => Iff.rfl⟩
  | x :: t, c, S, m => by
    obtain ⟨h1, h2⟩ := dels_take id t _ _ (m.take x id)
    simp only [dels]
    refine ⟨h1.congr (fun k _ _ i => ?_), (keep_take c x id).trans h2⟩
    simp only [List.mem_cons]
    constructor
    · rintro ⟨h, h', hs⟩
      exact ⟨fun ⟨ho, e⟩ => by rcases ho with ho | ho; exact h' ⟨ho, e⟩; exact h ⟨ho, e⟩, hs⟩
    · rintro ⟨h, hs⟩
      exact ⟨fun ⟨ho, e⟩ => h ⟨.inr ho, e⟩, fun ⟨ho, e⟩ => h ⟨.inl ho, e⟩, hs⟩
theorem fillC_mm (k : Tri) : ∀ (fs : List FD) (h : List (Int × Int)) (S : Int → Prop), Mm h S → Mm (fillC k fs h) (fun i => S i ∨ ∃ f ∈ fs, f.1 = i ∧ hasK f.2 k = true)
  | [], h, S, m => m.congr (fun i => by simp)
  | f :: t, h, S, m => by
    unfold fillC
    rw [List.foldl_cons]
    by_cases e : hasK f.2 k = true
    · rw [if_pos e]
      refine (fillC_mm k t _ _ (m.put f.1)).congr (fun i => ?_)
      simp only [List.mem_cons]
      constructor
      · rintro ((h1 | h1) | ⟨g, hg, h2⟩)
        · exact .inr ⟨f, .inl rfl, h1.symm, e⟩
        · exact .inl h1
        · exact .inr ⟨g, .inr hg, h2⟩
      · rintro (h1 | ⟨g, hg, h2, h3⟩)
        · exact .inl (.inr h1)
        · rcases hg with rfl | hg
          · exact .inl (.inl h2.symm)
          · exact .inr ⟨g, hg, h2, h3⟩
    · rw [if_neg e]
      refine (fillC_mm k t _ _ m).congr (fun i => ?_)
      simp only [List.mem_cons]
      constructor
      · rintro (h1 | ⟨g, hg, h2⟩)
        · exact .inl h1
        · exact .inr ⟨g, .inr hg, h2⟩
      · rintro (h1 | ⟨g, hg, h2, h3⟩)
        · exact .inl h1
        · rcases hg with rfl | hg
          · exact absurd h3 e
          · exact .inr ⟨g, hg, h2, h3⟩
/-! ### facts that come and go -/
def SK (fs : List FD) (k : Tri) (i : Int) : Prop := ∃ f ∈ fs, f.1 = i ∧ hasK f.2 k = true
structure Whole (u : List (Tri × Int)) (c : SC) (fs : List FD) (ns : List Tri) (n : Nat) : Prop where
  tal : Tal u ns
  sync : ∀ k, cnt u k = 0 ↔ lkp c k = none
  me : Me c (SK fs)
  inc : (fs.map Prod.fst).Pairwise (· < ·)
  bd : ∀ f ∈ fs, 1 ≤ f.1 ∧ f.1 ≤ (n : Int)
theorem Whole.start : Whole [] [] [] [] 0 := ⟨Tal.nil, fun k => by simp [cnt, lkp], ⟨fun k h e => by simp [lkp] at e⟩, by simp, by simp⟩
theorem Whole.add {u : List (Tri × Int)} {c : SC} {fs : List FD} {ns : List Tri} {n : Nat} (h : Whole u c fs ns n) (t : Tri) : Whole u (doneC putC u c ((n : Int) + 1, t)).2 (fs ++ [((n : Int) + 1, t)]) ns (n + 1) := by
  obtain ⟨h1, h2⟩ := dels_put ((n : Int) + 1) (touched u t) c _ h.me
  refine ⟨h.tal, fun k => (h.sync k).trans (h2 k).symm, h1.congr (fun k h0 hk i => ?_), ?_, fun f hf => ?_⟩
  · have hw : ¬ cnt u k = 0 := fun e => by
      have h9 := (h2 k).2 ((h.sync k).1 e)
      have h8 : lkp (dels (fun x c => (!(putC c x ((n : Int) + 1)).1, (putC c x ((n : Int) + 1)).2)) (touched u t) c).2 k = some h0 := hk
      rw [h9] at h8; cases h8
    rw [touched_iff]
    unfold SK
    constructor
    · rintro (⟨⟨h3, _⟩, rfl⟩ | ⟨f, hf, h4⟩)
      · exact ⟨_, List.mem_append_right _ (List.mem_singleton.2 rfl), rfl, h3⟩
      · exact ⟨f, List.mem_append_left _ hf, h4⟩
    · rintro ⟨f, hf, h4, h5⟩
      rcases List.mem_append.1 hf with hf | hf
      · exact .inr ⟨f, hf, h4, h5⟩
      · rw [List.mem_singleton.1 hf] at h4 h5; exact .inl ⟨⟨h5, hw⟩, h4.symm⟩
  · rw [List.map_append]
    refine List.pairwise_append.2 ⟨h.inc, by simp, fun a ha b hb => ?_⟩
    obtain ⟨f, hf, rfl⟩ := List.mem_map.1 ha
    simp only [List.map_cons, List.map_nil, List.mem_singleton] at hb
    have := (h.bd f hf).2
    omega
  · rcases List.mem_append.1 hf with hf | hf
    · have := h.bd f hf; omega
    · rw [List.mem_singleton.1 hf]; dsimp only; omega
theorem inc_inj {fs : List FD} (h : (fs.map Prod.fst).Pairwise (· < ·)) {f g : FD} (hf : f ∈ fs) (hg : g ∈ fs) (e : f.1 = g.1) : f = g := by
  induction fs with
  | nil => cases hf
  | cons x t ih =>
    simp only [List.map_cons, List.pairwise_cons] at h
    rcases List.mem_cons.1 hf with h1 | h1
    · rcases List.mem_cons.1 hg with h2 | h2
      · rw [h1, h2]
      · subst h1; have := h.1 g.1 (List.mem_map.2 ⟨g, h2, rfl⟩); omega
    · rcases List.mem_cons.1 hg with h2 | h2
      · subst h2; have := h.1 f.1 (List.mem_map.2 ⟨f, h1, rfl⟩); omega
      · exact ih h.2 h1 h2
/-- The list without the fact at a place. -/
def cutF (fs : List FD) (k : Nat) : List FD := fs.take k ++ fs.drop (k + 1)
theorem cutF_mem {fs : List FD} {k : Nat} (hk : k < fs.length) (hi : (fs.map Prod.fst).Pairwise (· < ·)) {f : FD} : f ∈ cutF fs k ↔ f ∈ fs ∧ ¬ f.1 = (fs.getD k (0, zT)).1 := by
  have e : fs = fs.take k ++ fs.getD k (0, zT) :: fs.drop (k + 1) := by
    have h1 := List.take_append_drop k fs
    rw [List.drop_eq_getElem_cons hk] at h1
    have h2 : fs.getD k (0, zT) = fs[k] := by simp [List.getD, hk]
    rw [h2]; exact h1.symm
  have hm : fs.getD k (0, zT) ∈ fs := by
    have h2 : fs.getD k (0, zT) = fs[k] := by simp [List.getD, hk]
    rw [h2]; exact List.getElem_mem hk
  constructor
  · intro h
    have hf : f ∈ fs := by
      unfold cutF at h
      rcases List.mem_append.1 h with h | h
      · exact List.mem_of_mem_take h
      · exact List.mem_of_mem_drop h
    refine ⟨hf, fun e2 => ?_⟩
    rw [e] at hi
    simp only [List.map_append, List.map_cons] at hi
    obtain ⟨_, h4, h5⟩ := List.pairwise_append.1 hi
    rcases List.mem_append.1 h with h | h
    · have := h5 f.1 (List.mem_map.2 ⟨f, h, rfl⟩) (fs.getD k (0, zT)).1 (by simp)
      omega
    · have := List.rel_of_pairwise_cons h4 (List.mem_map.2 ⟨f, h, rfl⟩)
      omega
  · rintro ⟨hf, hne⟩
    rw [e] at hf
    unfold cutF
    rcases List.mem_append.1 hf with h | h
    · exact List.mem_append_left _ h
    · rcases List.mem_cons.1 h with h | h
      · exact absurd (congrArg Prod.fst h) hne
      · exact List.mem_append_right _ h
theorem Whole.del {u : List (Tri × Int)} {c : SC} {fs : List FD} {ns : List Tri} {n : Nat} (h : Whole u c fs ns n) {k : Nat} (hk : k < fs.length) : Whole u (doneC takeC u c (fs.getD k (0, zT))).2 (cutF fs k) ns n := by
  obtain ⟨h1, h2⟩ := dels_take (fs.getD k (0, zT)).1 (touched u (fs.getD k (0, zT)).2) c _ h.me
  have hm : fs.getD k (0, zT) ∈ fs := by
    have h2 : fs.getD k (0, zT) = fs[k] := by simp [List.getD, hk]
    rw [h2]; exact List.getElem_mem hk
  refine ⟨h.tal, fun k => (h.sync k).trans (h2 k).symm, h1.congr (fun x h0 hx i => ?_), ?_, fun f hf => h.bd f ((cutF_mem hk h.inc).1 hf).1⟩
  · have hw : ¬ cnt u x = 0 := fun e => by
      have h9 := (h2 x).2 ((h.sync x).1 e)
      have h8 : lkp (dels (fun x c => (!(takeC c x (fs.getD k (0, zT)).1).1, (takeC c x (fs.getD k (0, zT)).1).2)) (touched u (fs.getD k (0, zT)).2) c).2 x = some h0 := hx
      rw [h9] at h8; cases h8
    rw [touched_iff]
    unfold SK
    constructor
    · rintro ⟨h3, f, hf, h4, h5⟩
      refine ⟨f, (cutF_mem hk h.inc).2 ⟨hf, fun e => h3 ⟨⟨?_, hw⟩, by omega⟩⟩, h4, h5⟩
      rw [← inc_inj h.inc hf hm e]; exact h5
    · rintro ⟨f, hf, h4, h5⟩
      obtain ⟨h6, h7⟩ := (cutF_mem hk h.inc).1 hf
      exact ⟨fun h8 => h7 (by omega), f, h6, h4, h5⟩
  · have h3 : (cutF fs k).Sublist fs := by
      have e : fs = fs.take k ++ fs.drop k := (List.take_append_drop k fs).symm
      unfold cutF
      conv => rhs; rw [e]
      refine List.Sublist.append (List.Sublist.refl _) ?_
      rw [← List.drop_drop]; exact List.drop_sublist 1 _
    exact h.inc.sublist (h3.map _)
theorem Whole.want {u : List (Tri × Int)} {c : SC} {fs : List FD} {ns : List Tri} {n : Nat} (h : Whole u c fs ns n) (k : Tri) : Whole (tAdd u k) (wantC c k fs (cnt u k)) fs (ns ++ [k]) n := by
  have h0 : 0 ≤ cnt u k := by rw [h.tal.eq]; omega
  refine ⟨h.tal.add k, fun x => ?_, ?_, h.inc, h.bd⟩
  · rw [tAdd, cnt_mput]
    by_cases e : k = x
    · subst e
      rw [if_pos rfl]
      unfold wantC
      constructor
      · intro h9; omega
      · intro h9
        split at h9
        · rw [lkp_mput, if_pos rfl] at h9; cases h9
        · rename_i h8; exact absurd ((h.sync k).2 h9) h8
    · rw [if_neg e, h.sync]
      unfold wantC
      split
      · rw [lkp_mput, if_neg e]
      · rfl
  · unfold wantC
    split
    · refine ⟨fun x h1 hx => ?_⟩
      rw [lkp_mput] at hx
      by_cases e : k = x
      · subst e
        rw [if_pos rfl] at hx
        simp only [Option.some.injEq] at hx
        subst hx
        exact (fillC_mm k fs [] _ Mm.nil).congr (fun i => by unfold SK; simp)
      · rw [if_neg e] at hx
        exact h.me.mm x h1 hx
    · exact h.me
theorem Whole.inv {u : List (Tri × Int)} {c : SC} {fs : List FD} {ns : List Tri} {n : Nat} (h : Whole u c fs ns n) (k : Tri) : cnt u k = 0 → lkp c k = none := (h.sync k).1
theorem ilt_unique : ∀ {a b : List Int}, a.Pairwise (· < ·) → b.Pairwise (· < ·) → (∀ z, z ∈ a ↔ z ∈ b) → a = b
  | [], [], _, _, _ => rfl
  | [], y :: _, _, _, h => by simpa using (h y).2 (by simp)
  | x :: _, [], _, _, h => by simpa using (h x).1 (by simp)
  | x :: t, y :: u, h1, h2, h => by
    have e : x = y := by
      rcases List.mem_cons.1 ((h x).1 (by simp)) with e | hx
      · exact e
      rcases List.mem_cons.1 ((h y).2 (by simp)) with e | hy
      · exact e.symm
      have a1 := List.rel_of_pairwise_cons h2 hx
      have a2 := List.rel_of_pairwise_cons h1 hy
      omega
    subst e
    congr 1
    refine ilt_unique h1.of_cons h2.of_cons fun z => ?_
    have hz := h z
    simp only [List.mem_cons] at hz
    constructor
    · intro hm
      rcases hz.1 (.inr hm) with rfl | h3
      · have := List.rel_of_pairwise_cons h1 hm; omega
      · exact h3
    · intro hm
      rcases hz.2 (.inr hm) with rfl | h3
      · have := List.rel_of_pairwise_cons h2 hm; omega
      · exact h3
theorem sortI_lt {zs : List Int} (hn : zs.Nodup) : (sortI zs).Pairwise (· < ·) := by
  have h1 : (sortI zs).Pairwise (fun a b => decide (a ≤ b) = true) := List.pairwise_mergeSort (fun a b c h1 h2 => by simp at *; omega) (fun a b => by simp; omega) zs
  have h2 : (sortI zs).Nodup := ((List.mergeSort_perm zs _).nodup_iff).2 hn
  refine (h1.and h2).imp fun {a b} h => ?_
  have := h.1; have := h.2
  simp at *; omega
theorem lkp_keys {h : List (Int × Int)} {id : Int} : id ∈ h.map Prod.fst ↔ (lkp h id).isSome = true := by
  cases e : lkp h id with
  | none =>
    rw [lkp_none] at e
    simp only [Option.isSome_none, Bool.false_eq_true, iff_false]
    intro hm
    obtain ⟨p, hp, rfl⟩ := List.mem_map.1 hm
    exact e p hp rfl
  | some v => simp only [Option.isSome_some, iff_true]; exact List.mem_map.2 ⟨_, lkp_some e, rfl⟩
theorem num_pos {κ : Type} [DecidableEq κ] {ns : List κ} {k : κ} (h : k ∈ ns) : 0 < num ns k := by rw [num_def]; exact List.count_pos_iff.2 h
/-- The ids of a memory are those of the facts with its key. -/
theorem Whole.items {u : List (Tri × Int)} {c : SC} {fs : List FD} {ns : List Tri} {n : Nat} (h : Whole u c fs ns n) {k : Tri} (hk : k ∈ ns) : itemsC c k = (fs.filter fun f => hasK f.2 k).map Prod.fst := by
  have hw : ¬ cnt u k = 0 := by
    rw [h.tal.eq]
    have := num_pos hk
    omega
  cases e : lkp c k with
  | none => exact absurd ((h.sync k).2 e) hw
  | some g =>
    have m := h.me.mm k g e
    unfold itemsC
    rw [e]
    show sortI (g.map Prod.fst) = _
    refine ilt_unique (sortI_lt m.nd) (h.inc.sublist (List.filter_sublist.map _)) fun z => ?_
    have hp : z ∈ sortI (List.map Prod.fst g) ↔ z ∈ List.map Prod.fst g := (List.mergeSort_perm _ _).mem_iff
    rw [hp, lkp_keys, m.mem]
    unfold SK
    simp only [List.mem_map, List.mem_filter]
    constructor
    · rintro ⟨f, hf, h1, h2⟩; exact ⟨f, ⟨hf, h2⟩, h1⟩
    · rintro ⟨f, ⟨hf, h2⟩, h1⟩; exact ⟨f, hf, h1, h2⟩
theorem nd_len {l : List Int} {n : Nat} (hn : l.Pairwise (· < ·)) (hb : ∀ x ∈ l, 1 ≤ x ∧ x ≤ (n : Int)) : l.length ≤ n := by
  have key : ∀ (l : List Int) (a : Int), l.Pairwise (· < ·) → (∀ x ∈ l, a < x ∧ x ≤ (n : Int)) → (l.length : Int) ≤ (n : Int) - a ∨ l = [] := by
    intro l
    induction l with
    | nil => intro _ _ _; exact .inr rfl
    | cons x t ih =>
      intro a hp hb
      left
      have h1 := hb x (by simp)
      rcases ih x hp.of_cons (fun y hy => ⟨List.rel_of_pairwise_cons hp hy, (hb y (by simp [hy])).2⟩) with h2 | h2
      · simp; omega
      · subst h2; simp; omega
  rcases key l 0 hn (fun x hx => by have := hb x hx; omega) with h | h
  · omega
  · subst h; simp
theorem Whole.len {u : List (Tri × Int)} {c : SC} {fs : List FD} {ns : List Tri} {n : Nat} (h : Whole u c fs ns n) : fs.length ≤ n := by
  have := nd_len h.inc (fun x hx => by obtain ⟨f, hf, rfl⟩ := List.mem_map.1 hx; exact h.bd f hf)
  simpa using this
theorem Whole.wf {u : List (Tri × Int)} {c : SC} {fs : List FD} {ns : List Tri} {n : Nat} (h : Whole u c fs ns n) (hn : n ≤ 1000) (k : Tri) : ∀ g, lkp c k = some g → (∀ q ∈ g, (Lit.int .i64 q.1).wf = true) ∧ g.length ≤ 5000 := by
  intro g hg
  have m := h.me.mm k g hg
  have hb : ∀ x ∈ g.map Prod.fst, 1 ≤ x ∧ x ≤ (n : Int) := fun x hx => by
    obtain ⟨f, hf, rfl, _⟩ := (m.mem x).1 (lkp_keys.1 hx)
    exact h.bd f hf
  refine ⟨fun q hq => wf_mk (by have := hb q.1 (List.mem_map.2 ⟨q, hq, rfl⟩); omega), ?_⟩
  have h1 := nd_len (sortI_lt m.nd) (fun x hx => hb x (((List.mergeSort_perm _ _).mem_iff : x ∈ sortI (List.map Prod.fst g) ↔ _).1 hx))
  have h2 : (sortI (List.map (fun x => x.1) g)).length = g.length := by unfold sortI; rw [List.length_mergeSort]; simp
  omega
theorem filter_next {fs : List FD} {k : Tri} {j : Nat} (hj : j < fs.length) : ((fs.take (j + 1)).filter fun f => hasK f.2 k).map Prod.fst = ((fs.take j).filter fun f => hasK f.2 k).map Prod.fst ++ if hasK (fs.getD j (0, zT)).2 k = true then [(fs.getD j (0, zT)).1] else [] := by
  rw [take_next (0, zT) hj, List.filter_append, List.map_append]
  congr 1
  simp only [List.filter_cons, List.filter_nil]
  split <;> rfl
end Go.Gx.T12

/- Plain laws for the law of whole memories. -/
namespace Go.Gx.T12
open Go.Gx Go.Gx.T10 Go.Gx.T11
theorem Whole.cb {u : List (Tri × Int)} {c : SC} {fs : List FD} {ns : List Tri} {n : Nat} (h : Whole u c fs ns n) (hn : ns.length ≤ 1000) (k : Tri) : 0 ≤ cnt u k ∧ cnt u k ≤ 4611686018427387904 := by
  rw [h.tal.eq]; have := num_le ns k; omega
theorem Whole.hinv {u : List (Tri × Int)} {c : SC} {fs : List FD} {ns : List Tri} {n : Nat} (h : Whole u c fs ns n) (k : Tri) : cnt u k = 0 → lkp c k = none := fun e => (h.sync k).1 e
theorem mod_nat (a b : Nat) : ((a : Nat) : Int) % ((b : Nat) : Int) = ((a % b : Nat) : Int) := (Int.natCast_emod a b).symm
theorem take_all {α : Type} {ns : List α} {j : Nat} (h : ¬ j < ns.length) : ns.take (j + 1) = ns.take j := by
  rw [List.take_of_length_le (by omega), List.take_of_length_le (by omega)]
theorem take_same {α : Type} {ns : List α} {j i : Nat} (h : i < j) : ns.take (max j (i + 1)) = ns.take (max j i) := by
  congr 1; omega
theorem take_more {α : Type} {ns : List α} {j i : Nat} (e : α) (h : j ≤ i) (hi : i < ns.length) : ns.take (max j (i + 1)) = ns.take (max j i) ++ [ns.getD i e] := by
  rw [show max j (i + 1) = i + 1 by omega, show max j i = i by omega, take_next e hi]
theorem mem_take_max {α : Type} {ns : List α} {j i : Nat} (e : α) (hi : i < ns.length) : ns.getD i e ∈ ns.take (max j (i + 1)) := by
  have h1 : ns.getD i e ∈ ns.take (i + 1) := by rw [take_next e hi]; simp
  exact (List.take_sublist_take_left (by omega : i + 1 ≤ max j (i + 1))).subset h1
theorem cutF_len {fs : List FD} {k : Nat} (h : k < fs.length) : (cutF fs k).length = fs.length - 1 := by
  unfold cutF; simp; omega
theorem flat_part {α : Type} {cells : α → List Value} {sz : Nat} (hc : ∀ x, (cells x).length = sz) (e : α) (l : List α) : ∀ (m i : Nat), i + m ≤ l.length → flat (fun i => at_ (cells (l.getD i e))) sz i m = ((l.drop i).take m).flatMap cells
  | 0, i, _ => by simp [flat]
  | m + 1, i, h => by
    have hi : i < l.length := by omega
    have h1 : l.drop i = l.getD i e :: l.drop (i + 1) := by
      rw [List.drop_eq_getElem_cons hi]; simp [List.getD, hi]
    rw [flat, flat_part hc e l m (i + 1) (by omega), h1, List.take_succ_cons, List.flatMap_cons, row_at _ _ (by rw [hc]; exact Nat.le_refl _), List.take_of_length_le (by rw [hc]; exact Nat.le_refl _)]
theorem rowA_cutF {v : Value} {E : TypeId} {fs : List FD} {k : Nat} (hk : k < fs.length) (w : World) (F : Nat → Prop) (h : (rowA v E 4 (0 + k + (fs.length - (k + 1))) ([] ++ flat (fun i => at_ (fC (fs.getD i (0, zT)))) 4 0 k ++ flat (fun i j => at_ (fC (fs.getD (k + 1 + i) (0, zT))) j) 4 0 (fs.length - (k + 1)))).holds w F) :
    (rowA v E 4 (cutF fs k).length ((cutF fs k).flatMap fC)).holds w F := by
  refine rowA_congr (by rw [cutF_len hk]; omega) ?_ w F h
  have e1 : (fun i j => at_ (fC (fs.getD (k + 1 + i) (0, zT))) j) = fun i => at_ (fC ((fs.drop (k + 1)).getD i (0, zT))) := by
    funext i j
    simp [List.getD, List.getElem?_drop]
  have e2 : fs.length - (k + 1) = (fs.drop (k + 1)).length := by simp
  rw [flat_part (cells := fC) (fun _ => rfl) (0, zT) fs k 0 (by omega), List.drop_zero, e1, e2, flat_all (cells := fC) (fun _ => rfl) (0, zT)]
  unfold cutF
  rw [List.nil_append, List.flatMap_append]
end Go.Gx.T12

/- Walks: what Go functions of this chapter come to, each as a function on plain data; no condition but those that each theorem names. Printed by a program of this work (gen.py). -/
namespace Go.Proofs.Ytdcaehepmkhciaa
open Go.Gx Go.Gx Go.Gx.T10 Go.Gx.T12 Go.Gx.T10 Go.Gx.T11

theorem c_has7 (t k : Tri)  (w : World)  :
  Calls Try.prog 31 #[kT t, kT k] w (Ret fun r w' => r = Value.bool (hasK t k) ∧ Since nX w w') := by
 refine enter (args := [_, _]) (X := nX) (G := (fun _ => none)) (l := [(0, kT t), (1, kT k)]) Try.func31 rfl Try.ntmps31 (fun _ _ h => by cases h) ⟨rfl, rfl, trivial⟩ (Nat.le_of_ble_eq_true rfl) ?_
 refine c_seq ?_
 refine c_region ?_
 refine r_box .none rfl rfl (IsRow.lit _) (fun b_1 => ?_)
 refine r_box .none rfl rfl (IsRow.lit _) (fun b_2 => ?_)
 refine r_val .none rfl (p_assign rfl) ?_
 refine r_nil ?_
 refine e_next ?_
 refine c_seq ?_
 refine c_region ?_
 refine r_val .none rfl (p_iaddr (k := 0) Try.underlying60 sz3 rfl rfl (by first | exact of_decide_eq_true rfl | omega)) ?_
 refine r_val .none rfl (p_ld (k := 0) Try.underlying3 rfl rfl rfl (by first | exact of_decide_eq_true rfl | omega) (rfl : _ = Value.int _ _)) ?_
 refine r_val .none rfl (p_eq rfl rfl) ?_
 refine r_val .none rfl (p_move rfl) ?_
 refine r_splitd (d := 8) rfl (fun h_1 => ?_) (fun h_1 => ?_)
 ·
  first
   | (exfalso; omega)
   | (
    refine r_skip rfl (.no rfl rfl) ?_
    refine r_skip rfl (.no rfl rfl) ?_
    refine r_skip rfl (.no rfl rfl) ?_
    refine r_skip rfl (.no rfl rfl) ?_
    refine r_skip rfl (.no rfl rfl) ?_
    refine r_val .none rfl (p_pick_t rfl rfl) ?_
    refine r_val .none rfl (p_move rfl) ?_
    refine r_val (.some rfl rfl) rfl (p_iaddr (k := 1) Try.underlying60 sz3 rfl rfl (by first | exact of_decide_eq_true rfl | omega)) ?_
    refine r_val (.some rfl rfl) rfl (p_ld (k := 0) Try.underlying3 rfl rfl rfl (by first | exact of_decide_eq_true rfl | omega) (rfl : _ = Value.int _ _)) ?_
    refine r_val (.some rfl rfl) rfl (p_eq rfl rfl) ?_
    refine r_val (.some rfl rfl) rfl (p_move rfl) ?_
    refine r_splitd (d := 19) rfl (fun h_2 => ?_) (fun h_2 => ?_)
    ·
     first
      | (exfalso; omega)
      | (
       refine r_skip rfl (.no rfl rfl) ?_
       refine r_skip rfl (.no rfl rfl) ?_
       refine r_skip rfl (.no rfl rfl) ?_
       refine r_skip rfl (.no rfl rfl) ?_
       refine r_skip rfl (.no rfl rfl) ?_
       refine r_val (.some rfl rfl) rfl (p_pick_t rfl rfl) ?_
       refine r_val .none rfl (p_pick_t rfl rfl) ?_
       refine r_val .none rfl (p_move rfl) ?_
       refine r_val (.some rfl rfl) rfl (p_iaddr (k := 2) Try.underlying60 sz3 rfl rfl (by first | exact of_decide_eq_true rfl | omega)) ?_
       refine r_val (.some rfl rfl) rfl (p_ld (k := 0) Try.underlying3 rfl rfl rfl (by first | exact of_decide_eq_true rfl | omega) (rfl : _ = Value.int _ _)) ?_
       refine r_val (.some rfl rfl) rfl (p_eq rfl rfl) ?_
       refine r_val (.some rfl rfl) rfl (p_move rfl) ?_
       refine r_splitd (d := 31) rfl (fun h_3 => ?_) (fun h_3 => ?_)
       ·
        first
         | (exfalso; omega)
         | (
          refine r_skip rfl (.no rfl rfl) ?_
          refine r_skip rfl (.no rfl rfl) ?_
          refine r_skip rfl (.no rfl rfl) ?_
          refine r_skip rfl (.no rfl rfl) ?_
          refine r_skip rfl (.no rfl rfl) ?_
          refine r_val (.some rfl rfl) rfl (p_pick_t rfl rfl) ?_
          refine r_val .none rfl (p_pick_t rfl rfl) ?_
          refine r_val .none rfl (p_assign rfl) ?_
          refine r_nil ?_
          refine e_next ?_
          refine c_ret ?_
          refine e_ret1 Try.results31 (.tmp rfl .nil) (fun w hm => ⟨?_, hm.since⟩)
          clear hm
          simp_all [hasK, triL, at_]
          )
       ·
        first
         | (exfalso; omega)
         | (
          refine r_val (.some rfl rfl) rfl (p_iaddr (k := 2) Try.underlying60 sz3 rfl rfl (by first | exact of_decide_eq_true rfl | omega)) ?_
          refine r_val (.some rfl rfl) rfl (p_ld (k := 0) Try.underlying3 rfl rfl rfl (by first | exact of_decide_eq_true rfl | omega) (rfl : _ = Value.int _ _)) ?_
          refine r_val (.some rfl rfl) rfl (p_iaddr (k := 2) Try.underlying60 sz3 rfl rfl (by first | exact of_decide_eq_true rfl | omega)) ?_
          refine r_val (.some rfl rfl) rfl (p_ld (k := 1) Try.underlying3 rfl rfl rfl (by first | exact of_decide_eq_true rfl | omega) (rfl : _ = Value.int _ _)) ?_
          refine r_val (.some rfl rfl) rfl (p_eq rfl rfl) ?_
          refine r_val (.some rfl rfl) rfl (p_pick_f rfl rfl) ?_
          refine r_val .none rfl (p_pick_t rfl rfl) ?_
          refine r_val .none rfl (p_assign rfl) ?_
          refine r_nil ?_
          refine e_next ?_
          refine c_ret ?_
          refine e_ret1 Try.results31 (.tmp rfl .nil) (fun w hm => ⟨?_, hm.since⟩)
          clear hm
          simp_all [hasK, triL, at_]
          )
       )
    ·
     first
      | (exfalso; omega)
      | (
       refine r_val (.some rfl rfl) rfl (p_iaddr (k := 1) Try.underlying60 sz3 rfl rfl (by first | exact of_decide_eq_true rfl | omega)) ?_
       refine r_val (.some rfl rfl) rfl (p_ld (k := 0) Try.underlying3 rfl rfl rfl (by first | exact of_decide_eq_true rfl | omega) (rfl : _ = Value.int _ _)) ?_
       refine r_val (.some rfl rfl) rfl (p_iaddr (k := 1) Try.underlying60 sz3 rfl rfl (by first | exact of_decide_eq_true rfl | omega)) ?_
       refine r_val (.some rfl rfl) rfl (p_ld (k := 1) Try.underlying3 rfl rfl rfl (by first | exact of_decide_eq_true rfl | omega) (rfl : _ = Value.int _ _)) ?_
       refine r_val (.some rfl rfl) rfl (p_eq rfl rfl) ?_
       refine r_val (.some rfl rfl) rfl (p_pick_f rfl rfl) ?_
       refine r_val .none rfl (p_pick_t rfl rfl) ?_
       refine r_val .none rfl (p_move rfl) ?_
       refine r_splitd (d := 27) rfl (fun h_4 => ?_) (fun h_4 => ?_)
       ·
        first
         | (exfalso; omega)
         | (
          refine r_val (.some rfl rfl) rfl (p_iaddr (k := 2) Try.underlying60 sz3 rfl rfl (by first | exact of_decide_eq_true rfl | omega)) ?_
          refine r_val (.some rfl rfl) rfl (p_ld (k := 0) Try.underlying3 rfl rfl rfl (by first | exact of_decide_eq_true rfl | omega) (rfl : _ = Value.int _ _)) ?_
          refine r_val (.some rfl rfl) rfl (p_eq rfl rfl) ?_
          refine r_val (.some rfl rfl) rfl (p_move rfl) ?_
          refine r_splitd (d := 31) rfl (fun h_5 => ?_) (fun h_5 => ?_)
          ·
           first
            | (exfalso; omega)
            | (
             refine r_skip rfl (.no rfl rfl) ?_
             refine r_skip rfl (.no rfl rfl) ?_
             refine r_skip rfl (.no rfl rfl) ?_
             refine r_skip rfl (.no rfl rfl) ?_
             refine r_skip rfl (.no rfl rfl) ?_
             refine r_val (.some rfl rfl) rfl (p_pick_t rfl rfl) ?_
             refine r_val .none rfl (p_pick_t rfl rfl) ?_
             refine r_val .none rfl (p_assign rfl) ?_
             refine r_nil ?_
             refine e_next ?_
             refine c_ret ?_
             refine e_ret1 Try.results31 (.tmp rfl .nil) (fun w hm => ⟨?_, hm.since⟩)
             clear hm
             simp_all [hasK, triL, at_]
             )
          ·
           first
            | (exfalso; omega)
            | (
             refine r_val (.some rfl rfl) rfl (p_iaddr (k := 2) Try.underlying60 sz3 rfl rfl (by first | exact of_decide_eq_true rfl | omega)) ?_
             refine r_val (.some rfl rfl) rfl (p_ld (k := 0) Try.underlying3 rfl rfl rfl (by first | exact of_decide_eq_true rfl | omega) (rfl : _ = Value.int _ _)) ?_
             refine r_val (.some rfl rfl) rfl (p_iaddr (k := 2) Try.underlying60 sz3 rfl rfl (by first | exact of_decide_eq_true rfl | omega)) ?_
             refine r_val (.some rfl rfl) rfl (p_ld (k := 1) Try.underlying3 rfl rfl rfl (by first | exact of_decide_eq_true rfl | omega) (rfl : _ = Value.int _ _)) ?_
             refine r_val (.some rfl rfl) rfl (p_eq rfl rfl) ?_
             refine r_val (.some rfl rfl) rfl (p_pick_f rfl rfl) ?_
             refine r_val .none rfl (p_pick_t rfl rfl) ?_
             refine r_val .none rfl (p_assign rfl) ?_
             refine r_nil ?_
             refine e_next ?_
             refine c_ret ?_
             refine e_ret1 Try.results31 (.tmp rfl .nil) (fun w hm => ⟨?_, hm.since⟩)
             clear hm
             simp_all [hasK, triL, at_]
             )
          )
       ·
        first
         | (exfalso; omega)
         | (
          refine r_skip rfl (.no rfl rfl) ?_
          refine r_skip rfl (.no rfl rfl) ?_
          refine r_skip rfl (.no rfl rfl) ?_
          refine r_skip rfl (.no rfl rfl) ?_
          refine r_skip rfl (.un rfl rfl) ?_
          refine r_skip rfl (.un rfl rfl) ?_
          refine r_skip rfl (.un rfl rfl) ?_
          refine r_skip rfl (.un rfl rfl) ?_
          refine r_skip rfl (.un rfl rfl) ?_
          refine r_skip rfl (.no rfl rfl) ?_
          refine r_val .none rfl (p_pick_f rfl rfl) ?_
          refine r_val .none rfl (p_assign rfl) ?_
          refine r_nil ?_
          refine e_next ?_
          refine c_ret ?_
          refine e_ret1 Try.results31 (.tmp rfl .nil) (fun w hm => ⟨?_, hm.since⟩)
          clear hm
          simp_all [hasK, triL, at_]
          )
       )
    )
 ·
  first
   | (exfalso; omega)
   | (
    refine r_val (.some rfl rfl) rfl (p_iaddr (k := 0) Try.underlying60 sz3 rfl rfl (by first | exact of_decide_eq_true rfl | omega)) ?_
    refine r_val (.some rfl rfl) rfl (p_ld (k := 0) Try.underlying3 rfl rfl rfl (by first | exact of_decide_eq_true rfl | omega) (rfl : _ = Value.int _ _)) ?_
    refine r_val (.some rfl rfl) rfl (p_iaddr (k := 0) Try.underlying60 sz3 rfl rfl (by first | exact of_decide_eq_true rfl | omega)) ?_
    refine r_val (.some rfl rfl) rfl (p_ld (k := 1) Try.underlying3 rfl rfl rfl (by first | exact of_decide_eq_true rfl | omega) (rfl : _ = Value.int _ _)) ?_
    refine r_val (.some rfl rfl) rfl (p_eq rfl rfl) ?_
    refine r_val .none rfl (p_pick_f rfl rfl) ?_
    refine r_val .none rfl (p_move rfl) ?_
    refine r_splitd (d := 15) rfl (fun h_6 => ?_) (fun h_6 => ?_)
    ·
     first
      | (exfalso; omega)
      | (
       refine r_val (.some rfl rfl) rfl (p_iaddr (k := 1) Try.underlying60 sz3 rfl rfl (by first | exact of_decide_eq_true rfl | omega)) ?_
       refine r_val (.some rfl rfl) rfl (p_ld (k := 0) Try.underlying3 rfl rfl rfl (by first | exact of_decide_eq_true rfl | omega) (rfl : _ = Value.int _ _)) ?_
       refine r_val (.some rfl rfl) rfl (p_eq rfl rfl) ?_
       refine r_val (.some rfl rfl) rfl (p_move rfl) ?_
       refine r_splitd (d := 19) rfl (fun h_7 => ?_) (fun h_7 => ?_)
       ·
        first
         | (exfalso; omega)
         | (
          refine r_skip rfl (.no rfl rfl) ?_
          refine r_skip rfl (.no rfl rfl) ?_
          refine r_skip rfl (.no rfl rfl) ?_
          refine r_skip rfl (.no rfl rfl) ?_
          refine r_skip rfl (.no rfl rfl) ?_
          refine r_val (.some rfl rfl) rfl (p_pick_t rfl rfl) ?_
          refine r_val .none rfl (p_pick_t rfl rfl) ?_
          refine r_val .none rfl (p_move rfl) ?_
          refine r_val (.some rfl rfl) rfl (p_iaddr (k := 2) Try.underlying60 sz3 rfl rfl (by first | exact of_decide_eq_true rfl | omega)) ?_
          refine r_val (.some rfl rfl) rfl (p_ld (k := 0) Try.underlying3 rfl rfl rfl (by first | exact of_decide_eq_true rfl | omega) (rfl : _ = Value.int _ _)) ?_
          refine r_val (.some rfl rfl) rfl (p_eq rfl rfl) ?_
          refine r_val (.some rfl rfl) rfl (p_move rfl) ?_
          refine r_splitd (d := 31) rfl (fun h_8 => ?_) (fun h_8 => ?_)
          ·
           first
            | (exfalso; omega)
            | (
             refine r_skip rfl (.no rfl rfl) ?_
             refine r_skip rfl (.no rfl rfl) ?_
             refine r_skip rfl (.no rfl rfl) ?_
             refine r_skip rfl (.no rfl rfl) ?_
             refine r_skip rfl (.no rfl rfl) ?_
             refine r_val (.some rfl rfl) rfl (p_pick_t rfl rfl) ?_
             refine r_val .none rfl (p_pick_t rfl rfl) ?_
             refine r_val .none rfl (p_assign rfl) ?_
             refine r_nil ?_
             refine e_next ?_
             refine c_ret ?_
             refine e_ret1 Try.results31 (.tmp rfl .nil) (fun w hm => ⟨?_, hm.since⟩)
             clear hm
             simp_all [hasK, triL, at_]
             )
          ·
           first
            | (exfalso; omega)
            | (
             refine r_val (.some rfl rfl) rfl (p_iaddr (k := 2) Try.underlying60 sz3 rfl rfl (by first | exact of_decide_eq_true rfl | omega)) ?_
             refine r_val (.some rfl rfl) rfl (p_ld (k := 0) Try.underlying3 rfl rfl rfl (by first | exact of_decide_eq_true rfl | omega) (rfl : _ = Value.int _ _)) ?_
             refine r_val (.some rfl rfl) rfl (p_iaddr (k := 2) Try.underlying60 sz3 rfl rfl (by first | exact of_decide_eq_true rfl | omega)) ?_
             refine r_val (.some rfl rfl) rfl (p_ld (k := 1) Try.underlying3 rfl rfl rfl (by first | exact of_decide_eq_true rfl | omega) (rfl : _ = Value.int _ _)) ?_
             refine r_val (.some rfl rfl) rfl (p_eq rfl rfl) ?_
             refine r_val (.some rfl rfl) rfl (p_pick_f rfl rfl) ?_
             refine r_val .none rfl (p_pick_t rfl rfl) ?_
             refine r_val .none rfl (p_assign rfl) ?_
             refine r_nil ?_
             refine e_next ?_
             refine c_ret ?_
             refine e_ret1 Try.results31 (.tmp rfl .nil) (fun w hm => ⟨?_, hm.since⟩)
             clear hm
             simp_all [hasK, triL, at_]
             )
          )
       ·
        first
         | (exfalso; omega)
         | (
          refine r_val (.some rfl rfl) rfl (p_iaddr (k := 1) Try.underlying60 sz3 rfl rfl (by first | exact of_decide_eq_true rfl | omega)) ?_
          refine r_val (.some rfl rfl) rfl (p_ld (k := 0) Try.underlying3 rfl rfl rfl (by first | exact of_decide_eq_true rfl | omega) (rfl : _ = Value.int _ _)) ?_
          refine r_val (.some rfl rfl) rfl (p_iaddr (k := 1) Try.underlying60 sz3 rfl rfl (by first | exact of_decide_eq_true rfl | omega)) ?_
          refine r_val (.some rfl rfl) rfl (p_ld (k := 1) Try.underlying3 rfl rfl rfl (by first | exact of_decide_eq_true rfl | omega) (rfl : _ = Value.int _ _)) ?_
          refine r_val (.some rfl rfl) rfl (p_eq rfl rfl) ?_
          refine r_val (.some rfl rfl) rfl (p_pick_f rfl rfl) ?_
          refine r_val .none rfl (p_pick_t rfl rfl) ?_
          refine r_val .none rfl (p_move rfl) ?_
          refine r_splitd (d := 27) rfl (fun h_9 => ?_) (fun h_9 => ?_)
          ·
           first
            | (exfalso; omega)
            | (
             refine r_val (.some rfl rfl) rfl (p_iaddr (k := 2) Try.underlying60 sz3 rfl rfl (by first | exact of_decide_eq_true rfl | omega)) ?_
             refine r_val (.some rfl rfl) rfl (p_ld (k := 0) Try.underlying3 rfl rfl rfl (by first | exact of_decide_eq_true rfl | omega) (rfl : _ = Value.int _ _)) ?_
             refine r_val (.some rfl rfl) rfl (p_eq rfl rfl) ?_
             refine r_val (.some rfl rfl) rfl (p_move rfl) ?_
             refine r_splitd (d := 31) rfl (fun h_10 => ?_) (fun h_10 => ?_)
             ·
              first
               | (exfalso; omega)
               | (
                refine r_skip rfl (.no rfl rfl) ?_
                refine r_skip rfl (.no rfl rfl) ?_
                refine r_skip rfl (.no rfl rfl) ?_
                refine r_skip rfl (.no rfl rfl) ?_
                refine r_skip rfl (.no rfl rfl) ?_
                refine r_val (.some rfl rfl) rfl (p_pick_t rfl rfl) ?_
                refine r_val .none rfl (p_pick_t rfl rfl) ?_
                refine r_val .none rfl (p_assign rfl) ?_
                refine r_nil ?_
                refine e_next ?_
                refine c_ret ?_
                refine e_ret1 Try.results31 (.tmp rfl .nil) (fun w hm => ⟨?_, hm.since⟩)
                clear hm
                simp_all [hasK, triL, at_]
                )
             ·
              first
               | (exfalso; omega)
               | (
                refine r_val (.some rfl rfl) rfl (p_iaddr (k := 2) Try.underlying60 sz3 rfl rfl (by first | exact of_decide_eq_true rfl | omega)) ?_
                refine r_val (.some rfl rfl) rfl (p_ld (k := 0) Try.underlying3 rfl rfl rfl (by first | exact of_decide_eq_true rfl | omega) (rfl : _ = Value.int _ _)) ?_
                refine r_val (.some rfl rfl) rfl (p_iaddr (k := 2) Try.underlying60 sz3 rfl rfl (by first | exact of_decide_eq_true rfl | omega)) ?_
                refine r_val (.some rfl rfl) rfl (p_ld (k := 1) Try.underlying3 rfl rfl rfl (by first | exact of_decide_eq_true rfl | omega) (rfl : _ = Value.int _ _)) ?_
                refine r_val (.some rfl rfl) rfl (p_eq rfl rfl) ?_
                refine r_val (.some rfl rfl) rfl (p_pick_f rfl rfl) ?_
                refine r_val .none rfl (p_pick_t rfl rfl) ?_
                refine r_val .none rfl (p_assign rfl) ?_
                refine r_nil ?_
                refine e_next ?_
                refine c_ret ?_
                refine e_ret1 Try.results31 (.tmp rfl .nil) (fun w hm => ⟨?_, hm.since⟩)
                clear hm
                simp_all [hasK, triL, at_]
                )
             )
          ·
           first
            | (exfalso; omega)
            | (
             refine r_skip rfl (.no rfl rfl) ?_
             refine r_skip rfl (.no rfl rfl) ?_
             refine r_skip rfl (.no rfl rfl) ?_
             refine r_skip rfl (.no rfl rfl) ?_
             refine r_skip rfl (.un rfl rfl) ?_
             refine r_skip rfl (.un rfl rfl) ?_
             refine r_skip rfl (.un rfl rfl) ?_
             refine r_skip rfl (.un rfl rfl) ?_
             refine r_skip rfl (.un rfl rfl) ?_
             refine r_skip rfl (.no rfl rfl) ?_
             refine r_val .none rfl (p_pick_f rfl rfl) ?_
             refine r_val .none rfl (p_assign rfl) ?_
             refine r_nil ?_
             refine e_next ?_
             refine c_ret ?_
             refine e_ret1 Try.results31 (.tmp rfl .nil) (fun w hm => ⟨?_, hm.since⟩)
             clear hm
             simp_all [hasK, triL, at_]
             )
          )
       )
    ·
     first
      | (exfalso; omega)
      | (
       refine r_skip rfl (.no rfl rfl) ?_
       refine r_skip rfl (.no rfl rfl) ?_
       refine r_skip rfl (.no rfl rfl) ?_
       refine r_skip rfl (.no rfl rfl) ?_
       refine r_skip rfl (.un rfl rfl) ?_
       refine r_skip rfl (.un rfl rfl) ?_
       refine r_skip rfl (.un rfl rfl) ?_
       refine r_skip rfl (.un rfl rfl) ?_
       refine r_skip rfl (.un rfl rfl) ?_
       refine r_skip rfl (.no rfl rfl) ?_
       refine r_val .none rfl (p_pick_f rfl rfl) ?_
       refine r_val .none rfl (p_move rfl) ?_
       refine r_skip rfl (.no rfl rfl) ?_
       refine r_skip rfl (.no rfl rfl) ?_
       refine r_skip rfl (.no rfl rfl) ?_
       refine r_skip rfl (.no rfl rfl) ?_
       refine r_skip rfl (.un rfl rfl) ?_
       refine r_skip rfl (.un rfl rfl) ?_
       refine r_skip rfl (.un rfl rfl) ?_
       refine r_skip rfl (.un rfl rfl) ?_
       refine r_skip rfl (.un rfl rfl) ?_
       refine r_skip rfl (.no rfl rfl) ?_
       refine r_val .none rfl (p_pick_f rfl rfl) ?_
       refine r_val .none rfl (p_assign rfl) ?_
       refine r_nil ?_
       refine e_next ?_
       refine c_ret ?_
       refine e_ret1 Try.results31 (.tmp rfl .nil) (fun w hm => ⟨?_, hm.since⟩)
       clear hm
       simp_all [hasK, triL, at_]
       )
    )
end Go.Proofs.Ytdcaehepmkhciaa

/- Walks: what Go functions of this chapter come to, each as a function on plain data; no condition but those that each theorem names. Printed by a program of this work (gen.py). -/
namespace Go.Proofs.Ytdcaehepmkhciaa
open Go.Gx Go.Gx Go.Gx.T10 Go.Gx.T12 Go.Gx.T10 Go.Gx.T11
theorem sz5 : SzIs Try.prog 5 1 := by
 unfold SzIs
 kernel_rfl
theorem cl25 : Callable Try.prog 25 := callable Try.func25 (by kernel_rfl) rfl
theorem cl26 : Callable Try.prog 26 := callable Try.func26 (by kernel_rfl) rfl
theorem cl27 : Callable Try.prog 27 := callable Try.func27 (by kernel_rfl) rfl
theorem cl30 : Callable Try.prog 30 := callable Try.func30 (by kernel_rfl) rfl
theorem cl31 : Callable Try.prog 31 := callable Try.func31 (by kernel_rfl) rfl
theorem cl32 : Callable Try.prog 32 := callable Try.func32 (by kernel_rfl) rfl
theorem bs3_10i2 (a0 : IntKind) (a1 : Int) : Instr.fill (fun i => some (i * 1, 1)) ((Array.range (1 * 1)).map ((Value.int .i64 0).cells[· % (Value.int .i64 0).cells.size]!)) [(0, Value.int a0 a1)] = some #[Value.int a0 a1] := by
 kernel_rfl
theorem bs66_10a4 (a0 a1 a2 a3 : Value) : Instr.fill (fun i => some (i * 4, 4)) ((Array.range (1 * 4)).map ((Value.agg #[Value.int .i64 0, Value.int .i64 0, Value.int .i64 0, Value.int .i64 0]).cells[· % (Value.agg #[Value.int .i64 0, Value.int .i64 0, Value.int .i64 0, Value.int .i64 0]).cells.size]!)) [(0, Value.agg #[a0, a1, a2, a3])] = some #[a0, a1, a2, a3] := by
 kernel_rfl
theorem el66 : ElemIs Try.prog 66 4 32 (Value.agg #[Value.int .i64 0, Value.int .i64 0, Value.int .i64 0, Value.int .i64 0]) := by
 unfold ElemIs
 kernel_rfl
theorem c_AlphaWhole (v : Value) (ls : List Tri) (vw : Value) (ws : List Tri) (vg : Value) (gs : List Nat) {G : Ghost} (hs : SlL G v 3 triL (0, 0, 0) ls) (hws : SlL G vw 3 triL (0, 0, 0) ws) (hgs : SlL G vg 1 cU (0 : Nat) gs) (w : World) (hG : Has G w) :
  Calls Try.prog 5 #[v, vw, vg] w (Ret fun r w' => r = Value.bool true ∧ Since nX w w') := by
 refine enter (args := [_, _, _]) (X := nX) (G := G) (l := [(0, v), (1, vw), (2, vg)]) Try.func5 rfl Try.ntmps5 hG ⟨rfl, rfl, rfl, trivial⟩ (Nat.le_of_ble_eq_true rfl) ?_
 refine c_seq ?_
 refine c_region ?_
 refine r_val .none rfl (p_assign rfl) ?_
 refine r_nil ?_
 refine e_next ?_
 refine c_seq ?_
 refine c_region ?_
 refine r_callnew (vs := []) .none rfl cl24 rfl (fun w hw => c_snew w hw) (fun p_1 => ?_)
 refine r_val .none rfl (p_assign rfl) ?_
 refine r_nil ?_
 refine e_next ?_
 refine c_seq ?_
 refine c_seq ?_
 refine c_region ?_
 refine r_val .none rfl (p_move rfl) ?_
 refine r_val .none rfl (p_leng Try.underlying56 rfl hs) ?_
 have bd_2 := (hs).bound
 refine r_val .none rfl (p_gt rfl rfl) ?_
 refine r_val .none rfl (p_move rfl) ?_
 refine r_splitd (d := 24) rfl (fun h_3 => ?_) (fun h_3 => ?_)
 ·
  first
   | (exfalso; first | omega | assumption)
   | (
    refine r_skip rfl (.no rfl rfl) ?_
    refine r_skip rfl (.no rfl rfl) ?_
    refine r_skip rfl (.no rfl rfl) ?_
    refine r_val .none rfl (p_pick_t rfl rfl) ?_
    refine r_val .none rfl (p_move rfl) ?_
    refine r_skip rfl (.no rfl rfl) ?_
    refine r_skip rfl (.no rfl rfl) ?_
    refine r_skip rfl (.no rfl rfl) ?_
    refine r_val .none rfl (p_pick_t rfl rfl) ?_
    refine r_val .none rfl (p_move rfl) ?_
    refine r_skip rfl (.no rfl rfl) ?_
    refine r_skip rfl (.no rfl rfl) ?_
    refine r_val .none rfl (p_pick_t rfl rfl) ?_
    refine r_nil ?_
    refine e_next ?_
    refine c_cond_t rfl ?_
    refine c_seq ?_
    refine c_region ?_
    refine r_val .none rfl (p_move rfl) ?_
    refine r_val .none rfl (p_ne_ptr Try.underlying58 (by first | exact .inr rfl | exact .inl rfl) rfl rfl) ?_
    refine r_say (d := 39) (v := Value.bool true) rfl ?_
    refine r_val .none rfl (p_move rfl) ?_
    refine r_call (vs := []) (.some rfl rfl) rfl cl25 rfl (fun w hw => c_awake12 w) ?_
    refine r_val .none rfl (p_pick_t rfl rfl) ?_
    refine r_val .none rfl (p_assign rfl) ?_
    refine r_nil ?_
    refine e_next ?_
    refine c_ret ?_
    refine e_ret_then ?_
    refine e_ret1 Try.results5 (.tmp rfl .nil) (fun w hm => ⟨?_, hm.since⟩)
    first
    | rfl
    | exact hx.elim
    | (simp; done)
    )
 ·
  first
   | (exfalso; first | omega | assumption)
   | (
    refine r_val (.some rfl rfl) rfl (p_move rfl) ?_
    refine r_val (.some rfl rfl) rfl (p_leng Try.underlying56 rfl hws) ?_
    have bd_4 := (hws).bound
    refine r_val (.some rfl rfl) rfl (p_gt rfl rfl) ?_
    refine r_val .none rfl (p_pick_f rfl rfl) ?_
    refine r_val .none rfl (p_move rfl) ?_
    refine r_splitd (d := 29) rfl (fun h_5 => ?_) (fun h_5 => ?_)
    ·
     first
      | (exfalso; first | omega | assumption)
      | (
       refine r_skip rfl (.no rfl rfl) ?_
       refine r_skip rfl (.no rfl rfl) ?_
       refine r_skip rfl (.no rfl rfl) ?_
       refine r_val .none rfl (p_pick_t rfl rfl) ?_
       refine r_val .none rfl (p_move rfl) ?_
       refine r_skip rfl (.no rfl rfl) ?_
       refine r_skip rfl (.no rfl rfl) ?_
       refine r_val .none rfl (p_pick_t rfl rfl) ?_
       refine r_nil ?_
       refine e_next ?_
       refine c_cond_t rfl ?_
       refine c_seq ?_
       refine c_region ?_
       refine r_val .none rfl (p_move rfl) ?_
       refine r_val .none rfl (p_ne_ptr Try.underlying58 (by first | exact .inr rfl | exact .inl rfl) rfl rfl) ?_
       refine r_say (d := 39) (v := Value.bool true) rfl ?_
       refine r_val .none rfl (p_move rfl) ?_
       refine r_call (vs := []) (.some rfl rfl) rfl cl25 rfl (fun w hw => c_awake12 w) ?_
       refine r_val .none rfl (p_pick_t rfl rfl) ?_
       refine r_val .none rfl (p_assign rfl) ?_
       refine r_nil ?_
       refine e_next ?_
       refine c_ret ?_
       refine e_ret_then ?_
       refine e_ret1 Try.results5 (.tmp rfl .nil) (fun w hm => ⟨?_, hm.since⟩)
       first
       | rfl
       | exact hx.elim
       | (simp; done)
       )
    ·
     first
      | (exfalso; first | omega | assumption)
      | (
       refine r_val (.some rfl rfl) rfl (p_move rfl) ?_
       refine r_val (.some rfl rfl) rfl (p_leng Try.underlying57 rfl hgs) ?_
       have bd_6 := (hgs).bound
       refine r_val (.some rfl rfl) rfl (p_gt rfl rfl) ?_
       refine r_val .none rfl (p_pick_f rfl rfl) ?_
       refine r_val .none rfl (p_move rfl) ?_
       refine r_splitd (d := 34) rfl (fun h_7 => ?_) (fun h_7 => ?_)
       ·
        first
         | (exfalso; first | omega | assumption)
         | (
          refine r_skip rfl (.no rfl rfl) ?_
          refine r_skip rfl (.no rfl rfl) ?_
          refine r_val .none rfl (p_pick_t rfl rfl) ?_
          refine r_nil ?_
          refine e_next ?_
          refine c_cond_t rfl ?_
          refine c_seq ?_
          refine c_region ?_
          refine r_val .none rfl (p_move rfl) ?_
          refine r_val .none rfl (p_ne_ptr Try.underlying58 (by first | exact .inr rfl | exact .inl rfl) rfl rfl) ?_
          refine r_say (d := 39) (v := Value.bool true) rfl ?_
          refine r_val .none rfl (p_move rfl) ?_
          refine r_call (vs := []) (.some rfl rfl) rfl cl25 rfl (fun w hw => c_awake12 w) ?_
          refine r_val .none rfl (p_pick_t rfl rfl) ?_
          refine r_val .none rfl (p_assign rfl) ?_
          refine r_nil ?_
          refine e_next ?_
          refine c_ret ?_
          refine e_ret_then ?_
          refine e_ret1 Try.results5 (.tmp rfl .nil) (fun w hm => ⟨?_, hm.since⟩)
          first
          | rfl
          | exact hx.elim
          | (simp; done)
          )
       ·
        first
         | (exfalso; first | omega | assumption)
         | (
          refine r_val (.some rfl rfl) rfl (p_move rfl) ?_
          refine r_val (.some rfl rfl) rfl (p_eq_ptr Try.underlying58 (by first | exact .inr rfl | exact .inl rfl) rfl rfl) ?_
          refine r_say (d := 36) (v := Value.bool false) rfl ?_
          refine r_val .none rfl (p_pick_f rfl rfl) ?_
          refine r_nil ?_
          refine e_next ?_
          refine c_cond_f rfl ?_
          refine c_skip ?_
          refine e_next ?_
          refine c_seq ?_
          refine c_seq ?_
          refine c_region ?_
          refine r_val .none rfl (p_move rfl) ?_
          refine r_val .none rfl (p_leng Try.underlying56 rfl hws) ?_
          have bd_8 := (hws).bound
          refine r_val .none rfl (p_move rfl) ?_
          refine r_nil ?_
          refine e_next ?_
          refine c_block ?_
          refine c_name (d := 0) rfl (fun u_9 hu_9 => ?_)
          refine c_name (d := 1) rfl (fun u_10 hu_10 => ?_)
          refine c_name (d := 2) rfl (fun u_11 hu_11 => ?_)
          refine c_name (d := 7) rfl (fun u_12 hu_12 => ?_)
          refine c_name (d := 43) rfl (fun u_13 hu_13 => ?_)
          refine c_name (d := 44) rfl (fun u_14 hu_14 => ?_)
          refine c_nameL (k := 0) rfl (fun A_15 hA_15 => ?_)
          refine c_loop (σ := Nat) (fun q => [(45, Value.int .i64 (q : Nat)), (0, u_9), (1, u_10), (2, u_11), (7, u_12), (43, u_13), (44, u_14)]) (fun q => [A_15]) (fun _ => _) (fun q => q ≤ ws.length) (fun q => ws.length - q) (0) (Nat.zero_le _) rfl ⟨rfl, rfl, rfl, rfl, rfl, rfl, rfl, trivial⟩ (.keep (fun _ _ h => h) (.nil)) (fun q hphi => ?_)
          subst hu_9
          subst hu_10
          subst hu_11
          subst hu_12
          subst hu_13
          subst hu_14
          subst hA_15
          refine c_seq ?_
          refine c_region ?_
          refine r_val .none rfl (p_lt rfl rfl) ?_
          refine r_nil ?_
          refine e_next ?_
          refine c_seq ?_
          refine c_splitd (d := 46) rfl (fun h_16 => ?_) (fun h_16 => ?_)
          ·
           first
            | (exfalso; first | omega | assumption)
            | (
             refine c_cond_t rfl ?_
             refine c_skip ?_
             refine e_next ?_
             refine c_seq ?_
             refine c_block ?_
             refine c_seq ?_
             refine c_region ?_
             refine r_iaddr_g .none rfl Try.underlying56 sz61 rfl hws rfl (by first | exact of_decide_eq_true rfl | omega) (fun p_18 o_19 R_17 => ?_)
             refine r_val .none rfl (p_ldga0 Try.underlying61 rfl sz61 rfl R_17 (by first | exact of_decide_eq_true rfl | omega) (rfl : _ = Value.agg #[_, _, _])) ?_
             refine r_alloc .none rfl zr61 (IsRow.lit _) (fun b_1 => ?_)
             refine r_stw (k := 0) .none sz61 rfl rfl (IsRow.lit _) (one_lit rfl rfl) rfl ?_
             refine r_nil ?_
             refine e_next ?_
             refine c_seq ?_
             refine c_region ?_
             refine r_val .none rfl (p_ldw (k := 0) Try.underlying61 rfl sz61 rfl rfl (rfl : _ = Value.agg #[_, _, _])) ?_
             refine r_call (vs := [_]) .none rfl cl26 rfl (fun w hw => c_r7right _ w) ?_
             refine r_val .none rfl (p_not rfl) ?_
             refine r_nil ?_
             refine e_next ?_
             refine c_splitn (d := 51) rfl (fun h_20 => ?_) (fun h_20 => ?_)
             ·
              first
               | (exfalso; first | omega | assumption)
               | (
                refine c_cond_t rfl ?_
                refine c_seq ?_
                refine c_region ?_
                refine r_call (vs := []) .none rfl cl25 rfl (fun w hw => c_awake12 w) ?_
                refine r_val .none rfl (p_assign rfl) ?_
                refine r_nil ?_
                refine e_next ?_
                refine c_ret ?_
                refine e_ret_block ?_
                refine e_ret_then ?_
                refine e_ret_then ?_
                refine e_ret_block ?_
                refine e_ret_then ?_
                refine e_ret1 Try.results5 (.tmp rfl .nil) (fun w hm => ⟨?_, hm.since⟩)
                first
                | rfl
                | exact hx.elim
                | (simp; done)
                )
             ·
              first
               | (exfalso; first | omega | assumption)
               | (
                refine c_cond_f rfl ?_
                refine c_skip ?_
                refine e_norm_block ?_
                refine e_next ?_
                refine c_region ?_
                refine r_val .none rfl (p_add rfl rfl (by omega)) ?_
                refine r_val .none rfl (p_move rfl) ?_
                refine r_nil ?_
                refine e_round (q + 1) ⟨by omega, by omega⟩ rfl ⟨rfl, rfl, rfl, rfl, rfl, rfl, rfl, trivial⟩ (.drop (.keep (fun _ _ h => h) (.nil)))
                )
             )
          ·
           first
            | (exfalso; first | omega | assumption)
            | (
             refine c_cond_f rfl ?_
             refine c_exit ?_
             refine e_exit_then ?_
             refine e_exit_then ?_
             refine e_exit_block ?_
             refine e_next ?_
             refine c_seq ?_
             refine c_region ?_
             refine r_val .none rfl (p_assign rfl) ?_
             refine r_nil ?_
             refine e_next ?_
             refine c_seq ?_
             refine c_seq ?_
             refine c_region ?_
             refine r_val .none rfl (p_move rfl) ?_
             refine r_val .none rfl (p_leng Try.underlying56 rfl hs) ?_
             have bd_21 := (hs).bound
             refine r_val .none rfl (p_move rfl) ?_
             refine r_nil ?_
             refine e_next ?_
             refine c_block ?_
             refine c_nilrow 66 4 ?_
             refine c_name (d := 0) rfl (fun u_22 hu_22 => ?_)
             refine c_name (d := 1) rfl (fun u_23 hu_23 => ?_)
             refine c_name (d := 2) rfl (fun u_24 hu_24 => ?_)
             refine c_name (d := 7) rfl (fun u_25 hu_25 => ?_)
             refine c_name (d := 54) rfl (fun u_26 hu_26 => ?_)
             refine c_name (d := 55) rfl (fun u_27 hu_27 => ?_)
             refine c_loop (σ := Nat × List (Tri × Int) × SC × List FD × Value × Ghost) (fun s => [(56, Value.int .i64 (s.1 : Nat)), (10, s.2.2.2.2.1), (0, u_22), (1, u_23), (2, u_24), (7, u_25), (54, u_26), (55, u_27)]) (fun s => [rowA (s.2.2.2.2.1) 66 4 (s.2.2.2.1).length ((s.2.2.2.1).flatMap fC), storeA p_1 s.2.1 (((ws.take s.1).length : Nat) : Int) s.2.2.1]) (fun s => s.2.2.2.2.2) (fun s => s.1 ≤ ls.length ∧ Whole s.2.1 s.2.2.1 s.2.2.2.1 (ws.take s.1) s.1 ∧ GNew w nX G s.2.2.2.2.2) (fun s => ls.length - s.1) ((0, [], [], [], _, _)) ⟨Nat.zero_le _, Whole.start, GNew.refl _ _ _⟩ rfl ⟨rfl, rfl, rfl, rfl, rfl, rfl, rfl, rfl, trivial⟩ (.keep (fun _ _ h => rowA_nil rfl _ _ h) (.keep (fun _ _ h => h) (.nil))) (fun s hphi => ?_)
             subst hu_22
             subst hu_23
             subst hu_24
             subst hu_25
             subst hu_26
             subst hu_27
             obtain ⟨j, u, c, fs, fv, H⟩ := s
             obtain ⟨hj, hW, hgn⟩ := hphi
             dsimp only at hj hW hgn ⊢
             have hfl := hW.len
             have hns : (ws.take j).length ≤ 1000 := by rw [List.length_take]; omega
             replace hs := hs.mono hgn.le
             replace hws := hws.mono hgn.le
             replace hgs := hgs.mono hgn.le
             refine c_seq ?_
             refine c_region ?_
             refine r_val .none rfl (p_lt rfl rfl) ?_
             refine r_nil ?_
             refine e_next ?_
             refine c_seq ?_
             refine c_splitd (d := 57) rfl (fun h_28 => ?_) (fun h_28 => ?_)
             ·
              first
               | (exfalso; first | omega | assumption)
               | (
                refine c_cond_t rfl ?_
                refine c_skip ?_
                refine e_next ?_
                refine c_seq ?_
                refine c_block ?_
                refine c_seq ?_
                refine c_region ?_
                refine r_val .none rfl (p_move rfl) ?_
                refine r_iaddr_g .none rfl Try.underlying56 sz61 rfl hs rfl (by first | exact of_decide_eq_true rfl | omega) (fun p_30 o_31 R_29 => ?_)
                refine r_val .none rfl (p_ldga0 Try.underlying61 rfl sz61 rfl R_29 (by first | exact of_decide_eq_true rfl | omega) (rfl : _ = Value.agg #[_, _, _])) ?_
                refine r_alloc .none rfl zr61 (IsRow.lit _) (fun b_2 => ?_)
                refine r_val .none rfl (p_assign rfl) ?_
                refine r_stw (k := 0) .none sz61 rfl rfl (IsRow.lit _) (one_lit rfl rfl) rfl ?_
                refine r_nil ?_
                refine e_next ?_
                refine c_seq ?_
                refine c_seq ?_
                refine c_region ?_
                refine r_val .none rfl (p_ldw (k := 0) Try.underlying61 rfl sz61 rfl rfl (rfl : _ = Value.agg #[_, _, _])) ?_
                refine r_call (vs := [_]) .none rfl cl27 rfl (fun w hw => c_rtri (ls.getD j (0, 0, 0)) w) ?_
                refine r_val .none rfl (p_not rfl) ?_
                refine r_nil ?_
                refine e_next ?_
                refine c_splitn (d := 63) rfl (fun h_32 => ?_) (fun h_32 => ?_)
                ·
                 first
                  | (exfalso; first | omega | assumption)
                  | (
                   refine c_cond_t rfl ?_
                   refine c_seq ?_
                   refine c_region ?_
                   refine r_call (vs := []) .none rfl cl25 rfl (fun w hw => c_awake12 w) ?_
                   refine r_val .none rfl (p_assign rfl) ?_
                   refine r_nil ?_
                   refine e_next ?_
                   refine c_ret ?_
                   refine e_ret_then ?_
                   refine e_ret_block ?_
                   refine e_ret_then ?_
                   refine e_ret_then ?_
                   refine e_ret_block ?_
                   refine e_ret_then ?_
                   refine e_ret1 Try.results5 (.tmp rfl .nil) (fun w hm => ⟨?_, hm.since⟩)
                   first
                   | rfl
                   | exact hx.elim
                   | (simp; done)
                   )
                ·
                 first
                  | (exfalso; first | omega | assumption)
                  | (
                   refine c_cond_f rfl ?_
                   refine c_skip ?_
                   refine e_next ?_
                   refine c_seq ?_
                   refine c_seq ?_
                   refine c_region ?_
                   refine r_val .none rfl (p_move rfl) ?_
                   refine r_val .none rfl (p_move rfl) ?_
                   refine r_val .none rfl (p_leng Try.underlying56 rfl hws) ?_
                   have bd_33 := (hws).bound
                   refine r_val .none rfl (p_lt rfl rfl) ?_
                   refine r_nil ?_
                   refine e_next ?_
                   refine c_splitd (d := 68) rfl (fun h_34 => ?_) (fun h_34 => ?_)
                   ·
                    have hw1 : j < ws.length := by (have h9 := h_34; omega)
                    first
                     | (exfalso; first | omega | assumption)
                     | (
                      refine c_cond_t rfl ?_
                      refine c_region ?_
                      refine r_val .none rfl (p_move rfl) ?_
                      refine r_val .none rfl (p_move rfl) ?_
                      refine r_val .none rfl (p_move rfl) ?_
                      refine r_iaddr_g .none rfl Try.underlying56 sz61 rfl hws rfl (by first | exact of_decide_eq_true rfl | omega) (fun p_36 o_37 R_35 => ?_)
                      refine r_val .none rfl (p_ldga0 Try.underlying61 rfl sz61 rfl R_35 (by first | exact of_decide_eq_true rfl | omega) (rfl : _ = Value.agg #[_, _, _])) ?_
                      refine r_val .none rfl (p_move rfl) ?_
                      refine r_front (k := 2) rfl ?_
                      refine r_front (k := 2) rfl ?_
                      refine r_pack [_, _] ?_
                      refine r_callo (k := 0) (vs := [_, _, _]) .none rfl cl28 rfl rfl (fun w F hw hA hFG => with_row (R := fun r => r = _) (B := fun _ => storeA _ (tAdd u (ws.getD j (0, 0, 0))) ((((ws.take j).length : Nat) : Int) + 1) (wantC c (ws.getD j (0, 0, 0)) fs (cnt u (ws.getD j (0, 0, 0))))) (fun G' F' hle hsl hw hA hFG => c_swant _ (ws.getD j (0, 0, 0)) _ fs u (((ws.take j).length : Nat) : Int) c (hW.cb hns _) (by omega) (SlL.of (cells := fC) (0, zT) (fun _ => rfl) rfl hsl) (hW.hinv _) w hw hA hFG) hw hA hFG) ?_
                      refine r_unpack ?_
                      refine r_nil ?_
                      refine e_next ?_
                      refine c_seq ?_
                      refine c_region ?_
                      refine r_val .none rfl (p_move rfl) ?_
                      refine r_val .none rfl (p_add rfl rfl (by omega)) ?_
                      refine r_val .none rfl (p_ldw (k := 2) Try.underlying61 rfl sz61 rfl rfl (rfl : _ = Value.agg #[_, _, _])) ?_
                      refine r_val .none rfl (p_build (vs := [(0, Value.int _ _), (1, Value.agg #[_, _, _])]) rfl (bl66_0i1_1a3 _ _ _ _)) ?_
                      refine r_alloc .none rfl zr66 (IsRow.lit _) (fun b_3 => ?_)
                      refine r_stw (k := 0) .none sz66 rfl rfl (IsRow.lit _) (one_lit rfl rfl) rfl ?_
                      refine r_nil ?_
                      refine e_next ?_
                      refine c_seq ?_
                      refine c_region ?_
                      refine r_val .none rfl (p_move rfl) ?_
                      refine r_val .none rfl (p_ldw (k := 0) Try.underlying66 rfl sz66 rfl rfl (rfl : _ = Value.agg #[_, _, _, _])) ?_
                      refine r_front (k := 2) rfl ?_
                      refine r_callor (k := 0) (vs := [_, _]) .none rfl cl29 rfl rfl (fun w F hw hA hFG => c_sadd _ ((j : Int) + 1, (ls.getD j (0, 0, 0))) (tAdd u (ws.getD j (0, 0, 0))) ((((ws.take j).length : Nat) : Int) + 1) (wantC c (ws.getD j (0, 0, 0)) fs (cnt u (ws.getD j (0, 0, 0)))) w hw hA hFG) (fun r_38 => ?_)
                      refine r_unpack ?_
                      have hW2 := (hW.want (ws.getD j (0, 0, 0))).add (ls.getD j (0, 0, 0))
                      rw [← take_next (0, 0, 0) hw1] at hW2
                      refine r_nil ?_
                      refine e_next ?_
                      refine c_seq ?_
                      refine c_region ?_
                      refine r_val .none rfl (p_move rfl) ?_
                      refine r_val .none rfl (p_ldw (k := 2) Try.underlying66 rfl sz66 rfl rfl (rfl : _ = Value.agg #[_, _, _, _])) ?_
                      refine r_bslice (vs := [(0, Value.agg #[_, _, _, _])]) (c := #[_, _, _, _]) .none rfl Try.underlying63 el66 rfl rfl rfl (bs66_10a4 _ _ _ _) (IsRow.lit _) (fun b_4 => ?_)
                      refine r_append (k := 4) (k2 := 0) .none rfl Try.underlying63 el66 rfl (by decide) rfl rfl rfl rfl rfl (one_lit rfl rfl) (by simp only [maxLen]; omega) (by omega) (fun v_39 => ?_)
                      refine r_row1 (k := 4) rfl (fun o_40 => ?_)
                      refine r_val .none rfl (p_assign rfl) ?_
                      refine r_nil ?_
                      refine e_next ?_
                      refine c_seq ?_
                      refine c_region ?_
                      refine r_val .none rfl (p_move rfl) ?_
                      refine r_val .none rfl (p_move rfl) ?_
                      refine r_val .none rfl (p_leng Try.underlying57 rfl hgs) ?_
                      have bd_41 := (hgs).bound
                      refine r_val .none rfl (p_lt rfl rfl) ?_
                      refine r_val .none rfl (p_move rfl) ?_
                      refine r_splitd (d := 91) rfl (fun h_42 => ?_) (fun h_42 => ?_)
                      ·
                       first
                        | (exfalso; first | omega | assumption)
                        | (
                         refine r_val (.some rfl rfl) rfl (p_move rfl) ?_
                         refine r_val (.some rfl rfl) rfl (p_move rfl) ?_
                         refine r_iaddr_g (.some rfl rfl) rfl Try.underlying57 sz5 rfl hgs rfl (by first | exact of_decide_eq_true rfl | omega) (fun p_44 o_45 R_43 => ?_)
                         refine r_val (.some rfl rfl) rfl (p_ldg0 Try.underlying5 rfl rfl R_43 (by first | exact of_decide_eq_true rfl | omega) (rfl : _ = Value.int _ _)) ?_
                         refine r_val (.some rfl rfl) rfl (p_remk rfl rfl (by omega)) ?_
                         refine r_val (.some rfl rfl) rfl (p_eq rfl rfl) ?_
                         refine r_val .none rfl (p_pick_t rfl rfl) ?_
                         refine r_nil ?_
                         refine e_next ?_
                         refine c_splitd (d := 98) rfl (fun h_46 => ?_) (fun h_46 => ?_)
                         ·
                          have hD := h_46
                          first
                           | (exfalso; first | omega | assumption)
                           | (
                            refine c_cond_t rfl ?_
                            refine c_seq ?_
                            refine c_region ?_
                            refine r_conv (B := rowA v_39 66 4 ((fs ++ [((j : Int) + 1, (ls.getD j (0, 0, 0)))])).length (((fs ++ [((j : Int) + 1, (ls.getD j (0, 0, 0)))])).flatMap fC)) (k := 4) rfl (fun _ _ h => rowA_snoc rfl rfl rfl rfl _ _ h) ?_
                            refine r_freeze (k := 4) rfl (fun G_47 hn_48 hs_49 => ?_)
                            replace hs := hs.mono hn_48.le
                            replace hws := hws.mono hn_48.le
                            replace hgs := hgs.mono hn_48.le
                            replace R_29 := R_29.mono hn_48.le
                            replace R_35 := R_35.mono hn_48.le
                            replace R_43 := R_43.mono hn_48.le
                            have hfs : SlL G_47 v_39 4 fC (0, zT) (fs ++ [((j : Int) + 1, (ls.getD j (0, 0, 0)))]) := SlL.of2 (0, zT) (fun _ => rfl) rfl rfl hs_49
                            refine r_val .none rfl (p_move rfl) ?_
                            refine r_val .none rfl (p_move rfl) ?_
                            refine r_iaddr_g .none rfl Try.underlying57 sz5 rfl hgs rfl (by first | exact of_decide_eq_true rfl | omega) (fun p_51 o_52 R_50 => ?_)
                            refine r_val .none rfl (p_ldg0 Try.underlying5 rfl rfl R_50 (by first | exact of_decide_eq_true rfl | omega) (rfl : _ = Value.int _ _)) ?_
                            refine r_val .none rfl (p_conv Try.underlying5 Try.underlying3 rfl (IntWalk.i64_in _ (by omega))) ?_
                            refine r_val .none rfl (p_move rfl) ?_
                            refine r_val .none rfl (p_leng Try.underlying63 rfl hfs) ?_
                            have bd_53 := (hfs).bound
                            refine r_val .none rfl (p_rem rfl rfl (by simp only [List.length_append, List.length_cons, List.length_nil]; omega)) ?_
                            rw [mod_nat]
                            obtain ⟨k, hk⟩ : ∃ k, gs.getD j 0 % 256 % (fs ++ [((j : Int) + 1, (ls.getD j (0, 0, 0)))]).length = k := ⟨_, rfl⟩
                            rw [hk]
                            have hkl : k < (fs ++ [((j : Int) + 1, (ls.getD j (0, 0, 0)))]).length := by rw [← hk]; exact Nat.mod_lt _ (by simp)
                            have hfl2 : (fs ++ [((j : Int) + 1, (ls.getD j (0, 0, 0)))]).length = fs.length + 1 := by simp
                            refine r_val .none rfl (p_assign rfl) ?_
                            refine r_nil ?_
                            refine e_next ?_
                            refine c_seq ?_
                            refine c_region ?_
                            refine r_val .none rfl (p_move rfl) ?_
                            refine r_val .none rfl (p_move rfl) ?_
                            refine r_val .none rfl (p_move rfl) ?_
                            refine r_iaddr_g .none rfl Try.underlying63 sz66 rfl hfs rfl (by first | exact of_decide_eq_true rfl | omega) (fun p_55 o_56 R_54 => ?_)
                            refine r_val .none rfl (p_ldga0 Try.underlying66 rfl sz66 rfl R_54 (by first | exact of_decide_eq_true rfl | omega) (rfl : _ = Value.agg #[_, _, _, _])) ?_
                            refine r_front (k := 2) rfl ?_
                            refine r_callor (k := 0) (vs := [_, _]) .none rfl cl30 rfl rfl (fun w F hw hA hFG => c_sremove _ ((fs ++ [((j : Int) + 1, (ls.getD j (0, 0, 0)))]).getD k (0, zT)) (tAdd u (ws.getD j (0, 0, 0))) ((((ws.take j).length : Nat) : Int) + 1) (doneC putC (tAdd u (ws.getD j (0, 0, 0))) (wantC c (ws.getD j (0, 0, 0)) fs (cnt u (ws.getD j (0, 0, 0)))) ((j : Int) + 1, (ls.getD j (0, 0, 0)))).2 w hw hA hFG) (fun r_57 => ?_)
                            refine r_unpack ?_
                            have hW3 := hW2.del hkl
                            refine r_nil ?_
                            refine e_next ?_
                            refine c_region_d (fun _ => false) _ mixed (.keep (fun _ _ h => h) (.keep (fun _ _ h => h) (.keep (fun _ _ h => h) (.keep (fun _ _ h => h) (.keep (fun _ _ h => h) (.keep (fun _ _ h => h) (.nil))))))) ?_
                            refine d_val1 1 rfl rfl (by kernel_rfl) (fun _ _ => rfl) .none rfl (p_move rfl) ?_
                            refine d_val1 2 rfl rfl (by kernel_rfl) (fun _ _ => rfl) .none rfl (p_move rfl) ?_
                            refine d_slice0 3 k rfl rfl (by kernel_rfl) (fun _ _ => rfl) .none rfl Try.underlying63 sz66 rfl hfs rfl (by first | exact of_decide_eq_true rfl | omega) (fun v_58 hs_59 => ?_)
                            refine d_val1 5 rfl rfl (by kernel_rfl) (fun _ _ => rfl) .none rfl (p_move rfl) ?_
                            refine d_val1 6 rfl rfl (by kernel_rfl) (fun _ _ => rfl) .none rfl (p_move rfl) ?_
                            refine d_val1 7 rfl rfl (by kernel_rfl) (fun _ _ => rfl) .none rfl (p_add rfl rfl (by omega)) ?_
                            refine d_sliceL 8 (k + 1) rfl rfl (by kernel_rfl) (fun _ _ => rfl) .none rfl Try.underlying63 sz66 rfl hfs rfl (by first | exact of_decide_eq_true rfl | omega) (fun v_61 hs_62 => ?_)
                            refine d_eff 0 rfl (by kernel_rfl) (fun K_64 hKK_64 hcK_64 => ?_)
                            refine r_bslice0 .none rfl Try.underlying63 el66 (fun v_65 => ?_)
                            refine r_nil (e_d (i := 0) (brk := (fun _ => false)) (ph' := true) hKK_64 hcK_64 rfl (fun _ => GLe.refl _) (fun _ => .drop (.keep (fun _ _ h => h) (.keep (fun _ _ h => h) (.keep (fun _ _ h => h) (.keep (fun _ _ h => h) (.keep (fun _ _ h => h) (.keep (fun _ _ h => h) (.nil)))))))) ?_)
                            clear hKK_64 hcK_64 K_64
                            refine d_eff 4 rfl (by kernel_rfl) (fun K_66 hKK_66 hcK_66 => ?_)
                            refine r_append_g (k := 0) .none rfl Try.underlying63 el66 rfl (by decide) rfl rfl rfl hs_59 (fun _ _ _ hj => one_lit rfl rfl _ hj) (by simp only [maxLen]; omega) (by omega) (fun v_67 => ?_)
                            refine r_row1 (k := 0) rfl (fun o_68 => ?_)
                            refine r_nil (e_d (i := 4) (brk := (fun _ => false)) (ph' := true) hKK_66 hcK_66 rfl (fun _ => GLe.refl _) (fun _ => .drop (.keep (fun _ _ h => h) (.keep (fun _ _ h => h) (.keep (fun _ _ h => h) (.keep (fun _ _ h => h) (.keep (fun _ _ h => h) (.keep (fun _ _ h => h) (.nil)))))))) ?_)
                            clear hKK_66 hcK_66 K_66
                            refine d_eff 9 rfl (by kernel_rfl) (fun K_69 hKK_69 hcK_69 => ?_)
                            refine r_append_g (k := 0) .none rfl Try.underlying63 el66 rfl (by decide) rfl rfl rfl hs_62 (fun _ _ _ hj => one_lit rfl rfl _ hj) (by simp only [maxLen]; omega) (by omega) (fun v_70 => ?_)
                            refine r_row1 (k := 0) rfl (fun o_71 => ?_)
                            refine r_nil (e_d (i := 9) (brk := (fun _ => false)) (ph' := true) hKK_69 hcK_69 rfl (fun _ => GLe.refl _) (fun _ => .drop (.keep (fun _ _ h => h) (.keep (fun _ _ h => h) (.keep (fun _ _ h => h) (.keep (fun _ _ h => h) (.keep (fun _ _ h => h) (.keep (fun _ _ h => h) (.nil)))))))) ?_)
                            clear hKK_69 hcK_69 K_69
                            refine d_val1 10 rfl rfl (by kernel_rfl) (fun _ _ => rfl) .none rfl (p_assign rfl) ?_
                            refine d_nil (by kernel_rfl) ?_
                            refine e_norm_block ?_
                            refine e_next ?_
                            refine c_region ?_
                            refine r_val .none rfl (p_add rfl rfl (by omega)) ?_
                            refine r_val .none rfl (p_move rfl) ?_
                            refine r_nil ?_
                            refine e_front (k := 2) rfl ?_
                            refine e_front (k := 1) rfl ?_
                            refine e_round ((j + 1, (tAdd u (ws.getD j (0, 0, 0))), (doneC takeC (tAdd u (ws.getD j (0, 0, 0))) (doneC putC (tAdd u (ws.getD j (0, 0, 0))) (wantC c (ws.getD j (0, 0, 0)) fs (cnt u (ws.getD j (0, 0, 0)))) ((j : Int) + 1, (ls.getD j (0, 0, 0)))).2 ((fs ++ [((j : Int) + 1, (ls.getD j (0, 0, 0)))]).getD k (0, zT))).2, cutF (fs ++ [((j : Int) + 1, (ls.getD j (0, 0, 0)))]) k, _, _)) ⟨⟨by dsimp only; omega, hW3, (hgn.trans hn_48)⟩, by dsimp only; omega⟩ rfl ⟨rfl, rfl, rfl, rfl, rfl, rfl, rfl, rfl, trivial⟩ (.keep (fun _ _ h => rowA_cutF hkl _ _ h) (.keep (fun _ _ h => by rw [show (((ws.take (j + 1)).length : Nat) : Int) = ((((ws.take j).length : Nat) : Int) + 1) from (by simp only [List.length_take]; omega)]; exact h) (.drop (.drop (.drop (.drop (.drop (.nil))))))))
                            )
                         ·
                          first
                           | (exfalso; first | omega | assumption)
                           | (
                            refine c_cond_f rfl ?_
                            refine c_skip ?_
                            refine e_norm_block ?_
                            refine e_next ?_
                            refine c_region ?_
                            refine r_val .none rfl (p_add rfl rfl (by omega)) ?_
                            refine r_val .none rfl (p_move rfl) ?_
                            refine r_nil ?_
                            refine e_front (k := 2) rfl ?_
                            refine e_front (k := 4) rfl ?_
                            refine e_round ((j + 1, (tAdd u (ws.getD j (0, 0, 0))), (doneC putC (tAdd u (ws.getD j (0, 0, 0))) (wantC c (ws.getD j (0, 0, 0)) fs (cnt u (ws.getD j (0, 0, 0)))) ((j : Int) + 1, (ls.getD j (0, 0, 0)))).2, (fs ++ [((j : Int) + 1, (ls.getD j (0, 0, 0)))]), _, _)) ⟨⟨by dsimp only; omega, hW2, hgn⟩, by dsimp only; omega⟩ rfl ⟨rfl, rfl, rfl, rfl, rfl, rfl, rfl, rfl, trivial⟩ (.keep (fun _ _ h => rowA_snoc rfl rfl rfl rfl _ _ h) (.keep (fun _ _ h => by rw [show (((ws.take (j + 1)).length : Nat) : Int) = ((((ws.take j).length : Nat) : Int) + 1) from (by simp only [List.length_take]; omega)]; exact h) (.drop (.drop (.drop (.drop (.nil)))))))
                            )
                         )
                      ·
                       first
                        | (exfalso; first | omega | assumption)
                        | (
                         refine r_skip rfl (.no rfl rfl) ?_
                         refine r_skip rfl (.no rfl rfl) ?_
                         refine r_skip rfl (.no rfl rfl) ?_
                         refine r_skip rfl (.no rfl rfl) ?_
                         refine r_skip rfl (.no rfl rfl) ?_
                         refine r_skip rfl (.no rfl rfl) ?_
                         refine r_val .none rfl (p_pick_f rfl rfl) ?_
                         refine r_nil ?_
                         refine e_next ?_
                         refine c_cond_f rfl ?_
                         refine c_skip ?_
                         refine e_norm_block ?_
                         refine e_next ?_
                         refine c_region ?_
                         refine r_val .none rfl (p_add rfl rfl (by omega)) ?_
                         refine r_val .none rfl (p_move rfl) ?_
                         refine r_nil ?_
                         refine e_front (k := 2) rfl ?_
                         refine e_front (k := 4) rfl ?_
                         refine e_round ((j + 1, (tAdd u (ws.getD j (0, 0, 0))), (doneC putC (tAdd u (ws.getD j (0, 0, 0))) (wantC c (ws.getD j (0, 0, 0)) fs (cnt u (ws.getD j (0, 0, 0)))) ((j : Int) + 1, (ls.getD j (0, 0, 0)))).2, (fs ++ [((j : Int) + 1, (ls.getD j (0, 0, 0)))]), _, _)) ⟨⟨by dsimp only; omega, hW2, hgn⟩, by dsimp only; omega⟩ rfl ⟨rfl, rfl, rfl, rfl, rfl, rfl, rfl, rfl, trivial⟩ (.keep (fun _ _ h => rowA_snoc rfl rfl rfl rfl _ _ h) (.keep (fun _ _ h => by rw [show (((ws.take (j + 1)).length : Nat) : Int) = ((((ws.take j).length : Nat) : Int) + 1) from (by simp only [List.length_take]; omega)]; exact h) (.drop (.drop (.drop (.drop (.nil)))))))
                         )
                      )
                   ·
                    have hw1 : ¬ j < ws.length := by (have h9 := h_34; omega)
                    first
                     | (exfalso; first | omega | assumption)
                     | (
                      refine c_cond_f rfl ?_
                      refine c_skip ?_
                      refine e_next ?_
                      refine c_seq ?_
                      refine c_region ?_
                      refine r_val .none rfl (p_move rfl) ?_
                      refine r_val .none rfl (p_add rfl rfl (by omega)) ?_
                      refine r_val .none rfl (p_ldw (k := 0) Try.underlying61 rfl sz61 rfl rfl (rfl : _ = Value.agg #[_, _, _])) ?_
                      refine r_val .none rfl (p_build (vs := [(0, Value.int _ _), (1, Value.agg #[_, _, _])]) rfl (bl66_0i1_1a3 _ _ _ _)) ?_
                      refine r_alloc .none rfl zr66 (IsRow.lit _) (fun b_5 => ?_)
                      refine r_stw (k := 0) .none sz66 rfl rfl (IsRow.lit _) (one_lit rfl rfl) rfl ?_
                      refine r_nil ?_
                      refine e_next ?_
                      refine c_seq ?_
                      refine c_region ?_
                      refine r_val .none rfl (p_move rfl) ?_
                      refine r_val .none rfl (p_ldw (k := 0) Try.underlying66 rfl sz66 rfl rfl (rfl : _ = Value.agg #[_, _, _, _])) ?_
                      refine r_front (k := 3) rfl ?_
                      refine r_callor (k := 0) (vs := [_, _]) .none rfl cl29 rfl rfl (fun w F hw hA hFG => c_sadd _ ((j : Int) + 1, (ls.getD j (0, 0, 0))) u (((ws.take j).length : Nat) : Int) c w hw hA hFG) (fun r_72 => ?_)
                      refine r_unpack ?_
                      have hW2 := hW.add (ls.getD j (0, 0, 0))
                      rw [← take_all hw1] at hW2
                      refine r_nil ?_
                      refine e_next ?_
                      refine c_seq ?_
                      refine c_region ?_
                      refine r_val .none rfl (p_move rfl) ?_
                      refine r_val .none rfl (p_ldw (k := 2) Try.underlying66 rfl sz66 rfl rfl (rfl : _ = Value.agg #[_, _, _, _])) ?_
                      refine r_bslice (vs := [(0, Value.agg #[_, _, _, _])]) (c := #[_, _, _, _]) .none rfl Try.underlying63 el66 rfl rfl rfl (bs66_10a4 _ _ _ _) (IsRow.lit _) (fun b_6 => ?_)
                      refine r_append (k := 5) (k2 := 0) .none rfl Try.underlying63 el66 rfl (by decide) rfl rfl rfl rfl rfl (one_lit rfl rfl) (by simp only [maxLen]; omega) (by omega) (fun v_73 => ?_)
                      refine r_row1 (k := 5) rfl (fun o_74 => ?_)
                      refine r_val .none rfl (p_assign rfl) ?_
                      refine r_nil ?_
                      refine e_next ?_
                      refine c_seq ?_
                      refine c_region ?_
                      refine r_val .none rfl (p_move rfl) ?_
                      refine r_val .none rfl (p_move rfl) ?_
                      refine r_val .none rfl (p_leng Try.underlying57 rfl hgs) ?_
                      have bd_75 := (hgs).bound
                      refine r_val .none rfl (p_lt rfl rfl) ?_
                      refine r_val .none rfl (p_move rfl) ?_
                      refine r_splitd (d := 91) rfl (fun h_76 => ?_) (fun h_76 => ?_)
                      ·
                       first
                        | (exfalso; first | omega | assumption)
                        | (
                         refine r_val (.some rfl rfl) rfl (p_move rfl) ?_
                         refine r_val (.some rfl rfl) rfl (p_move rfl) ?_
                         refine r_iaddr_g (.some rfl rfl) rfl Try.underlying57 sz5 rfl hgs rfl (by first | exact of_decide_eq_true rfl | omega) (fun p_78 o_79 R_77 => ?_)
                         refine r_val (.some rfl rfl) rfl (p_ldg0 Try.underlying5 rfl rfl R_77 (by first | exact of_decide_eq_true rfl | omega) (rfl : _ = Value.int _ _)) ?_
                         refine r_val (.some rfl rfl) rfl (p_remk rfl rfl (by omega)) ?_
                         refine r_val (.some rfl rfl) rfl (p_eq rfl rfl) ?_
                         refine r_val .none rfl (p_pick_t rfl rfl) ?_
                         refine r_nil ?_
                         refine e_next ?_
                         refine c_splitd (d := 98) rfl (fun h_80 => ?_) (fun h_80 => ?_)
                         ·
                          have hD := h_80
                          first
                           | (exfalso; first | omega | assumption)
                           | (
                            refine c_cond_t rfl ?_
                            refine c_seq ?_
                            refine c_region ?_
                            refine r_conv (B := rowA v_73 66 4 ((fs ++ [((j : Int) + 1, (ls.getD j (0, 0, 0)))])).length (((fs ++ [((j : Int) + 1, (ls.getD j (0, 0, 0)))])).flatMap fC)) (k := 5) rfl (fun _ _ h => rowA_snoc rfl rfl rfl rfl _ _ h) ?_
                            refine r_freeze (k := 5) rfl (fun G_81 hn_82 hs_83 => ?_)
                            replace hs := hs.mono hn_82.le
                            replace hws := hws.mono hn_82.le
                            replace hgs := hgs.mono hn_82.le
                            replace R_29 := R_29.mono hn_82.le
                            replace R_77 := R_77.mono hn_82.le
                            have hfs : SlL G_81 v_73 4 fC (0, zT) (fs ++ [((j : Int) + 1, (ls.getD j (0, 0, 0)))]) := SlL.of2 (0, zT) (fun _ => rfl) rfl rfl hs_83
                            refine r_val .none rfl (p_move rfl) ?_
                            refine r_val .none rfl (p_move rfl) ?_
                            refine r_iaddr_g .none rfl Try.underlying57 sz5 rfl hgs rfl (by first | exact of_decide_eq_true rfl | omega) (fun p_85 o_86 R_84 => ?_)
                            refine r_val .none rfl (p_ldg0 Try.underlying5 rfl rfl R_84 (by first | exact of_decide_eq_true rfl | omega) (rfl : _ = Value.int _ _)) ?_
                            refine r_val .none rfl (p_conv Try.underlying5 Try.underlying3 rfl (IntWalk.i64_in _ (by omega))) ?_
                            refine r_val .none rfl (p_move rfl) ?_
                            refine r_val .none rfl (p_leng Try.underlying63 rfl hfs) ?_
                            have bd_87 := (hfs).bound
                            refine r_val .none rfl (p_rem rfl rfl (by simp only [List.length_append, List.length_cons, List.length_nil]; omega)) ?_
                            rw [mod_nat]
                            obtain ⟨k, hk⟩ : ∃ k, gs.getD j 0 % 256 % (fs ++ [((j : Int) + 1, (ls.getD j (0, 0, 0)))]).length = k := ⟨_, rfl⟩
                            rw [hk]
                            have hkl : k < (fs ++ [((j : Int) + 1, (ls.getD j (0, 0, 0)))]).length := by rw [← hk]; exact Nat.mod_lt _ (by simp)
                            have hfl2 : (fs ++ [((j : Int) + 1, (ls.getD j (0, 0, 0)))]).length = fs.length + 1 := by simp
                            refine r_val .none rfl (p_assign rfl) ?_
                            refine r_nil ?_
                            refine e_next ?_
                            refine c_seq ?_
                            refine c_region ?_
                            refine r_val .none rfl (p_move rfl) ?_
                            refine r_val .none rfl (p_move rfl) ?_
                            refine r_val .none rfl (p_move rfl) ?_
                            refine r_iaddr_g .none rfl Try.underlying63 sz66 rfl hfs rfl (by first | exact of_decide_eq_true rfl | omega) (fun p_89 o_90 R_88 => ?_)
                            refine r_val .none rfl (p_ldga0 Try.underlying66 rfl sz66 rfl R_88 (by first | exact of_decide_eq_true rfl | omega) (rfl : _ = Value.agg #[_, _, _, _])) ?_
                            refine r_front (k := 2) rfl ?_
                            refine r_callor (k := 0) (vs := [_, _]) .none rfl cl30 rfl rfl (fun w F hw hA hFG => c_sremove _ ((fs ++ [((j : Int) + 1, (ls.getD j (0, 0, 0)))]).getD k (0, zT)) u (((ws.take j).length : Nat) : Int) (doneC putC u c ((j : Int) + 1, (ls.getD j (0, 0, 0)))).2 w hw hA hFG) (fun r_91 => ?_)
                            refine r_unpack ?_
                            have hW3 := hW2.del hkl
                            refine r_nil ?_
                            refine e_next ?_
                            refine c_region_d (fun _ => false) _ mixed (.keep (fun _ _ h => h) (.keep (fun _ _ h => h) (.keep (fun _ _ h => h) (.keep (fun _ _ h => h) (.keep (fun _ _ h => h) (.keep (fun _ _ h => h) (.nil))))))) ?_
                            refine d_val1 1 rfl rfl (by kernel_rfl) (fun _ _ => rfl) .none rfl (p_move rfl) ?_
                            refine d_val1 2 rfl rfl (by kernel_rfl) (fun _ _ => rfl) .none rfl (p_move rfl) ?_
                            refine d_slice0 3 k rfl rfl (by kernel_rfl) (fun _ _ => rfl) .none rfl Try.underlying63 sz66 rfl hfs rfl (by first | exact of_decide_eq_true rfl | omega) (fun v_92 hs_93 => ?_)
                            refine d_val1 5 rfl rfl (by kernel_rfl) (fun _ _ => rfl) .none rfl (p_move rfl) ?_
                            refine d_val1 6 rfl rfl (by kernel_rfl) (fun _ _ => rfl) .none rfl (p_move rfl) ?_
                            refine d_val1 7 rfl rfl (by kernel_rfl) (fun _ _ => rfl) .none rfl (p_add rfl rfl (by omega)) ?_
                            refine d_sliceL 8 (k + 1) rfl rfl (by kernel_rfl) (fun _ _ => rfl) .none rfl Try.underlying63 sz66 rfl hfs rfl (by first | exact of_decide_eq_true rfl | omega) (fun v_95 hs_96 => ?_)
                            refine d_eff 0 rfl (by kernel_rfl) (fun K_98 hKK_98 hcK_98 => ?_)
                            refine r_bslice0 .none rfl Try.underlying63 el66 (fun v_99 => ?_)
                            refine r_nil (e_d (i := 0) (brk := (fun _ => false)) (ph' := true) hKK_98 hcK_98 rfl (fun _ => GLe.refl _) (fun _ => .drop (.keep (fun _ _ h => h) (.keep (fun _ _ h => h) (.keep (fun _ _ h => h) (.keep (fun _ _ h => h) (.keep (fun _ _ h => h) (.keep (fun _ _ h => h) (.nil)))))))) ?_)
                            clear hKK_98 hcK_98 K_98
                            refine d_eff 4 rfl (by kernel_rfl) (fun K_100 hKK_100 hcK_100 => ?_)
                            refine r_append_g (k := 0) .none rfl Try.underlying63 el66 rfl (by decide) rfl rfl rfl hs_93 (fun _ _ _ hj => one_lit rfl rfl _ hj) (by simp only [maxLen]; omega) (by omega) (fun v_101 => ?_)
                            refine r_row1 (k := 0) rfl (fun o_102 => ?_)
                            refine r_nil (e_d (i := 4) (brk := (fun _ => false)) (ph' := true) hKK_100 hcK_100 rfl (fun _ => GLe.refl _) (fun _ => .drop (.keep (fun _ _ h => h) (.keep (fun _ _ h => h) (.keep (fun _ _ h => h) (.keep (fun _ _ h => h) (.keep (fun _ _ h => h) (.keep (fun _ _ h => h) (.nil)))))))) ?_)
                            clear hKK_100 hcK_100 K_100
                            refine d_eff 9 rfl (by kernel_rfl) (fun K_103 hKK_103 hcK_103 => ?_)
                            refine r_append_g (k := 0) .none rfl Try.underlying63 el66 rfl (by decide) rfl rfl rfl hs_96 (fun _ _ _ hj => one_lit rfl rfl _ hj) (by simp only [maxLen]; omega) (by omega) (fun v_104 => ?_)
                            refine r_row1 (k := 0) rfl (fun o_105 => ?_)
                            refine r_nil (e_d (i := 9) (brk := (fun _ => false)) (ph' := true) hKK_103 hcK_103 rfl (fun _ => GLe.refl _) (fun _ => .drop (.keep (fun _ _ h => h) (.keep (fun _ _ h => h) (.keep (fun _ _ h => h) (.keep (fun _ _ h => h) (.keep (fun _ _ h => h) (.keep (fun _ _ h => h) (.nil)))))))) ?_)
                            clear hKK_103 hcK_103 K_103
                            refine d_val1 10 rfl rfl (by kernel_rfl) (fun _ _ => rfl) .none rfl (p_assign rfl) ?_
                            refine d_nil (by kernel_rfl) ?_
                            refine e_norm_block ?_
                            refine e_next ?_
                            refine c_region ?_
                            refine r_val .none rfl (p_add rfl rfl (by omega)) ?_
                            refine r_val .none rfl (p_move rfl) ?_
                            refine r_nil ?_
                            refine e_front (k := 2) rfl ?_
                            refine e_front (k := 1) rfl ?_
                            refine e_round ((j + 1, u, (doneC takeC u (doneC putC u c ((j : Int) + 1, (ls.getD j (0, 0, 0)))).2 ((fs ++ [((j : Int) + 1, (ls.getD j (0, 0, 0)))]).getD k (0, zT))).2, cutF (fs ++ [((j : Int) + 1, (ls.getD j (0, 0, 0)))]) k, _, _)) ⟨⟨by dsimp only; omega, hW3, (hgn.trans hn_82)⟩, by dsimp only; omega⟩ rfl ⟨rfl, rfl, rfl, rfl, rfl, rfl, rfl, rfl, trivial⟩ (.keep (fun _ _ h => rowA_cutF hkl _ _ h) (.keep (fun _ _ h => by rw [show (((ws.take (j + 1)).length : Nat) : Int) = (((ws.take j).length : Nat) : Int) from (by simp only [List.length_take]; omega)]; exact h) (.drop (.drop (.drop (.drop (.drop (.nil))))))))
                            )
                         ·
                          first
                           | (exfalso; first | omega | assumption)
                           | (
                            refine c_cond_f rfl ?_
                            refine c_skip ?_
                            refine e_norm_block ?_
                            refine e_next ?_
                            refine c_region ?_
                            refine r_val .none rfl (p_add rfl rfl (by omega)) ?_
                            refine r_val .none rfl (p_move rfl) ?_
                            refine r_nil ?_
                            refine e_front (k := 2) rfl ?_
                            refine e_front (k := 5) rfl ?_
                            refine e_round ((j + 1, u, (doneC putC u c ((j : Int) + 1, (ls.getD j (0, 0, 0)))).2, (fs ++ [((j : Int) + 1, (ls.getD j (0, 0, 0)))]), _, _)) ⟨⟨by dsimp only; omega, hW2, hgn⟩, by dsimp only; omega⟩ rfl ⟨rfl, rfl, rfl, rfl, rfl, rfl, rfl, rfl, trivial⟩ (.keep (fun _ _ h => rowA_snoc rfl rfl rfl rfl _ _ h) (.keep (fun _ _ h => by rw [show (((ws.take (j + 1)).length : Nat) : Int) = (((ws.take j).length : Nat) : Int) from (by simp only [List.length_take]; omega)]; exact h) (.drop (.drop (.drop (.drop (.nil)))))))
                            )
                         )
                      ·
                       first
                        | (exfalso; first | omega | assumption)
                        | (
                         refine r_skip rfl (.no rfl rfl) ?_
                         refine r_skip rfl (.no rfl rfl) ?_
                         refine r_skip rfl (.no rfl rfl) ?_
                         refine r_skip rfl (.no rfl rfl) ?_
                         refine r_skip rfl (.no rfl rfl) ?_
                         refine r_skip rfl (.no rfl rfl) ?_
                         refine r_val .none rfl (p_pick_f rfl rfl) ?_
                         refine r_nil ?_
                         refine e_next ?_
                         refine c_cond_f rfl ?_
                         refine c_skip ?_
                         refine e_norm_block ?_
                         refine e_next ?_
                         refine c_region ?_
                         refine r_val .none rfl (p_add rfl rfl (by omega)) ?_
                         refine r_val .none rfl (p_move rfl) ?_
                         refine r_nil ?_
                         refine e_front (k := 2) rfl ?_
                         refine e_front (k := 5) rfl ?_
                         refine e_round ((j + 1, u, (doneC putC u c ((j : Int) + 1, (ls.getD j (0, 0, 0)))).2, (fs ++ [((j : Int) + 1, (ls.getD j (0, 0, 0)))]), _, _)) ⟨⟨by dsimp only; omega, hW2, hgn⟩, by dsimp only; omega⟩ rfl ⟨rfl, rfl, rfl, rfl, rfl, rfl, rfl, rfl, trivial⟩ (.keep (fun _ _ h => rowA_snoc rfl rfl rfl rfl _ _ h) (.keep (fun _ _ h => by rw [show (((ws.take (j + 1)).length : Nat) : Int) = (((ws.take j).length : Nat) : Int) from (by simp only [List.length_take]; omega)]; exact h) (.drop (.drop (.drop (.drop (.nil)))))))
                         )
                      )
                   )
                )
             ·
              first
               | (exfalso; first | omega | assumption)
               | (
                refine c_cond_f rfl ?_
                refine c_exit ?_
                refine e_exit_then ?_
                refine e_exit_then ?_
                refine e_exit_block ?_
                refine e_next ?_
                refine c_seq ?_
                refine c_seq ?_
                refine c_region ?_
                refine r_freeze (k := 0) rfl (fun G_106 hn_107 hs_108 => ?_)
                replace hs := hs.mono hn_107.le
                replace hws := hws.mono hn_107.le
                replace hgs := hgs.mono hn_107.le
                have hfs : SlL G_106 fv 4 fC (0, zT) fs := SlL.of2 (0, zT) (fun _ => rfl) rfl rfl hs_108
                refine r_val .none rfl (p_move rfl) ?_
                refine r_val .none rfl (p_leng Try.underlying56 rfl hws) ?_
                have bd_109 := (hws).bound
                refine r_val .none rfl (p_move rfl) ?_
                refine r_nil ?_
                refine e_next ?_
                refine c_block ?_
                refine c_name (d := 0) rfl (fun u_110 hu_110 => ?_)
                refine c_name (d := 7) rfl (fun u_111 hu_111 => ?_)
                refine c_name (d := 10) rfl (fun u_112 hu_112 => ?_)
                refine c_name (d := 124) rfl (fun u_113 hu_113 => ?_)
                refine c_name (d := 125) rfl (fun u_114 hu_114 => ?_)
                refine c_loop (σ := Nat × List (Tri × Int) × SC × Ghost) (fun s => [(126, Value.int .i64 (s.1 : Nat)), (0, u_110), (7, u_111), (10, u_112), (124, u_113), (125, u_114)]) (fun s => [storeA p_1 s.2.1 (((ws.take (max j s.1)).length : Nat) : Int) s.2.2.1]) (fun s => s.2.2.2) (fun s => s.1 ≤ ws.length ∧ Whole s.2.1 s.2.2.1 fs (ws.take (max j s.1)) j ∧ GNew w nX G_106 s.2.2.2) (fun s => ws.length - s.1) ((0, u, c, _)) ⟨Nat.zero_le _, by rw [Nat.max_zero]; exact hW, GNew.refl _ _ _⟩ rfl ⟨rfl, rfl, rfl, rfl, rfl, rfl, trivial⟩ (.keep (fun _ _ h => by rw [Nat.max_zero]; exact h) (.nil)) (fun s hphi => ?_)
                subst hu_110
                subst hu_111
                subst hu_112
                subst hu_113
                subst hu_114
                obtain ⟨i, u2, c2, H2⟩ := s
                obtain ⟨hi, hW2, hgn2⟩ := hphi
                dsimp only at hi hW2 hgn2 ⊢
                have hns2 : (ws.take (max j i)).length ≤ 1000 := by rw [List.length_take]; omega
                replace hs := hs.mono hgn2.le
                replace hws := hws.mono hgn2.le
                replace hgs := hgs.mono hgn2.le
                replace hfs := hfs.mono hgn2.le
                refine c_seq ?_
                refine c_region ?_
                refine r_val .none rfl (p_lt rfl rfl) ?_
                refine r_nil ?_
                refine e_next ?_
                refine c_seq ?_
                refine c_splitd (d := 127) rfl (fun h_115 => ?_) (fun h_115 => ?_)
                ·
                 first
                  | (exfalso; first | omega | assumption)
                  | (
                   refine c_cond_t rfl ?_
                   refine c_skip ?_
                   refine e_next ?_
                   refine c_seq ?_
                   refine c_block ?_
                   refine c_seq ?_
                   refine c_region ?_
                   refine r_val .none rfl (p_move rfl) ?_
                   refine r_iaddr_g .none rfl Try.underlying56 sz61 rfl hws rfl (by first | exact of_decide_eq_true rfl | omega) (fun p_117 o_118 R_116 => ?_)
                   refine r_val .none rfl (p_ldga0 Try.underlying61 rfl sz61 rfl R_116 (by first | exact of_decide_eq_true rfl | omega) (rfl : _ = Value.agg #[_, _, _])) ?_
                   refine r_alloc .none rfl zr61 (IsRow.lit _) (fun b_7 => ?_)
                   refine r_val .none rfl (p_assign rfl) ?_
                   refine r_stw (k := 0) .none sz61 rfl rfl (IsRow.lit _) (one_lit rfl rfl) rfl ?_
                   refine r_nil ?_
                   refine e_next ?_
                   refine c_seq ?_
                   refine c_seq ?_
                   refine c_region ?_
                   refine r_val .none rfl (p_move rfl) ?_
                   refine r_val .none rfl (p_move rfl) ?_
                   refine r_val .none rfl (p_leng Try.underlying56 rfl hs) ?_
                   have bd_119 := (hs).bound
                   refine r_val .none rfl (p_ge rfl rfl) ?_
                   refine r_nil ?_
                   refine e_next ?_
                   refine c_splitd (d := 134) rfl (fun h_120 => ?_) (fun h_120 => ?_)
                   ·
                    have hw2 : j ≤ i := by (have h9 := h_120; omega)
                    first
                     | (exfalso; first | omega | assumption)
                     | (
                      refine c_cond_t rfl ?_
                      refine c_region ?_
                      refine r_val .none rfl (p_move rfl) ?_
                      refine r_val .none rfl (p_ldw (k := 0) Try.underlying61 rfl sz61 rfl rfl (rfl : _ = Value.agg #[_, _, _])) ?_
                      refine r_val .none rfl (p_move rfl) ?_
                      refine r_callo (k := 1) (vs := [_, _, _]) .none rfl cl28 rfl rfl (fun w F hw hA hFG => c_swant _ (ws.getD i (0, 0, 0)) _ fs u2 (((ws.take (max j i)).length : Nat) : Int) c2 (hW2.cb hns2 _) (by omega) hfs (hW2.hinv _) w hw hA hFG) ?_
                      refine r_nil ?_
                      refine e_next ?_
                      refine c_seq ?_
                      refine c_region ?_
                      refine r_val .none rfl (p_assign rfl) ?_
                      refine r_nil ?_
                      refine e_next ?_
                      refine c_seq ?_
                      refine c_seq ?_
                      refine c_region ?_
                      refine r_val .none rfl (p_move rfl) ?_
                      refine r_val .none rfl (p_leng Try.underlying63 rfl hfs) ?_
                      have bd_121 := (hfs).bound
                      refine r_val .none rfl (p_move rfl) ?_
                      refine r_nil ?_
                      refine e_next ?_
                      refine c_block ?_
                      refine c_nilrow 3 1 ?_
                      refine c_name (d := 0) rfl (fun u_122 hu_122 => ?_)
                      refine c_name (d := 7) rfl (fun u_123 hu_123 => ?_)
                      refine c_name (d := 10) rfl (fun u_124 hu_124 => ?_)
                      refine c_name (d := 15) rfl (fun u_125 hu_125 => ?_)
                      refine c_name (d := 16) rfl (fun u_126 hu_126 => ?_)
                      refine c_name (d := 124) rfl (fun u_127 hu_127 => ?_)
                      refine c_name (d := 125) rfl (fun u_128 hu_128 => ?_)
                      refine c_name (d := 126) rfl (fun u_129 hu_129 => ?_)
                      refine c_name (d := 127) rfl (fun u_130 hu_130 => ?_)
                      refine c_name (d := 128) rfl (fun u_131 hu_131 => ?_)
                      refine c_name (d := 129) rfl (fun u_132 hu_132 => ?_)
                      refine c_name (d := 130) rfl (fun u_133 hu_133 => ?_)
                      refine c_name (d := 131) rfl (fun u_134 hu_134 => ?_)
                      refine c_name (d := 132) rfl (fun u_135 hu_135 => ?_)
                      refine c_name (d := 133) rfl (fun u_136 hu_136 => ?_)
                      refine c_name (d := 134) rfl (fun u_137 hu_137 => ?_)
                      refine c_name (d := 135) rfl (fun u_138 hu_138 => ?_)
                      refine c_name (d := 136) rfl (fun u_139 hu_139 => ?_)
                      refine c_name (d := 137) rfl (fun u_140 hu_140 => ?_)
                      refine c_name (d := 138) rfl (fun u_141 hu_141 => ?_)
                      refine c_name (d := 139) rfl (fun u_142 hu_142 => ?_)
                      refine c_name (d := 140) rfl (fun u_143 hu_143 => ?_)
                      refine c_nameL (k := 1) rfl (fun A_144 hA_144 => ?_)
                      refine c_nameL (k := 2) rfl (fun A_145 hA_145 => ?_)
                      refine c_loop (σ := Nat × Value) (fun s => [(141, Value.int .i64 (s.1 : Nat)), (17, s.2), (0, u_122), (7, u_123), (10, u_124), (15, u_125), (16, u_126), (124, u_127), (125, u_128), (126, u_129), (127, u_130), (128, u_131), (129, u_132), (130, u_133), (131, u_134), (132, u_135), (133, u_136), (134, u_137), (135, u_138), (136, u_139), (137, u_140), (138, u_141), (139, u_142), (140, u_143)]) (fun s => [rowA (s.2) 3 1 ((((fs.take s.1).filter fun f => hasK f.2 (ws.getD i (0, 0, 0))).map Prod.fst)).length (((((fs.take s.1).filter fun f => hasK f.2 (ws.getD i (0, 0, 0))).map Prod.fst)).flatMap cI), A_144, A_145]) (fun _ => _) (fun s => s.1 ≤ fs.length) (fun s => fs.length - s.1) ((0, _)) (Nat.zero_le _) rfl ⟨rfl, rfl, rfl, rfl, rfl, rfl, rfl, rfl, rfl, rfl, rfl, rfl, rfl, rfl, rfl, rfl, rfl, rfl, rfl, rfl, rfl, rfl, rfl, rfl, trivial⟩ (.keep (fun _ _ h => rowA_nil rfl _ _ h) (.keep (fun _ _ h => h) (.keep (fun _ _ h => h) (.nil)))) (fun s hphi => ?_)
                      subst hu_122
                      subst hu_123
                      subst hu_124
                      subst hu_125
                      subst hu_126
                      subst hu_127
                      subst hu_128
                      subst hu_129
                      subst hu_130
                      subst hu_131
                      subst hu_132
                      subst hu_133
                      subst hu_134
                      subst hu_135
                      subst hu_136
                      subst hu_137
                      subst hu_138
                      subst hu_139
                      subst hu_140
                      subst hu_141
                      subst hu_142
                      subst hu_143
                      subst hA_144
                      subst hA_145
                      obtain ⟨m, wv⟩ := s
                      dsimp only at hphi ⊢
                      have hwl : (((fs.take m).filter fun f => hasK f.2 (ws.getD i (0, 0, 0))).map Prod.fst).length ≤ 1000 := by rw [List.length_map]; exact Nat.le_trans (List.length_filter_le _ _) (by rw [List.length_take]; omega)
                      refine c_seq ?_
                      refine c_region ?_
                      refine r_val .none rfl (p_lt rfl rfl) ?_
                      refine r_nil ?_
                      refine e_next ?_
                      refine c_seq ?_
                      refine c_splitd (d := 142) rfl (fun h_146 => ?_) (fun h_146 => ?_)
                      ·
                       first
                        | (exfalso; first | omega | assumption)
                        | (
                         refine c_cond_t rfl ?_
                         refine c_skip ?_
                         refine e_next ?_
                         refine c_seq ?_
                         refine c_block ?_
                         refine c_seq ?_
                         refine c_region ?_
                         refine r_iaddr_g .none rfl Try.underlying63 sz66 rfl hfs rfl (by first | exact of_decide_eq_true rfl | omega) (fun p_148 o_149 R_147 => ?_)
                         refine r_val .none rfl (p_ldga0 Try.underlying66 rfl sz66 rfl R_147 (by first | exact of_decide_eq_true rfl | omega) (rfl : _ = Value.agg #[_, _, _, _])) ?_
                         refine r_alloc .none rfl zr66 (IsRow.lit _) (fun b_8 => ?_)
                         refine r_stw (k := 0) .none sz66 rfl rfl (IsRow.lit _) (one_lit rfl rfl) rfl ?_
                         refine r_nil ?_
                         refine e_next ?_
                         refine c_seq ?_
                         refine c_region ?_
                         refine r_val .none rfl (p_field Try.underlying66 rfl sz61 rfl) ?_
                         refine r_val .none rfl (p_lda (k := 0) Try.underlying61 rfl sz61 rfl rfl (by first | exact of_decide_eq_true rfl | omega) (rfl : _ = Value.agg #[_, _, _])) ?_
                         refine r_val .none rfl (p_ldw (k := 2) Try.underlying61 rfl sz61 rfl rfl (rfl : _ = Value.agg #[_, _, _])) ?_
                         refine r_call (vs := [_, _]) .none rfl cl31 rfl (fun w hw => c_has7 (fs.getD m (0, zT)).2 (ws.getD i (0, 0, 0)) w) ?_
                         refine r_nil ?_
                         refine e_next ?_
                         refine c_split (d := 148) rfl (fun h_150 => ?_) (fun h_150 => ?_)
                         ·
                          have hK := h_150
                          first
                           | (exfalso; first | omega | assumption)
                           | (
                            refine c_cond_t rfl ?_
                            refine c_region ?_
                            refine r_val .none rfl (p_move rfl) ?_
                            refine r_val .none rfl (p_field Try.underlying66 rfl sz3 rfl) ?_
                            refine r_val .none rfl (p_ld (k := 0) Try.underlying3 rfl rfl rfl (by first | exact of_decide_eq_true rfl | omega) (rfl : _ = Value.int _ _)) ?_
                            refine r_bslice (vs := [(0, Value.int _ _)]) (c := #[_]) .none rfl Try.underlying42 el3 rfl rfl rfl (bs3_10i2 _ _) (IsRow.lit _) (fun b_9 => ?_)
                            refine r_append (k := 2) (k2 := 0) .none rfl Try.underlying42 el3 rfl (by decide) rfl rfl rfl rfl rfl (one_lit rfl rfl) (by simp only [maxLen]; omega) (by omega) (fun v_151 => ?_)
                            refine r_row1 (k := 2) rfl (fun o_152 => ?_)
                            refine r_val .none rfl (p_assign rfl) ?_
                            refine r_nil ?_
                            refine e_norm_block ?_
                            refine e_next ?_
                            refine c_region ?_
                            refine r_val .none rfl (p_add rfl rfl (by omega)) ?_
                            refine r_val .none rfl (p_move rfl) ?_
                            refine r_nil ?_
                            refine e_round ((m + 1, _)) ⟨by dsimp only; omega, by dsimp only; omega⟩ rfl ⟨rfl, rfl, rfl, rfl, rfl, rfl, rfl, rfl, rfl, rfl, rfl, rfl, rfl, rfl, rfl, rfl, rfl, rfl, rfl, rfl, rfl, rfl, rfl, rfl, trivial⟩ (.drop (.drop (.keep (fun _ _ h => by rw [filter_next (by omega), if_pos hK]; exact rowA_snoc rfl rfl rfl rfl _ _ h) (.keep (fun _ _ h => h) (.keep (fun _ _ h => h) (.nil))))))
                            )
                         ·
                          have hK := h_150
                          first
                           | (exfalso; first | omega | assumption)
                           | (
                            refine c_cond_f rfl ?_
                            refine c_skip ?_
                            refine e_norm_block ?_
                            refine e_next ?_
                            refine c_region ?_
                            refine r_val .none rfl (p_add rfl rfl (by omega)) ?_
                            refine r_val .none rfl (p_move rfl) ?_
                            refine r_nil ?_
                            refine e_round ((m + 1, _)) ⟨by dsimp only; omega, by dsimp only; omega⟩ rfl ⟨rfl, rfl, rfl, rfl, rfl, rfl, rfl, rfl, rfl, rfl, rfl, rfl, rfl, rfl, rfl, rfl, rfl, rfl, rfl, rfl, rfl, rfl, rfl, rfl, trivial⟩ (.drop (.keep (fun _ _ h => by rw [filter_next (by omega), if_neg (by rw [hK]; simp), List.append_nil]; exact h) (.keep (fun _ _ h => h) (.keep (fun _ _ h => h) (.nil)))))
                            )
                         )
                      ·
                       first
                        | (exfalso; first | omega | assumption)
                        | (
                         refine c_cond_f rfl ?_
                         refine c_exit ?_
                         refine e_exit_then ?_
                         refine e_exit_then ?_
                         refine e_exit_block ?_
                         refine e_next ?_
                         refine c_seq ?_
                         refine c_region ?_
                         have hW4 := hW2.want (ws.getD i (0, 0, 0))
                         rw [← take_more (0, 0, 0) hw2 (by omega)] at hW4
                         refine r_val .none rfl (p_move rfl) ?_
                         refine r_val .none rfl (p_ldw (k := 1) Try.underlying61 rfl sz61 rfl rfl (rfl : _ = Value.agg #[_, _, _])) ?_
                         refine r_callom (k := 2) (vs := [_, _]) .none rfl cl33 rfl rfl (fun w F hw hA hFG => c_sitems _ (ws.getD i (0, 0, 0)) (tAdd u2 (ws.getD i (0, 0, 0))) ((((ws.take (max j i)).length : Nat) : Int) + 1) (wantC c2 (ws.getD i (0, 0, 0)) fs (cnt u2 (ws.getD i (0, 0, 0)))) (hW4.wf (by omega) _) w hw hA hFG) (fun G_153 v_156 hn_154 hr_155 => ?_)
                         replace hs := hs.mono hn_154.le
                         replace hws := hws.mono hn_154.le
                         replace hgs := hgs.mono hn_154.le
                         replace hfs := hfs.mono hn_154.le
                         replace R_116 := R_116.mono hn_154.le
                         have u_157 := hr_155
                         refine r_val .none rfl (p_move rfl) ?_
                         refine r_callr (k := 0) (vs := [_, _]) .none rfl cl32 rfl rfl (fun w G_158 hw hle_159 hs_160 => c_ints12 _ _ _ _ (u_157.mono hle_159) (SlL.of (cells := cI) (0 : Int) (fun _ => rfl) rfl hs_160) w hw) ?_
                         refine r_val .none rfl (p_not rfl) ?_
                         refine r_nil ?_
                         refine e_next ?_
                         refine c_splitn (d := 160) rfl (fun h_161 => ?_) (fun h_161 => ?_)
                         ·
                          have hx : False := by (have h9 := h_161; have hm9 : fs.take m = fs := List.take_of_length_le (by omega); have e9 := hW4.items (mem_take_max (0, 0, 0) (show i < ws.length by omega)); rw [hm9, decide_eq_true e9] at h9; cases h9)
                          first
                           | (exfalso; first | omega | assumption)
                           | (
                            refine c_cond_t rfl ?_
                            refine c_seq ?_
                            refine c_region ?_
                            refine r_val .none rfl (p_assign rfl) ?_
                            refine r_nil ?_
                            refine e_next ?_
                            refine c_ret ?_
                            refine e_ret_block ?_
                            refine e_ret_then ?_
                            refine e_ret_then ?_
                            refine e_ret_block ?_
                            refine e_ret_then ?_
                            refine e_ret1 Try.results5 (.tmp rfl .nil) (fun w hm => ⟨?_, hm.since⟩)
                            first
                            | rfl
                            | exact hx.elim
                            | (simp; done)
                            )
                         ·
                          first
                           | (exfalso; first | omega | assumption)
                           | (
                            refine c_cond_f rfl ?_
                            refine c_skip ?_
                            refine e_norm_block ?_
                            refine e_next ?_
                            refine c_region ?_
                            refine r_val .none rfl (p_add rfl rfl (by omega)) ?_
                            refine r_val .none rfl (p_move rfl) ?_
                            refine r_nil ?_
                            refine e_round ((i + 1, (tAdd u2 (ws.getD i (0, 0, 0))), (wantC c2 (ws.getD i (0, 0, 0)) fs (cnt u2 (ws.getD i (0, 0, 0)))), _)) ⟨⟨by dsimp only; omega, hW4, (hgn2.trans hn_154)⟩, by dsimp only; omega⟩ rfl ⟨rfl, rfl, rfl, rfl, rfl, rfl, trivial⟩ (.drop (.drop (.keep (fun _ _ h => by rw [show (((ws.take (max j (i + 1))).length : Nat) : Int) = ((((ws.take (max j i)).length : Nat) : Int) + 1) from (by simp only [List.length_take]; omega)]; exact h) (.nil))))
                            )
                         )
                      )
                   ·
                    have hw2 : i < j := by (have h9 := h_120; omega)
                    first
                     | (exfalso; first | omega | assumption)
                     | (
                      refine c_cond_f rfl ?_
                      refine c_skip ?_
                      refine e_next ?_
                      refine c_seq ?_
                      refine c_region ?_
                      refine r_val .none rfl (p_assign rfl) ?_
                      refine r_nil ?_
                      refine e_next ?_
                      refine c_seq ?_
                      refine c_seq ?_
                      refine c_region ?_
                      refine r_val .none rfl (p_move rfl) ?_
                      refine r_val .none rfl (p_leng Try.underlying63 rfl hfs) ?_
                      have bd_162 := (hfs).bound
                      refine r_val .none rfl (p_move rfl) ?_
                      refine r_nil ?_
                      refine e_next ?_
                      refine c_block ?_
                      refine c_nilrow 3 1 ?_
                      refine c_name (d := 0) rfl (fun u_163 hu_163 => ?_)
                      refine c_name (d := 7) rfl (fun u_164 hu_164 => ?_)
                      refine c_name (d := 10) rfl (fun u_165 hu_165 => ?_)
                      refine c_name (d := 15) rfl (fun u_166 hu_166 => ?_)
                      refine c_name (d := 16) rfl (fun u_167 hu_167 => ?_)
                      refine c_name (d := 124) rfl (fun u_168 hu_168 => ?_)
                      refine c_name (d := 125) rfl (fun u_169 hu_169 => ?_)
                      refine c_name (d := 126) rfl (fun u_170 hu_170 => ?_)
                      refine c_name (d := 127) rfl (fun u_171 hu_171 => ?_)
                      refine c_name (d := 128) rfl (fun u_172 hu_172 => ?_)
                      refine c_name (d := 129) rfl (fun u_173 hu_173 => ?_)
                      refine c_name (d := 130) rfl (fun u_174 hu_174 => ?_)
                      refine c_name (d := 131) rfl (fun u_175 hu_175 => ?_)
                      refine c_name (d := 132) rfl (fun u_176 hu_176 => ?_)
                      refine c_name (d := 133) rfl (fun u_177 hu_177 => ?_)
                      refine c_name (d := 134) rfl (fun u_178 hu_178 => ?_)
                      refine c_name (d := 139) rfl (fun u_179 hu_179 => ?_)
                      refine c_name (d := 140) rfl (fun u_180 hu_180 => ?_)
                      refine c_nameL (k := 1) rfl (fun A_181 hA_181 => ?_)
                      refine c_nameL (k := 2) rfl (fun A_182 hA_182 => ?_)
                      refine c_loop (σ := Nat × Value) (fun s => [(141, Value.int .i64 (s.1 : Nat)), (17, s.2), (0, u_163), (7, u_164), (10, u_165), (15, u_166), (16, u_167), (124, u_168), (125, u_169), (126, u_170), (127, u_171), (128, u_172), (129, u_173), (130, u_174), (131, u_175), (132, u_176), (133, u_177), (134, u_178), (139, u_179), (140, u_180)]) (fun s => [rowA (s.2) 3 1 ((((fs.take s.1).filter fun f => hasK f.2 (ws.getD i (0, 0, 0))).map Prod.fst)).length (((((fs.take s.1).filter fun f => hasK f.2 (ws.getD i (0, 0, 0))).map Prod.fst)).flatMap cI), A_181, A_182]) (fun _ => _) (fun s => s.1 ≤ fs.length) (fun s => fs.length - s.1) ((0, _)) (Nat.zero_le _) rfl ⟨rfl, rfl, rfl, rfl, rfl, rfl, rfl, rfl, rfl, rfl, rfl, rfl, rfl, rfl, rfl, rfl, rfl, rfl, rfl, rfl, trivial⟩ (.keep (fun _ _ h => rowA_nil rfl _ _ h) (.keep (fun _ _ h => h) (.keep (fun _ _ h => h) (.nil)))) (fun s hphi => ?_)
                      subst hu_163
                      subst hu_164
                      subst hu_165
                      subst hu_166
                      subst hu_167
                      subst hu_168
                      subst hu_169
                      subst hu_170
                      subst hu_171
                      subst hu_172
                      subst hu_173
                      subst hu_174
                      subst hu_175
                      subst hu_176
                      subst hu_177
                      subst hu_178
                      subst hu_179
                      subst hu_180
                      subst hA_181
                      subst hA_182
                      obtain ⟨m, wv⟩ := s
                      dsimp only at hphi ⊢
                      have hwl : (((fs.take m).filter fun f => hasK f.2 (ws.getD i (0, 0, 0))).map Prod.fst).length ≤ 1000 := by rw [List.length_map]; exact Nat.le_trans (List.length_filter_le _ _) (by rw [List.length_take]; omega)
                      refine c_seq ?_
                      refine c_region ?_
                      refine r_val .none rfl (p_lt rfl rfl) ?_
                      refine r_nil ?_
                      refine e_next ?_
                      refine c_seq ?_
                      refine c_splitd (d := 142) rfl (fun h_183 => ?_) (fun h_183 => ?_)
                      ·
                       first
                        | (exfalso; first | omega | assumption)
                        | (
                         refine c_cond_t rfl ?_
                         refine c_skip ?_
                         refine e_next ?_
                         refine c_seq ?_
                         refine c_block ?_
                         refine c_seq ?_
                         refine c_region ?_
                         refine r_iaddr_g .none rfl Try.underlying63 sz66 rfl hfs rfl (by first | exact of_decide_eq_true rfl | omega) (fun p_185 o_186 R_184 => ?_)
                         refine r_val .none rfl (p_ldga0 Try.underlying66 rfl sz66 rfl R_184 (by first | exact of_decide_eq_true rfl | omega) (rfl : _ = Value.agg #[_, _, _, _])) ?_
                         refine r_alloc .none rfl zr66 (IsRow.lit _) (fun b_10 => ?_)
                         refine r_stw (k := 0) .none sz66 rfl rfl (IsRow.lit _) (one_lit rfl rfl) rfl ?_
                         refine r_nil ?_
                         refine e_next ?_
                         refine c_seq ?_
                         refine c_region ?_
                         refine r_val .none rfl (p_field Try.underlying66 rfl sz61 rfl) ?_
                         refine r_val .none rfl (p_lda (k := 0) Try.underlying61 rfl sz61 rfl rfl (by first | exact of_decide_eq_true rfl | omega) (rfl : _ = Value.agg #[_, _, _])) ?_
                         refine r_val .none rfl (p_ldw (k := 2) Try.underlying61 rfl sz61 rfl rfl (rfl : _ = Value.agg #[_, _, _])) ?_
                         refine r_call (vs := [_, _]) .none rfl cl31 rfl (fun w hw => c_has7 (fs.getD m (0, zT)).2 (ws.getD i (0, 0, 0)) w) ?_
                         refine r_nil ?_
                         refine e_next ?_
                         refine c_split (d := 148) rfl (fun h_187 => ?_) (fun h_187 => ?_)
                         ·
                          have hK := h_187
                          first
                           | (exfalso; first | omega | assumption)
                           | (
                            refine c_cond_t rfl ?_
                            refine c_region ?_
                            refine r_val .none rfl (p_move rfl) ?_
                            refine r_val .none rfl (p_field Try.underlying66 rfl sz3 rfl) ?_
                            refine r_val .none rfl (p_ld (k := 0) Try.underlying3 rfl rfl rfl (by first | exact of_decide_eq_true rfl | omega) (rfl : _ = Value.int _ _)) ?_
                            refine r_bslice (vs := [(0, Value.int _ _)]) (c := #[_]) .none rfl Try.underlying42 el3 rfl rfl rfl (bs3_10i2 _ _) (IsRow.lit _) (fun b_11 => ?_)
                            refine r_append (k := 2) (k2 := 0) .none rfl Try.underlying42 el3 rfl (by decide) rfl rfl rfl rfl rfl (one_lit rfl rfl) (by simp only [maxLen]; omega) (by omega) (fun v_188 => ?_)
                            refine r_row1 (k := 2) rfl (fun o_189 => ?_)
                            refine r_val .none rfl (p_assign rfl) ?_
                            refine r_nil ?_
                            refine e_norm_block ?_
                            refine e_next ?_
                            refine c_region ?_
                            refine r_val .none rfl (p_add rfl rfl (by omega)) ?_
                            refine r_val .none rfl (p_move rfl) ?_
                            refine r_nil ?_
                            refine e_round ((m + 1, _)) ⟨by dsimp only; omega, by dsimp only; omega⟩ rfl ⟨rfl, rfl, rfl, rfl, rfl, rfl, rfl, rfl, rfl, rfl, rfl, rfl, rfl, rfl, rfl, rfl, rfl, rfl, rfl, rfl, trivial⟩ (.drop (.drop (.keep (fun _ _ h => by rw [filter_next (by omega), if_pos hK]; exact rowA_snoc rfl rfl rfl rfl _ _ h) (.keep (fun _ _ h => h) (.keep (fun _ _ h => h) (.nil))))))
                            )
                         ·
                          have hK := h_187
                          first
                           | (exfalso; first | omega | assumption)
                           | (
                            refine c_cond_f rfl ?_
                            refine c_skip ?_
                            refine e_norm_block ?_
                            refine e_next ?_
                            refine c_region ?_
                            refine r_val .none rfl (p_add rfl rfl (by omega)) ?_
                            refine r_val .none rfl (p_move rfl) ?_
                            refine r_nil ?_
                            refine e_round ((m + 1, _)) ⟨by dsimp only; omega, by dsimp only; omega⟩ rfl ⟨rfl, rfl, rfl, rfl, rfl, rfl, rfl, rfl, rfl, rfl, rfl, rfl, rfl, rfl, rfl, rfl, rfl, rfl, rfl, rfl, trivial⟩ (.drop (.keep (fun _ _ h => by rw [filter_next (by omega), if_neg (by rw [hK]; simp), List.append_nil]; exact h) (.keep (fun _ _ h => h) (.keep (fun _ _ h => h) (.nil)))))
                            )
                         )
                      ·
                       first
                        | (exfalso; first | omega | assumption)
                        | (
                         refine c_cond_f rfl ?_
                         refine c_exit ?_
                         refine e_exit_then ?_
                         refine e_exit_then ?_
                         refine e_exit_block ?_
                         refine e_next ?_
                         refine c_seq ?_
                         refine c_region ?_
                         have hW4 := hW2
                         rw [← take_same (by omega)] at hW4
                         refine r_val .none rfl (p_move rfl) ?_
                         refine r_val .none rfl (p_ldw (k := 1) Try.underlying61 rfl sz61 rfl rfl (rfl : _ = Value.agg #[_, _, _])) ?_
                         refine r_callom (k := 2) (vs := [_, _]) .none rfl cl33 rfl rfl (fun w F hw hA hFG => c_sitems _ (ws.getD i (0, 0, 0)) u2 (((ws.take (max j i)).length : Nat) : Int) c2 (hW4.wf (by omega) _) w hw hA hFG) (fun G_190 v_193 hn_191 hr_192 => ?_)
                         replace hs := hs.mono hn_191.le
                         replace hws := hws.mono hn_191.le
                         replace hgs := hgs.mono hn_191.le
                         replace hfs := hfs.mono hn_191.le
                         replace R_116 := R_116.mono hn_191.le
                         have u_194 := hr_192
                         refine r_val .none rfl (p_move rfl) ?_
                         refine r_callr (k := 0) (vs := [_, _]) .none rfl cl32 rfl rfl (fun w G_195 hw hle_196 hs_197 => c_ints12 _ _ _ _ (u_194.mono hle_196) (SlL.of (cells := cI) (0 : Int) (fun _ => rfl) rfl hs_197) w hw) ?_
                         refine r_val .none rfl (p_not rfl) ?_
                         refine r_nil ?_
                         refine e_next ?_
                         refine c_splitn (d := 160) rfl (fun h_198 => ?_) (fun h_198 => ?_)
                         ·
                          have hx : False := by (have h9 := h_198; have hm9 : fs.take m = fs := List.take_of_length_le (by omega); have e9 := hW4.items (mem_take_max (0, 0, 0) (show i < ws.length by omega)); rw [hm9, decide_eq_true e9] at h9; cases h9)
                          first
                           | (exfalso; first | omega | assumption)
                           | (
                            refine c_cond_t rfl ?_
                            refine c_seq ?_
                            refine c_region ?_
                            refine r_val .none rfl (p_assign rfl) ?_
                            refine r_nil ?_
                            refine e_next ?_
                            refine c_ret ?_
                            refine e_ret_block ?_
                            refine e_ret_then ?_
                            refine e_ret_then ?_
                            refine e_ret_block ?_
                            refine e_ret_then ?_
                            refine e_ret1 Try.results5 (.tmp rfl .nil) (fun w hm => ⟨?_, hm.since⟩)
                            first
                            | rfl
                            | exact hx.elim
                            | (simp; done)
                            )
                         ·
                          first
                           | (exfalso; first | omega | assumption)
                           | (
                            refine c_cond_f rfl ?_
                            refine c_skip ?_
                            refine e_norm_block ?_
                            refine e_next ?_
                            refine c_region ?_
                            refine r_val .none rfl (p_add rfl rfl (by omega)) ?_
                            refine r_val .none rfl (p_move rfl) ?_
                            refine r_nil ?_
                            refine e_round ((i + 1, u2, c2, _)) ⟨⟨by dsimp only; omega, hW4, (hgn2.trans hn_191)⟩, by dsimp only; omega⟩ rfl ⟨rfl, rfl, rfl, rfl, rfl, rfl, trivial⟩ (.drop (.drop (.keep (fun _ _ h => by rw [show (((ws.take (max j (i + 1))).length : Nat) : Int) = (((ws.take (max j i)).length : Nat) : Int) from (by simp only [List.length_take]; omega)]; exact h) (.nil))))
                            )
                         )
                      )
                   )
                ·
                 first
                  | (exfalso; first | omega | assumption)
                  | (
                   refine c_cond_f rfl ?_
                   refine c_exit ?_
                   refine e_exit_then ?_
                   refine e_exit_then ?_
                   refine e_exit_block ?_
                   refine e_next ?_
                   refine c_seq ?_
                   refine c_region ?_
                   refine r_call (vs := []) .none rfl cl25 rfl (fun w hw => c_awake12 w) ?_
                   refine r_val .none rfl (p_assign rfl) ?_
                   refine r_nil ?_
                   refine e_next ?_
                   refine c_ret ?_
                   refine e_ret1 Try.results5 (.tmp rfl .nil) (fun w hm => ⟨?_, hm.since⟩)
                   first
                   | rfl
                   | exact hx.elim
                   | (simp; done)
                   )
                )
             )
          )
       )
    )
end Go.Proofs.Ytdcaehepmkhciaa
